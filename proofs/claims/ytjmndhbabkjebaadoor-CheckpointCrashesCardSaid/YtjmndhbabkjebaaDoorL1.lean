/- Laws, on plain data, about functions that the statement reaches. -/
import Derived.Test.YtjmndhbabkjebaaDoorT9
set_option linter.unusedSimpArgs false
set_option linter.unusedVariables false
set_option linter.unnecessarySimpa false
set_option maxRecDepth 100000
namespace Go.Proofs.YtjmndhbabkjebaaDoor
open Go.Eng Go.Pi
open Option (bind_some)
abbrev Str:=List UInt8
def fld (p:Str × Str):List D:=[.str p.1,.str p.2]
structure Lin where
 off:Int
 len:Int
 txt:Str
 deriving DecidableEq
def a1t (l:Lin):List D:=[.int .i64 l.off,.int .i64 l.len,.str l.txt]
structure Ev where
 a0:Int
 a1:Int
 a2:Int
 a3:Int
 ls:List Lin
 ld:D
 a5:Int
 a6:Int
 s7:Str
 s8:Str
 fs:List (Str × Str)
 fd:D
 hfd:SlOf 2 fld fs fd
 hl:fs.length≤9223372036854775807
 hld:SlOf 3 a1t ls ld
 hll:ls.length≤9223372036854775807
def evr (e:Ev):List D:=[.int .i64 e.a0,.int .i64 e.a1,.int .i64 e.a2,.int .i64 e.a3,e.ld,.int .i64 e.a5,.int .i64 e.a6,.str e.s7,.str e.s8,e.fd]
structure It where
 r:Str
 e:Ev
def itr (i:It):List D := .str i.r::evr i.e
structure Hld where
 n:Str
 f:Str
 v:Str
 fr:Int
 to:Int
theorem b0i (n0:Nat) (h:Hp) (n:Nat) (p:Str × Str):∀ d∈fld p,frz n0 h n d=d:=by simp [-bind_some, fld]
theorem b4s (n:Nat) (p:Str × Str):∀ d∈fld p,Ok n d:=by
 intro d hd
 simp [-bind_some, fld] at hd
 rcases hd with rfl | rfl <;> constructor
theorem a5j (n0:Nat) (h:Hp) (n:Nat) (p:Lin):∀ d∈a1t p,frz n0 h n d=d:=by simp [-bind_some, a1t]
theorem b0r (n:Nat) (p:Lin):∀ d∈a1t p,Ok n d:=by
 intro d hd
 simp [-bind_some, a1t] at hd
 rcases hd with rfl | rfl | rfl <;> constructor
theorem b4f (n0:Nat) (h:Hp) (n:Nat) (e:Ev):∀ d∈evr e,frz n0 h (n+1) d=d:=by
 intro d hd
 simp [-bind_some, evr] at hd
 rcases hd with rfl | rfl | rfl | rfl | rfl | rfl | rfl | rfl | rfl | rfl
 all_goals first | exact a5o e.hld (fun a _=>a5j _ _ _ a) | exact a5o e.hfd (fun a _=>b0i _ _ _ a) | simp [-bind_some]
theorem b8l (n:Nat) (e:Ev):∀ d∈evr e,Ok n d:=by
 intro d hd
 simp [-bind_some, evr] at hd
 rcases hd with rfl | rfl | rfl | rfl | rfl | rfl | rfl | rfl | rfl | rfl
 all_goals first | exact a1Q e.hld (fun a _=>b0r _ a) | exact a1Q e.hfd (fun a _=>b4s _ a) | constructor
theorem a9n (n:Nat) (i:It):Ok n (.agg (itr i)):=by
 refine .agg _ fun d hd=>?_
 simp [-bind_some, itr,evr] at hd
 rcases hd with rfl | rfl | rfl | rfl | rfl | rfl | rfl | rfl | rfl | rfl | rfl
 all_goals first | exact a1Q i.e.hld (fun a _=>b0r _ a) | exact a1Q i.e.hfd (fun a _=>b4s _ a) | constructor
theorem a6J (n0:Nat) (h:Hp) (n:Nat) (i:It):∀ d∈itr i,frz n0 h (n+1) d=d:=by
 intro d hd
 rcases d0W.1 hd with rfl | hd
 ·simp [-bind_some]
 ·exact b4f n0 h n i.e d hd
theorem b0n (n:Nat) (i:It):∀ d∈itr i,Ok n d:=by
 intro d hd
 rcases d0W.1 hd with rfl | hd
 ·exact .str _
 ·exact b8l n i.e d hd
theorem evL (e:Ev) (h:Hp):a0d tab h a0F (.fptr (evr e))=some (.agg (evr e)):=id rfl
theorem c7S (i:It):a0a tab a0P 1 (.fptr (itr i))=some (.fptr (evr i.e)):=id rfl
theorem c7R (i:It):a0a tab a0P 0 (.fptr (itr i))=some (.fptr (itr i)):=id rfl
theorem c7T (i:It) (h:Hp):a0d tab h ty9 (.fptr (itr i))=some (.str i.r):=id rfl
theorem c7W (i:It) (h:Hp):a0d tab h a0P (.fptr (itr i))=some (.agg (itr i)):=id rfl
theorem c2r (i:It):a5x 11 (.agg (itr i))=some (.fptr (itr i)):=a2E 11 _ rfl
theorem a6N (l:Lin) (h:Hp):a0d tab h a1z (.fptr (a1t l))=some (.agg (a1t l)):=id rfl
theorem b4q (l:Str × Str) (h:Hp):a0d tab h a0t (.fptr (fld l))=some (.agg (fld l)):=id rfl
theorem c0k (a b:Lin):a0l tab .neq a1z (.agg (a1t a)) (.agg (a1t b))=some (.bool (decide (a≠b))):=by
 obtain ⟨a0,a1,a2⟩:=a
 obtain ⟨b0,b1,b2⟩:=b
 simp [-bind_some, a1t]
 by_cases h0:a0=b0 <;> by_cases h1:a1=b1 <;> by_cases h2:a2=b2 <;> simp [-bind_some, h0,h1,h2]
theorem b4r (a b:Str × Str):a0l tab .neq a0t (.agg (fld a)) (.agg (fld b))=some (.bool (decide (a≠b))):=by
 obtain ⟨a0,a1⟩:=a
 obtain ⟨b0,b1⟩:=b
 simp [-bind_some, fld]
 by_cases h0:a0=b0 <;> by_cases h1:a1=b1 <;> simp [-bind_some, h0,h1]
def byr (z:Int):List D:=[.int .u8 z]
theorem a7T (n0:Nat) (h:Hp) (n:Nat) (z:Int):∀ d∈byr z,frz n0 h n d=d:=by simp [-bind_some, byr]
theorem a8K (n:Nat) (z:Int):∀ d∈byr z,Ok n d:=by
 intro d hd
 simp [-bind_some, byr] at hd
 subst hd
 constructor
theorem b3D (z:Int) (h:Hp):a0d tab h ty5 (.fptr (byr z))=some (.int .u8 z):=id rfl
def stp (c:Int):Int:=if c % 2=1 then IntKind.wrap .u32 (BitVec.ofInt IntKind.u32.bits (c.fdiv 2) ^^^ BitVec.ofInt IntKind.u32.bits 3988292384).toNat else c.fdiv 2
def U32 (c:Int):Prop:=0≤c∧c<4294967296
def c8c:Nat→Int→Int
 | 0,c=>c
 | n+1,c=>c8c n (stp c)
def byt (c z:Int):Int:=c8c 8 (IntKind.wrap .u32 (BitVec.ofInt IntKind.u32.bits c ^^^ BitVec.ofInt IntKind.u32.bits (IntKind.wrap .u32 z)).toNat)
def c7N:Int→List Int→Int
 | c,[]=>c
 | c,z::r=>c7N (byt c z) r
def crc (l:List Int):Int:=IntKind.wrap .u32 (BitVec.ofInt IntKind.u32.bits (if IntKind.u32.signed then -1 else IntKind.u32.max) ^^^ BitVec.ofInt IntKind.u32.bits (c7N 4294967295 l)).toNat
theorem a2l {n:Int} (h0:0≤n) (h1:n<18446744073709551616):IntKind.wrap .u64 n=n:=by
 unfold IntKind.wrap
 simp [-bind_some, IntKind.signed,IntKind.bits,IntKind.min,IntKind.max]
 omega
theorem s94 (l r:List Lin) (d e:D) (h:Hp) (hd:SlOf 3 a1t l d) (he:SlOf 3 a1t r e) (hl:l.length≤9223372036854775807):R c6j [d,e] h=some (.bool (decide (l=r)),h):=by
 apply Wp.val
 rw [e94]
 simp only [F94,bs,d0B,a4x hd,a4x he,a0x]
 refine Wp.dif ?_ ?_
 ·intro hn
  have hn:l.length≠r.length:=by
   have:¬ (l.length:Int)=r.length:=by simpa using hn
   omega
  have hne:l≠r:=fun hh=>hn (by rw [hh])
  simp only [bs,a0h]
  exact .some (by simp [-bind_some, hne])
 ·intro hn
  have hn:l.length=r.length:=by
   have:(l.length:Int)=r.length:=by simpa using hn
   omega
  refine Wp.loop (fun k ds g=>g=h∧∃ a b c,∃ i:Nat,ds=[a,.int .i64 i,b,c]∧k+i=l.length∧l.take i=r.take i)
   (fun x=>x.2.2=h∧((x.1 = .ret∧nth 0 x.2.1 = .bool false∧l≠r)∨(x.1 = .ext 0∧l=r))) l.length ⟨rfl,_,_,_,0,rfl,rfl,rfl⟩ ?_ ?_
  ·rintro k ds g ⟨rfl,a,b,c,i,rfl,hk,hi⟩
   simp only [b8a,a0f,a0j,bs,d0B,a4x hd,a0o]
   refine Wp.dif ?_ ?_
   ·intro h0
    have h0:i<l.length:=dl_ h0
    have hg:l[i]?=some l[i]:=d0Q h0
    have hg2:r[i]?=some (r[i]'(by omega)):=d0Q (by omega)
    have hw:=wi_ i (by omega)
    generalize l[i]=x at hg
    generalize r[i]'(by omega)=y at hg2
    simp only [a9r hd,a9r he,Int.natCast_nonneg,if_true,d0K,hg,hg2,Option.map_some,bs,a6N,c0k]
    refine Wp.dif ?_ ?_
    ·intro hxy
     have hxy:x≠y:=by simpa using hxy
     try simp only [bs]
     refine .some (.inr ⟨by simp,rfl,.inl ⟨rfl,rfl,fun hh=>?_⟩⟩)
     subst hh
     rw [hg] at hg2
     injection hg2 with hg2
     exact hxy hg2
    ·intro hxy
     have hxy:x=y:=by simpa using hxy
     subst hxy
     simp only [a0r,bs,hw]
     refine .some (.inl ⟨rfl,k - 1,by omega,rfl,_,_,_,i+1,rfl,by omega,?_⟩)
     rw [d0N,d0N,hi,hg,hg2]
   ·intro h0
    have h0:i=l.length:=by
     have:¬ (i:Int)<l.length:=by simpa using h0
     omega
    refine .some (.inr ⟨by simp,rfl,.inr ⟨rfl,?_⟩⟩)
    have h1:l.take i=l:=List.take_of_length_le (by omega)
    have h2:r.take i=r:=List.take_of_length_le (by omega)
    rw [← h1,← h2,hi]
  ·rintro ⟨x,ds,g⟩ ⟨rfl,⟨rfl,hx,hne⟩ | ⟨rfl,hll⟩⟩
   ·replace hx:nth 0 ds = .bool false:=hx
    simp only [a2B,a2A,a2r,a0f,bs,hx,a0h]
    exact .some (by simp [-bind_some, hne])
   ·simp only [a0p,a0n,bs,a0h]
    exact .some (by simp [-bind_some, hll])
theorem s95 (l r:List (Str × Str)) (d e:D) (h:Hp) (hd:SlOf 2 fld l d) (he:SlOf 2 fld r e) (hl:l.length≤9223372036854775807):R c6k [d,e] h=some (.bool (decide (l=r)),h):=by
 apply Wp.val
 rw [e95]
 simp only [F95,bs,d0B,a3a hd,a3a he,a0x]
 refine Wp.dif ?_ ?_
 ·intro hn
  have hn:l.length≠r.length:=by
   have:¬ (l.length:Int)=r.length:=by simpa using hn
   omega
  have hne:l≠r:=fun hh=>hn (by rw [hh])
  simp only [bs,a0h]
  exact .some (by simp [-bind_some, hne])
 ·intro hn
  have hn:l.length=r.length:=by
   have:(l.length:Int)=r.length:=by simpa using hn
   omega
  refine Wp.loop (fun k ds g=>g=h∧∃ a b c,∃ i:Nat,ds=[a,.int .i64 i,b,c]∧k+i=l.length∧l.take i=r.take i)
   (fun x=>x.2.2=h∧((x.1 = .ret∧nth 0 x.2.1 = .bool false∧l≠r)∨(x.1 = .ext 0∧l=r))) l.length ⟨rfl,_,_,_,0,rfl,rfl,rfl⟩ ?_ ?_
  ·rintro k ds g ⟨rfl,a,b,c,i,rfl,hk,hi⟩
   simp only [b8b,a0f,a0j,bs,d0B,a3a hd,a0o]
   refine Wp.dif ?_ ?_
   ·intro h0
    have h0:i<l.length:=dl_ h0
    have hg:l[i]?=some l[i]:=d0Q h0
    have hg2:r[i]?=some (r[i]'(by omega)):=d0Q (by omega)
    have hw:=wi_ i (by omega)
    generalize l[i]=x at hg
    generalize r[i]'(by omega)=y at hg2
    simp only [b5c hd,b5c he,Int.natCast_nonneg,if_true,d0K,hg,hg2,Option.map_some,bs,b4q,b4r]
    refine Wp.dif ?_ ?_
    ·intro hxy
     have hxy:x≠y:=by simpa using hxy
     try simp only [bs]
     refine .some (.inr ⟨by simp,rfl,.inl ⟨rfl,rfl,fun hh=>?_⟩⟩)
     subst hh
     rw [hg] at hg2
     injection hg2 with hg2
     exact hxy hg2
    ·intro hxy
     have hxy:x=y:=by simpa using hxy
     subst hxy
     simp only [a0r,bs,hw]
     refine .some (.inl ⟨rfl,k - 1,by omega,rfl,_,_,_,i+1,rfl,by omega,?_⟩)
     rw [d0N,d0N,hi,hg,hg2]
   ·intro h0
    have h0:i=l.length:=by
     have:¬ (i:Int)<l.length:=by simpa using h0
     omega
    refine .some (.inr ⟨by simp,rfl,.inr ⟨rfl,?_⟩⟩)
    have h1:l.take i=l:=List.take_of_length_le (by omega)
    have h2:r.take i=r:=List.take_of_length_le (by omega)
    rw [← h1,← h2,hi]
  ·rintro ⟨x,ds,g⟩ ⟨rfl,⟨rfl,hx,hne⟩ | ⟨rfl,hll⟩⟩
   ·replace hx:nth 0 ds = .bool false:=hx
    simp only [a2B,a2A,a2r,a0f,bs,hx,a0h]
    exact .some (by simp [-bind_some, hne])
   ·simp only [a0p,a0n,bs,a0h]
    exact .some (by simp [-bind_some, hll])
def a5n (a b:Ev):Bool:=decide (a.a0=b.a0)&&(decide (a.a1=b.a1)&&(decide (a.a2=b.a2)&&(decide (a.a3=b.a3)&&(decide (a.a5=b.a5)&&(decide (a.a6=b.a6)&&(decide (a.s7=b.s7)&&(decide (a.s8=b.s8)&&(decide (a.ls=b.ls)&&decide (a.fs=b.fs)))))))))
def a4I (i j:It):Bool:=decide (i.r=j.r)&&a5n i.e j.e
theorem s82 (i j:It) (h:Hp):R c6i [.agg (itr i),.agg (itr j)] h=some (.bool (a4I i j),h):=by
 apply Wp.val
 rw [e82]
 simp only [F82,a2h,bs,d0B,c7S,c7R,c7T,evL]
 generalize hg0:a0J h a0F 10 [[.int .i64 0,.int .i64 0,.int .i64 0,.int .i64 0,.nils,.int .i64 0,.int .i64 0,.str [],.str [],.nils]]=g0
 have hgl:g0.length=h.length+1:=by simp [-bind_some, ← hg0,a0J]
 have hb:∀ q,q<h.length→g0[q]?=h[q]?:=fun q hq=>by simp only [← hg0,a0J];rw [d1a hq]
 have p8:g0[h.length]?=some (.row a0F 10 [[.int .i64 0,.int .i64 0,.int .i64 0,.int .i64 0,.nils,.int .i64 0,.int .i64 0,.str [],.str [],.nils]]):=by simp [-bind_some, ← hg0,a0J]
 clear hg0
 refine b6r p8 (by rfl) (by rfl) (by simp) (by rfl) fun g1 q8 s1=>?_
 replace q8:g1[h.length]?=some (.row a0F 10 [evr i.e]):=q8
 have hl1:g1.length=h.length+1:=by rw [s1.1,hgl]
 try simp only [a2j]
 rw [hl1]
 generalize hg1:a0J g1 a0F 10 [[.int .i64 0,.int .i64 0,.int .i64 0,.int .i64 0,.nils,.int .i64 0,.int .i64 0,.str [],.str [],.nils]]=g3
 have hgl3:h.length≤g3.length:=by simp [-bind_some, ← hg1,a0J];omega
 have hb3:∀ q,q<h.length+1→g3[q]?=g1[q]?:=fun q hq=>by simp only [← hg1,a0J];rw [d1a (by omega)]
 have p9:g3[h.length+1]?=some (.row a0F 10 [[.int .i64 0,.int .i64 0,.int .i64 0,.int .i64 0,.nils,.int .i64 0,.int .i64 0,.str [],.str [],.nils]]):=by
  simp only [← hg1,a0J];rw [← hl1,List.getElem?_append_right (Nat.le_refl _)];simp [-bind_some]
 replace q8:=(hb3 h.length (by omega)).trans q8
 clear hg1
 refine b6r p9 (by rfl) (by rfl) (by simp) (by rfl) fun g2 q9 s2=>?_
 replace q9:g2[h.length+1]?=some (.row a0F 10 [evr j.e]):=q9
 replace q8:=(s2.2 h.length (by omega)).trans q8
 have hb2:∀ q,q<h.length→g2[q]?=h[q]?:=fun q hq=>(((s2.2 q (by omega)).trans (hb3 q (by omega))).trans (s1.2 q (by omega))).trans (hb q hq)
 have hl2:h.length≤g2.length:=by have:=s2.1;omega
 have r8:g2.row h.length 0=some (evr i.e):=a0I q8
 have r9:g2.row (h.length+1) 0=some (evr j.e):=a0I q9
 have hsc:∀ b:Bool,scope h g2 (.bool b)=some (.bool b,h):=fun b=>a1y (by simp) (.bool b) hl2 hb2
 obtain ⟨ri,ei⟩:=i
 obtain ⟨rj,ej⟩:=j
 by_cases h0:ri=rj
 case neg=>exact ⟨_,by simp [-bind_some, h0,hsc,a4I],rfl⟩
 by_cases h1:ei.a0=ej.a0
 case neg=>exact ⟨_,by simp [-bind_some, h0,h1,hsc,a4I,a5n,r8,r9,evr],rfl⟩
 by_cases h2:ei.a1=ej.a1
 case neg=>exact ⟨_,by simp [-bind_some, h0,h1,h2,hsc,a4I,a5n,r8,r9,evr],rfl⟩
 by_cases h3:ei.a2=ej.a2
 case neg=>exact ⟨_,by simp [-bind_some, h0,h1,h2,h3,hsc,a4I,a5n,r8,r9,evr],rfl⟩
 by_cases h4:ei.a3=ej.a3
 case neg=>exact ⟨_,by simp [-bind_some, h0,h1,h2,h3,h4,hsc,a4I,a5n,r8,r9,evr],rfl⟩
 by_cases h5:ei.a5=ej.a5
 case neg=>exact ⟨_,by simp [-bind_some, h0,h1,h2,h3,h4,h5,hsc,a4I,a5n,r8,r9,evr],rfl⟩
 by_cases h6:ei.a6=ej.a6
 case neg=>exact ⟨_,by simp [-bind_some, h0,h1,h2,h3,h4,h5,h6,hsc,a4I,a5n,r8,r9,evr],rfl⟩
 by_cases h7:ei.s7=ej.s7
 case neg=>exact ⟨_,by simp [-bind_some, h0,h1,h2,h3,h4,h5,h6,h7,hsc,a4I,a5n,r8,r9,evr],rfl⟩
 by_cases h8:ei.s8=ej.s8
 case neg=>exact ⟨_,by simp [-bind_some, h0,h1,h2,h3,h4,h5,h6,h7,h8,hsc,a4I,a5n,r8,r9,evr],rfl⟩
 have sl:=s94 ei.ls ej.ls ei.ld ej.ld g2 ei.hld ej.hld ei.hll
 have sf:=s95 ei.fs ej.fs ei.fd ej.fd g2 ei.hfd ej.hfd ei.hl
 by_cases h9:ei.ls=ej.ls
 case neg=>exact ⟨_,by simp [-bind_some, h0,h1,h2,h3,h4,h5,h6,h7,h8,h9,hsc,a4I,a5n,r8,r9,evr,sl],rfl⟩
 by_cases h10:ei.fs=ej.fs
 case neg=>exact ⟨_,by simp [-bind_some, h0,h1,h2,h3,h4,h5,h6,h7,h8,h9,h10,hsc,a4I,a5n,r8,r9,evr,sl,sf],rfl⟩
 exact ⟨_,by simp [-bind_some, h0,h1,h2,h3,h4,h5,h6,h7,h8,h9,h10,hsc,a4I,a5n,r8,r9,evr,sl,sf],rfl⟩
def c9y (l:List (Str × Str)) (n:Str):Option Str:=(l.find? fun p=>p.1==n).map (·.2)
def app (f v:Str) (e:Ev):Bool:=f==[]||c9y e.fs f==some v
def idx {α:Type} (pr:α→Bool):Nat→List α→Int
 | _,[] => -1
 | k,x::r=>if pr x=true then k else idx pr (k+1) r
def holds (e:Ev) (p:Hld):Bool:=decide (p.fr≤e.a5)&&decide (e.a5<p.to)&&app p.f p.v e
theorem b0m {α:Type} (pr:α→Bool):∀ (l:List α) (k:Nat),decide (0≤idx pr k l)=l.any pr
 | [],k=>by simp [-bind_some, idx]
 | x::r,k=>by
  unfold idx
  by_cases h:pr x=true
  ·simp [-bind_some, h]
  ·simp [-bind_some, h,b0m pr r]
theorem a9m {zs:List Int} {d:D} (hd:a4R .u8 zs d):a0y tab a0G d=some (.int .i64 zs.length):=by
 rcases hd with ⟨rfl,rfl⟩ | rfl
 ·rfl
 ·simp [-bind_some, b1Q]
theorem b7o {zs:List Int} {d:D} (hd:a4R .u8 zs d) (i:Nat) (z:Int) (hz:zs[i]?=some z):a0b tab a0G d (.int .i64 i)=some (.fptr [.int .u8 z]):=by
 rcases hd with ⟨rfl,rfl⟩ | rfl
 ·cases hz
 ·simp [-bind_some, b1Q,hz]
theorem b3m (h:Hp) (o k f:Nat) (v:D):a0q tab h ty3 (.ptr o k f) v=pSt 1 h (.ptr o k f) v:=rfl
def a8J (l:Lin):Lin:={ l with txt:=[] }
theorem c4x {h:Hp} {q T z:Nat} {cs:List D} (hq:h[q]?=some (.row T z [cs])) (hl:cs.length=10):a0d tab h a0F (.ptr q 0 0)=some (.agg cs):=by
 rw [c6A,a0I hq]
 simp [-bind_some, a9N,hl]
 exact List.take_of_length_le (by omega)
theorem b5g {h:Hp} {q T z:Nat} {cs:List D} (hq:h[q]?=some (.row T z [cs])) (hl:cs.length=11):a0d tab h a0P (.ptr q 0 0)=some (.agg cs):=by
 rw [b2K,a0I hq]
 simp [-bind_some, a9N,hl]
 exact List.take_of_length_le (by omega)
def a5N (c:Int):Bool:=(decide (97≤c)&&decide (c≤122))||(decide (65≤c)&&decide (c≤90))
def b9D (c:Int):Bool:=decide (48≤c)&&decide (c≤57)
def b6q (c:Int):Bool:=(b9D c||a5N c)||decide (c=95)
def a8s (c:UInt8):Bool:=b6q c.toNat||decide ((c.toNat:Int)=46)
def a2t (s:Str):Bool:=match s with
 | []=>false
 | c::r=>decide ((c::r).length≤32)&&(a5N c.toNat||decide ((c.toNat:Int)=95))&&(c::r).all a8s
theorem d0a (s:Str) (i:Nat) (c:UInt8) (hc:s[i]?=some c):a6z tab ty9 (.str s) (.int .i64 i)=some (.int .u8 c.toNat):=by
 show (if (0:Int)≤(i:Int) then (match s[(i:Int).toNat]? with | some c=>some (D.int .u8 c.toNat) | none=>none) else none)=_
 simp [-bind_some, hc]
def Asc (l:List (Str × Str)):Prop:=∀ i p q,l[i]?=some p→l[i+1]?=some q→Op.bytesLess p.1 q.1=true∧p.1≠q.1
theorem b4o (p:Str × Str):(a0a tab a0t 0 (.fptr (fld p)))=some (.fptr (fld p)):=id rfl
theorem b4p (p:Str × Str) (h:Hp):a0d tab h ty9 (.fptr (fld p))=some (.str p.1):=id rfl
theorem c6u (l:List Lin) (d:D) (fn:D) (pr:Lin→Bool) (h:Hp) (hd:SlOf 3 a1t l d) (hl:l.length≤9223372036854775807) (hf:∀ x,a3G R fn [.agg (a1t x)] h=some (.bool (pr x),h)) {β:Type} (K:Out→Option β) (X:Int→Option β)
   (hX:∀ v r,K (.ret,.int .i64 v::r,h)=X v) (hY:∀ r,K (.ext 0,r,h)=X (-1)):∀ (suf pre:List Lin),l=pre++suf→∀ a b e f,
   (a0K (a4N d fn (.int .i64 l.length)) [a,b,.int .i64 pre.length,e,f] h).bind K=X (idx pr pre.length suf):=by
 intro suf
 induction suf with
 | nil =>
  rintro pre rfl a b e f
  rw [a1S]
  simp [-bind_some, a4N,hY,idx]
 | cons p suf ih =>
  rintro pre rfl a b e f
  have hw:IntKind.wrap .i64 ((pre.length:Int)+1)=(pre++[p]).length:=by
   rw [wrap_i64 (by omega) (by simp at hl;omega)];simp [-bind_some]
  have hlt:(pre.length:Int)<(pre++p::suf).length:=by simp;omega
  rw [a1S]
  generalize hL:pre++p::suf=L at *
  have hg:L[pre.length]?=some p:=by rw [← hL];exact b4S _ _ _
  by_cases hp:pr p=true
  ·simp [-bind_some, a4N,a9r hd,hlt,hg,a6N,hf,hp,hX,idx]
  ·have:=ih (pre++[p]) (by simp [-bind_some, ← hL]) a (.int .i64 pre.length) (.bool true) (.bool (pr p))
   simp only [← hw] at this
   simp [-bind_some, a4N,a9r hd,hlt,hg,a6N,hf,hp,idx]
   simp [-bind_some, hp] at this
   exact this
theorem c6P (l:List Lin) (d:D) (fn:D) (pr:Lin→Bool) (h:Hp) (hd:SlOf 3 a1t l d) (hl:l.length≤9223372036854775807) (hf:∀ x,a3G R fn [.agg (a1t x)] h=some (.bool (pr x),h)) :
   R b4t [d,fn] h=some (.int .i64 (idx pr 0 l),h):=by
 rw [c4Z]
 simp only [c1o,bs,a4x hd,d0B]
 rw [show (0:Int)=(([]:List Lin).length:Int) from rfl,c6u l d fn pr h hd hl hf _ (fun v=>some (.int .i64 v,h)) (fun v r=>by simp) (fun r=>by simp) l [] rfl]
 rfl
theorem b6x {T:Tab} {t e:Nat} {i j:TI} (ht:T t=Option.some i) (hi:i.td = .sl e) (he:T e=Option.some j) (hz:0<j.sz) {h:Hp} {ys:List (List D)} {y:D} (hy:a1h h j.sz y=Option.some ys) (hl:lim ys.length j.by_=true) :
  ∃ x' h',a0A T h t t (.sl j.sz true []) y=Option.some (x',h')∧h.length≤h'.length∧(∀ q,q<h.length→h'[q]?=h[q]?)∧((x' = .sl j.sz true []∧ys=[])∨Own h' h.length e j.sz ys x'):=by
 have hz':Nat.blt 0 j.sz=true:=Nat.ble_eq_true_of_le hz
 have hs:b0a h i j y=Option.some ys:=by simp [-bind_some, b0a,hi,hy]
 unfold a0A
 simp only [ht,hi,he,hz',hs]
 cases ys with
 | nil=>exact ⟨_,_,rfl,Nat.le_refl _,fun _ _=>rfl,.inl ⟨rfl,rfl⟩⟩
 | cons y1 yr =>
  simp only [d0T,Nat.zero_add,hl,and_self,if_true,List.nil_append,true_and]
  exact ⟨_,_,rfl,by simp [-bind_some, a0J],fun q hq=>by simp only [a0J];rw [d1a hq],.inr (.inr ⟨h.length,Nat.le_refl _,rfl,by simp [-bind_some, a0J]⟩)⟩
def inr (n:Int):List D:=[.int .i64 n]
theorem n66 (o pos:Nat) (zs:List Int) (d:D) (h:Hp) (ho:h[o]?=some (.row a9P 2 [[d,.int .i64 pos]])) (hd:a4R .u8 zs d):R c6h [.ptr o 0 0] h=some (.bool (decide (pos<zs.length)),h):=by
 rw [e66]
 simp [-bind_some, F66,Hp.row,ho,a9m hd]
def CM (h:Hp) (o:Nat):Prop:=∃ (d:D) (zs:List Int) (pos:Nat),h[o]?=some (.row a9P 2 [[d,.int .i64 pos]])∧a4R .u8 zs d∧zs.length≤400∧pos≤400∧∀ z∈zs,0≤z∧z<256
theorem CM.keep {h h':Hp} {o:Nat} (hc:CM h o) (he:h'[o]?=h[o]?):CM h' o:=by
 obtain ⟨d,zs,pos,ho,hr⟩:=hc
 exact ⟨d,zs,pos,by rw [he];exact ho,hr⟩
theorem CM.lt {h:Hp} {o:Nat} (hc:CM h o):o<h.length:=by
 obtain ⟨d,zs,pos,ho,hr⟩:=hc
 exact (d0R.1 ho).1
theorem CM.ok {h:Hp} {o:Nat} (hc:CM h o) (n:Nat):∀ T sz rows,h[o]?=some (.row T sz rows)→∀ row∈rows,∀ d∈row,Ok n d:=by
 obtain ⟨d,zs,pos,ho,hd,_⟩:=hc
 intro T sz rows hr row hrow x hx
 rw [ho] at hr
 injection hr with hr
 injection hr with _ _ hr
 subst hr
 simp at hrow
 subst hrow
 simp at hx
 rcases hx with rfl | rfl
 ·exact b4T hd n
 ·exact .int _ _
theorem m39 {h:Hp} {o:Nat} (hc:CM h o) (n:Int) (hn:1≤n) (hn2:n≤1000000000):∃ v h',R a5B [.ptr o 0 0,.int .i64 n] h=some (.int .i64 v,h')∧CM h' o∧Same o h h'∧0≤v∧v<n:=by
 obtain ⟨d,zs,pos,ho,hd,hl,hp4,hz⟩:=hc
 have hn':¬ n<1:=by omega
 have hn0:¬ n=0:=by omega
 by_cases hp:pos<zs.length
 ·have hg:zs[pos]?=some zs[pos]:=d0Q hp
  have hm:=hz zs[pos] (List.getElem_mem _)
  generalize zs[pos]=z at hg hm
  have hw:IntKind.wrap .i64 ((pos:Int)+1)=(pos:Int)+1:=wrap_i64 (by omega) (by omega)
  have hw2:IntKind.wrap .i64 ((pos:Int)+1 - 1)=(pos:Int):=by rw [wrap_i64 (by omega) (by omega)];omega
  have hw3:IntKind.wrap .i64 (pos:Int)=(pos:Int):=wrap_i64 (by omega) (by omega)
  have hzw:IntKind.wrap .i64 z=z:=wrap_i64 (by omega) (by omega)
  have holt:o<h.length:=(d0R.1 ho).1
  have hs:∀ X,(h.set o X)[o]?=some X:=fun X=>List.getElem?_set_self holt
  have h1:=Int.tmod_nonneg n hm.1
  have h2:=Int.tmod_lt_of_pos z (show 0<n by omega)
  refine ⟨z.tmod n,h.set o (.row a9P 2 [[d,.int .i64 ((pos+1:Nat):Int)]]),?_,⟨d,zs,pos+1,by simp [-bind_some, holt],hd,hl,by omega,hz⟩,⟨by simp,fun q hq=>by rw [d1b (by omega)]⟩,h1,h2⟩
  rw [e39]
  simp [-bind_some, F39,n66 o pos zs d h ho hd,hp,hn',hn0,Hp.row,ho,b3m,pSt,D.okv,a0u,D.one,spl,hw,hw2,hw3,b7o hd pos z hg,hzw,hs]
 ·refine ⟨0,h,?_,⟨d,zs,pos,ho,hd,hl,hp4,hz⟩,.refl _ _,by omega,by omega⟩
  rw [e39]
  simp [-bind_some, F39,n66 o pos zs d h ho hd,hp]
theorem m40 {h:Hp} {o:Nat} (hc:CM h o) (l:List Str) (d:D) (hd:SlOf 1 (fun s=>[.str s]) l d) (h1:1≤l.length) (h2:l.length≤1000):∃ s h',R a5U [.ptr o 0 0,d] h=some (.str s,h')∧CM h' o∧Same o h h'∧s∈l:=by
 obtain ⟨v,h',e1,c1,s1,v0,v1⟩:=m39 hc l.length (by omega) (by omega)
 obtain ⟨s,hs,hg⟩:=b5I l v v0 v1
 refine ⟨s,h',?_,c1,s1,hs⟩
 rw [e40]
 simp [-bind_some, F40,c3t hd,e1,c6t hd,v0,hg]
theorem a3c {h:Hp} {o:Nat} (hc:CM h o) (l:List Str) (m:Nat) (hm:∀ s∈l,s.length≤m) (h1:1≤l.length) (h2:l.length≤1000) {β:Type} {f:D × Hp→Option β} {Q:β→Prop}
  (k:∀ s h',CM h' o→Same o h h'→s∈l→s.length≤m→Wp (f (.str s,h')) Q):Wp ((R a5U [.ptr o 0 0,.sl 1 true (l.map fun s=>[.str s])] h).bind f) Q:=by
 obtain ⟨s,h',e1,c1,s1,hs⟩:=m40 hc l _ (.mk _ _ _ _) h1 h2
 rw [e1]
 exact k s h' c1 s1 hs (hm s hs)
theorem a6r (t:Nat) {s u:Str} (hs:s.length≤1000000000) (hu:u.length≤1000000000) {β:Type} {f:D→Option β} {Q:β→Prop} (k:∀ v:Str,v.length=s.length+u.length→Wp (f (.str v)) Q):Wp ((a0l tab .add t (.str s) (.str u)).bind f) Q:=by
 rw [b3P _ _ _ _ (by omega)]
 exact k _ (by simp)
theorem m83 {h:Hp} {o:Nat} (hc:CM h o) (most:Int) (hm0:0≤most) (hm1:most≤20):∃ s h',R c4t [.ptr o 0 0,.int .i64 most] h=some (.str s,h')∧CM h' o∧Same o h h'∧s.length≤80:=by
 suffices Wp (R c4t [.ptr o 0 0,.int .i64 most] h) (fun p=>∃ s,p.1 = .str s∧CM p.2 o∧Same o h p.2∧s.length≤80) by
  obtain ⟨⟨x,h'⟩,h1,s,rfl,h2⟩:=this
  exact ⟨s,h',h1,h2⟩
 rw [e83]
 have hw:=wrap_i64 (n:=most+1) (by omega) (by omega)
 simp only [F83,bs,d0B,a0r,hw]
 obtain ⟨v,h1,e1,c1,s1,v0,v1⟩:=m39 hc (most+1) (by omega) (by omega)
 refine Wp.step e1 ?_
 simp only [bs]
 refine Wp.loop (fun k ds g=>∃ s a,ds=[.str s,.int .i64 k,a]∧CM g o∧Same o h g∧k≤20∧s.length+4*k≤80) (fun r=>r.1 = .ext 0∧∃ s a b,r.2.1=[.str s,a,b]∧CM r.2.2 o∧Same o h r.2.2∧s.length≤80) v.toNat ⟨[],.any,by rw [Int.toNat_of_nonneg v0],c1,s1,by omega,by simp;omega⟩ ?_ ?_
 ·rintro k ds g ⟨s,a,rfl,cg,sg,hk,hs⟩
  simp only [b7Z,a0f,a0j,bs,a0v]
  refine Wp.dif ?_ ?_
  ·intro h0
   have h0:0<(k:Int):=by simpa using h0
   simp only [b3g,bs]
   refine a3c cg lt98_33 4 (by decide) (by decide) (by decide) fun u g1 c1 q1 _ hu=>?_
   simp only [bs]
   refine a6r _ (by omega) (by omega) fun w hw=>?_
   have hk1:IntKind.wrap .i64 ((k:Int) - 1)=((k - 1:Nat):Int):=by
    rw [wrap_i64 (by omega) (by omega)];omega
   simp only [bs,a0z,hk1]
   exact .some (.inl ⟨rfl,k - 1,by omega,w,_,rfl,c1,sg.trans q1,by omega,by omega⟩)
  ·intro _
   exact .some (.inr ⟨by simp,rfl,s,_,_,rfl,cg,sg,by omega⟩)
 ·rintro ⟨x,ds,g⟩ ⟨rfl,s,a,b,rfl,cg,sg,hs⟩
  simp only [a0p,a0n,a0f,bs,a0h]
  exact .some ⟨s,rfl,cg,sg,hs⟩
theorem m67 {h:Hp} {o:Nat} (hc:CM h o):∃ s h',R c4s [.ptr o 0 0] h=some (.str s,h')∧CM h' o∧Same o h h'∧s.length≤200:=by
 suffices Wp (R c4s [.ptr o 0 0] h) (fun p=>∃ s,p.1 = .str s∧CM p.2 o∧Same o h p.2∧s.length≤200) by
  obtain ⟨⟨x,h'⟩,h1,s,rfl,h2⟩:=this
  exact ⟨s,h',h1,h2⟩
 rw [e67]
 simp only [F67,bs,d0B,b2S,b2T,b2U,b2V,b2W,b2X,b2Y,b2Z,b3a,b3b,b3c,b3d,b3e,b3f]
 obtain ⟨v,h1,e1,c1,s1,v0,v1⟩:=m39 hc 8 (by omega) (by omega)
 refine Wp.step e1 ?_
 clear e1
 simp only [a0L,bs]
 have fin:∀ (s:Str) (g:Hp),CM g o→Same o h g→s.length≤200→Wp (some ((.str s:D),g)) (fun p=>∃ s,p.1 = .str s∧CM p.2 o∧Same o h p.2∧s.length≤200):=fun s g a b c => .some ⟨s,rfl,a,b,c⟩
 refine Wp.dif (fun _=>?_) (fun _=>?_)
 ·repeat first
    | (refine a3c (by assumption) _ 8 (by decide) (by decide) (by decide) fun u g c1 q1 _ hu=>?_
       replace s1:=s1.trans q1
       clear q1
       try simp only [bs])
    | (refine a6r _ (by first | omega | (simp [-bind_some];omega) | simp [-bind_some]) (by first | omega | (simp [-bind_some];omega) | simp [-bind_some]) fun w hw=>?_
       try simp only [d0S,d0T] at hw
       try simp only [bs])
  try simp only [a0h]
  exact fin _ _ (by assumption) s1 (by omega)
 refine Wp.dif (fun _=>?_) (fun _=>?_)
 ·repeat first
    | (refine a3c (by assumption) _ 8 (by decide) (by decide) (by decide) fun u g c1 q1 _ hu=>?_
       replace s1:=s1.trans q1
       clear q1
       try simp only [bs])
    | (refine a6r _ (by first | omega | (simp [-bind_some];omega) | simp [-bind_some]) (by first | omega | (simp [-bind_some];omega) | simp [-bind_some]) fun w hw=>?_
       try simp only [d0S,d0T] at hw
       try simp only [bs])
  try simp only [a0h]
  exact fin _ _ (by assumption) s1 (by omega)
 refine Wp.dif (fun _=>?_) (fun _=>?_)
 ·repeat first
    | (refine a3c (by assumption) _ 8 (by decide) (by decide) (by decide) fun u g c1 q1 _ hu=>?_
       replace s1:=s1.trans q1
       clear q1
       try simp only [bs])
    | (refine a6r _ (by first | omega | (simp [-bind_some];omega) | simp [-bind_some]) (by first | omega | (simp [-bind_some];omega) | simp [-bind_some]) fun w hw=>?_
       try simp only [d0S,d0T] at hw
       try simp only [bs])
  try simp only [a0h]
  exact fin _ _ (by assumption) s1 (by omega)
 refine Wp.dif (fun _=>?_) (fun _=>?_)
 ·repeat first
    | (refine a3c (by assumption) _ 8 (by decide) (by decide) (by decide) fun u g c1 q1 _ hu=>?_
       replace s1:=s1.trans q1
       clear q1
       try simp only [bs])
    | (refine a6r _ (by first | omega | (simp [-bind_some];omega) | simp [-bind_some]) (by first | omega | (simp [-bind_some];omega) | simp [-bind_some]) fun w hw=>?_
       try simp only [d0S,d0T] at hw
       try simp only [bs])
  try simp only [a0h]
  exact fin _ _ (by assumption) s1 (by omega)
 refine Wp.dif (fun _=>?_) (fun _=>?_)
 ·repeat first
    | (refine a3c (by assumption) _ 8 (by decide) (by decide) (by decide) fun u g c1 q1 _ hu=>?_
       replace s1:=s1.trans q1
       clear q1
       try simp only [bs])
    | (refine a6r _ (by first | omega | (simp [-bind_some];omega) | simp [-bind_some]) (by first | omega | (simp [-bind_some];omega) | simp [-bind_some]) fun w hw=>?_
       try simp only [d0S,d0T] at hw
       try simp only [bs])
  try simp only [a0h]
  exact fin _ _ (by assumption) s1 (by omega)
 refine Wp.dif (fun _=>?_) (fun _=>?_)
 ·repeat first
    | (refine a3c (by assumption) _ 8 (by decide) (by decide) (by decide) fun u g c1 q1 _ hu=>?_
       replace s1:=s1.trans q1
       clear q1
       try simp only [bs])
    | (refine a6r _ (by first | omega | (simp [-bind_some];omega) | simp [-bind_some]) (by first | omega | (simp [-bind_some];omega) | simp [-bind_some]) fun w hw=>?_
       try simp only [d0S,d0T] at hw
       try simp only [bs])
  try simp only [a0h]
  exact fin _ _ (by assumption) s1 (by omega)
 obtain ⟨s,g,e2,c2,s2,hs⟩:=m83 c1 6 (by omega) (by omega)
 simp only [e2,bs,a0h]
 exact fin _ _ c2 (s1.trans s2) (by omega)
structure Sm (h0:Hp) (o:Nat) (g:Hp):Prop where
 lt:o<h0.length
 cd:CM g o
 gr:Grow h0.length o h0 g
theorem Sm.refl {h:Hp} {o:Nat} (hc:CM h o):Sm h o h:=⟨hc.lt,hc,.refl _ _ _⟩
theorem Sm.next {h0 g g':Hp} {o:Nat} (s:Sm h0 o g) (hc:CM g' o) (hs:Same o g g'):Sm h0 o g':=⟨s.lt,hc,s.gr.trans hs.grow⟩
theorem Sm.app {h0 g g':Hp} {o:Nat} (s:Sm h0 o g) (hl:g.length≤g'.length) (hb:∀ q,q<h0.length→g'[q]?=g[q]?):Sm h0 o g':=⟨s.lt,s.cd.keep (hb o s.lt),s.gr.trans ⟨hl,fun q hq _=>hb q hq⟩⟩
theorem Sm.le {h0 g:Hp} {o:Nat} (s:Sm h0 o g):h0.length≤g.length:=s.gr.1
theorem Sm.scope {h0 g:Hp} {o:Nat} (s:Sm h0 o g) {d d':D} (hd:frz h0.length g 4 d=d') (hok:Ok h0.length d'):∃ h',scope h0 g d=some (d',h')∧CM h' o∧Same o h0 h':=by
 obtain ⟨h1,h2,h3⟩:=a7B hd hok s.gr (s.cd.ok h0.length)
 exact ⟨_,h1,s.cd.keep (h3 o s.lt),h2⟩
def mch:Int→List Lin→Int→Prop
 | a,[],b=>a=b
 | a,l::r,b=>l.off=a∧1≤l.len∧l.len≤20∧l.txt.length≤200∧mch (a+l.len) r b
theorem b1W:∀ (ls:List Lin) (a b:Int) (l:Lin),mch a ls b→l.off=b→1≤l.len→l.len≤20→l.txt.length≤200→mch a (ls++[l]) (b+l.len)
 | [],a,b,l,h,h1,h2,h3,h4=>by
  simp only [mch] at h
  subst h
  exact ⟨h1,h2,h3,h4,rfl⟩
 | x::r,a,b,l,h,h1,h2,h3,h4=>⟨h.1,h.2.1,h.2.2.1,h.2.2.2.1,b1W r _ b l h.2.2.2.2 h1 h2 h3 h4⟩
theorem a5l:∀ (ls:List Lin) (a b:Int),mch a ls b→a+ls.length≤b∧b≤a+20*ls.length
 | [],a,b,h=>by simp [-bind_some, mch] at h;simp [-bind_some];omega
 | x::r,a,b,h=>by
  have:=a5l r _ b h.2.2.2.2
  have:=h.2.1
  have:=h.2.2.1
  simp only [d0S]
  omega
theorem c6z {h:Hp} {q T z:Nat} {cs:List D} (hq:h[q]?=some (.row T z [cs])) (hl:cs.length=3):a0d tab h a1z (.ptr q 0 0)=some (.agg cs):=by
 rw [c6B,a0I hq]
 simp [-bind_some, a9N,hl]
 exact List.take_of_length_le (by omega)
theorem a3R (g:Hp) (T z:Nat) (rows:List (List D)):(a0J g T z rows)[g.length]?=some (.row T z rows):=by simp [-bind_some, a0J]
theorem a3S (g:Hp) (T z:Nat) (rows:List (List D)) {q:Nat} (hq:q<g.length):(a0J g T z rows)[q]?=g[q]?:=by
 simp only [a0J];rw [d1a hq]
theorem a2u (g:Hp) (T z:Nat) (rows:List (List D)):(a0J g T z rows).length=g.length+1:=by simp [-bind_some, a0J]
theorem m42 {h:Hp} {o:Nat} (hc:CM h o) (fr:Int) (hf0:0≤fr) (hf1:fr≤1000000) (most:Int) (hm0:1≤most) (hm1:most≤10):∃ x h',R c4r [.ptr o 0 0,.int .i64 fr,.int .i64 most,.bool true] h=some (x,h')∧CM h' o∧Same o h h'∧∃ ls e,SlOf 3 a1t ls x∧mch fr ls e∧1≤ls.length∧ls.length≤most.toNat:=by
 suffices Wp (R c4r [.ptr o 0 0,.int .i64 fr,.int .i64 most,.bool true] h) (fun p=>CM p.2 o∧Same o h p.2∧∃ ls e,SlOf 3 a1t ls p.1∧mch fr ls e∧1≤ls.length∧ls.length≤most.toNat) by
  obtain ⟨⟨x,h'⟩,h1,h2⟩:=this
  exact ⟨x,h',h1,h2⟩
 rw [e42]
 simp only [F42,bs,d0B]
 obtain ⟨v,h1,e1,c1,s1,v0,v1⟩:=m39 hc most (by omega) (by omega)
 have S1:=(Sm.refl hc).next c1 s1
 refine Wp.step e1 ?_
 clear e1
 have hw:=wrap_i64 (n:=1+v) (by omega) (by omega)
 simp only [a0r,hw,bs]
 refine Wp.loop (fun k ds g=>∃ (po:Int) (x a b c:D) (ls:List Lin),ds=[.int .i64 po,x,.int .i64 k,a,b,c]∧Sm h o g∧Own g h.length a1z 3 (ls.map a1t) x∧mch fr ls po∧ls.length+k=(1+v).toNat)
  (fun r=>r.1 = .ext 0∧∃ (a x b c d e:D) (po:Int) (ls:List Lin),r.2.1=[a,x,b,c,d,e]∧Sm h o r.2.2∧Own r.2.2 h.length a1z 3 (ls.map a1t) x∧mch fr ls po∧ls.length=(1+v).toNat)
  (1+v).toNat ⟨fr,.nils,.any,.any,.any,[],by rw [Int.toNat_of_nonneg (by omega)],S1,Own.nils _ _ _ _,rfl,by simp⟩ ?_ ?_
 ·rintro k ds g ⟨po,x,a,b,c,ls,rfl,S,ow,hch,hk⟩
  simp only [b7Y,a0f,a0j,bs,a0v]
  refine Wp.dif ?_ ?_
  ·intro h0
   have h0:0<(k:Int):=by simpa using h0
   have hcl:=a5l _ _ _ hch
   obtain ⟨u,g1,e1,c1,s1,u0,u1⟩:=m39 S.cd 20 (by omega) (by omega)
   have S1:=S.next c1 s1
   replace ow:=ow.same s1 S.lt
   refine Wp.step e1 ?_
   clear e1
   have hw1:=wrap_i64 (n:=1+u) (by omega) (by omega)
   have hx:∀ q,x.inOb q→q<g1.length:=fun q hq=>(ow.lt hq).2
   simp only [a0r,hw1,bs,d0B,b1d,b8g]
   generalize hg2:a0J g1 a1z 3 [[.int .i64 0,.int .i64 0,.str []]]=g2
   have p1:g2[g1.length]?=some (.row a1z 3 [[.int .i64 0,.int .i64 0,.str []]]):=by rw [← hg2];exact a3R _ _ _ _
   have hb2:∀ q,q<g1.length→g2[q]?=g1[q]?:=fun q hq=>by rw [← hg2];exact a3S _ _ _ _ hq
   have hl2:g2.length=g1.length+1:=by rw [← hg2];exact a2u _ _ _ _
   clear hg2
   have hle:=S1.le
   refine c4i p1 (by rfl) (by rfl) (by simp) (by rfl) fun g3 p3 sg=>?_
   replace p3:g3[g1.length]?=some (.row a1z 3 [[.int .i64 po,.int .i64 (1+u),.str []]]):=p3
   have hb3:∀ q,q<g1.length→g3[q]?=g1[q]?:=fun q hq=>(sg.2 q (by omega)).trans (hb2 q hq)
   have hl3:g3.length=g1.length+1:=sg.1.trans hl2
   have S3:=S1.app (by omega) fun q hq=>hb3 q (by omega)
   replace ow:Own g3 h.length a1z 3 (ls.map a1t) x:=ow.keep fun q _ hq=>hb3 q (hx q hq)
   clear p1 hb2 hl2 sg
   simp only [a0c,if_true,d0B,bs]
   obtain ⟨tx,g4,e4,c4,s4,ht⟩:=m67 S3.cd
   have S4:=S3.next c4 s4
   replace ow:=ow.same s4 S.lt
   have hno:o≠g1.length:=fun hh=>by have:=S1.lt;omega
   replace p3:=(s4.2 g1.length (Ne.symm hno)).trans p3
   have hl4:g4.length=g1.length+1:=s4.1.trans hl3
   refine Wp.step e4 ?_
   clear e4
   simp only [bs,a2X,Nat.zero_add]
   refine c8h p3 (by rfl) (by rfl) (by simp) (by rfl) fun g5 p5 sg=>?_
   replace p5:g5[g1.length]?=some (.row a1z 3 [a1t ⟨po,1+u,tx⟩]):=p5
   have hl5:g5.length=g1.length+1:=sg.1.trans hl4
   have S5:=S4.app (by omega) fun q hq=>sg.2 q (by omega)
   replace ow:Own g5 h.length a1z 3 (ls.map a1t) x:=ow.keep fun q _ hq=>sg.2 q (by have:=hx q hq;omega)
   clear p3 sg
   simp only [bs,a0n,c6z p5 rfl]
   rw [show a0H tab a1P 1 [0] [.agg (a1t ⟨po,1+u,tx⟩)]=some (.sl 3 true [a1t ⟨po,1+u,tx⟩]) from id rfl]
   simp only [bs]
   refine b7T (by omega) ow (a1e _ _ _ _) (by simp;omega) fun x' g6 ow6 len bel keep _=>?_
   have S6:=S5.app len bel
   have p6:=(keep g1.length (by omega) (fun hh=>by have:=hx _ hh;omega)).trans p5
   have r6:g6.row g1.length 0=some (a1t ⟨po,1+u,tx⟩):=a0I p6
   have hw2:=wrap_i64 (n:=po+(1+u)) (by omega) (by omega)
   have hk1:IntKind.wrap .i64 ((k:Int) - 1)=((k - 1:Nat):Int):=by
    rw [wrap_i64 (by omega) (by omega)];omega
   simp only [bs,a2W,Nat.zero_add,a6h,r6,a1t,List.drop_succ_cons,List.drop_zero,List.head?_cons,a0r,hw2,a0z,hk1]
   exact .some (.inl ⟨rfl,k - 1,by omega,po+(1+u),x',_,_,_,ls++[⟨po,1+u,tx⟩],rfl,S6,by rw [d0I];exact ow6,b1W _ _ _ _ hch rfl (by simp;omega) (by simp;omega) (by simpa using ht),by simp;omega⟩)
  ·intro h0
   have h0:¬ 0<(k:Int):=by simpa using h0
   exact .some (.inr ⟨by simp,rfl,_,x,_,_,_,_,po,ls,rfl,S,ow,hch,by omega⟩)
 ·rintro ⟨ex,ds,g⟩ ⟨rfl,a,x,b,c,d,e,po,ls,rfl,S,ow,hch,hl⟩
  simp only [a0p,a0n,a0f,a0j,bs,a0h]
  have hsl:=a3h (n:=3) ow (Nat.le_refl _) (fun a _=>a5j _ g _ a)
  obtain ⟨h',hs,hcd,hsm⟩:=S.scope rfl (a1Q hsl fun a _=>b0r _ a)
  rw [hs]
  exact .some ⟨hcd,hsm,ls,po,hsl,hch,by omega,by omega⟩
def MF (l:List (Str × Str)):Prop:=(l.map (·.1)).Sublist lt98_17∧∀ p∈l,p.2∈lt98_18
theorem m41 {h:Hp} {o:Nat} (hc:CM h o):∃ x h',R c4q [.ptr o 0 0] h=some (x,h')∧CM h' o∧Same o h h'∧∃ l,SlOf 2 fld l x∧MF l:=by
 suffices Wp (R c4q [.ptr o 0 0] h) (fun p=>CM p.2 o∧Same o h p.2∧∃ l,SlOf 2 fld l p.1∧MF l) by
  obtain ⟨⟨x,h'⟩,h1,h2⟩:=this
  exact ⟨x,h',h1,h2⟩
 rw [e41]
 simp only [F41,bs,d0B,b2Q,c6D,d0H,b0w]
 refine Wp.loop (fun k ds g=>∃ x a b c,∃ (i:Nat) (l:List (Str × Str)),ds=[x,a,.int .i64 i,b,c]∧Sm h o g∧k+i=4∧Own g h.length a0t 2 (l.map fld) x∧(l.map (·.1)).Sublist (lt98_17.take i)∧∀ p∈l,p.2∈lt98_18)
  (fun r=>r.1 = .ext 0∧∃ x a b c d l,r.2.1=[x,a,b,c,d]∧Sm h o r.2.2∧Own r.2.2 h.length a0t 2 (l.map fld) x∧MF l) 4 ⟨.nils,.any,.any,.any,0,[],rfl,.refl hc,rfl,Own.nils _ _ _ _,by simp,by simp⟩ ?_ ?_
 ·rintro k ds g ⟨x,a,b,c,i,l,rfl,S,hk,ow,hsub,hv⟩
  have hw:IntKind.wrap .i64 ((i:Int)+1)=(i+1:Nat):=by
   rw [wrap_i64 (by omega) (by omega)];omega
  simp only [b7X,a0f,a0j,bs,d0B,a0o]
  refine Wp.dif ?_ ?_
  ·intro h0
   have h0:i<4:=dl_ h0
   have hg:lt98_17[i]?=some lt98_17[i]:=d0Q h0
   simp only [c7U,Int.natCast_nonneg,if_true,d0K,d0O,hg,Option.map_some,bs,ld9]
   obtain ⟨v,h1,e1,c1,s1,v0,v1⟩:=m39 S.cd 3 (by omega) (by omega)
   have S1:=S.next c1 s1
   replace ow:=ow.same s1 hc.lt
   refine Wp.step e1 ?_
   simp only [a0v,bs]
   refine Wp.join (P:=fun r=>∃ x g,∃ l:List (Str × Str),r=(.nrm,[x],g)∧Sm h o g∧Own g h.length a0t 2 (l.map fld) x∧(l.map (·.1)).Sublist (lt98_17.take (i+1))∧∀ p∈l,p.2∈lt98_18) ?_ ?_ ?_
   ·intro _
    simp only [b2R,bs]
    refine a3c S1.cd lt98_18 8 (by decide) (by decide) (by decide) fun u g2 c2 s2 hu _=>?_
    have S2:=S1.next c2 s2
    replace ow:=ow.same s2 hc.lt
    simp only [bs,b3x,c2t]
    have hll:l.length≤4:=by
     have:=hsub.length_le
     simp at this
     omega
    refine c4h S2.le ow (a1e _ _ _ _) (by simp;omega) fun x' g' ow len bel _ _=>?_
    simp only [bs]
    refine .some ⟨x',g',l++[(lt98_17[i],u)],rfl,S2.app len bel,by rw [d0I];exact ow,?_,?_⟩
    ·rw [d0N,hg,d0I]
     exact hsub.append (List.Sublist.refl _)
    ·intro p hp
     rcases d0X.1 hp with hp | hp
     ·exact hv p hp
     ·simp at hp;subst hp;exact hu
   ·intro _
    refine .some ⟨_,_,l,rfl,S1,ow,hsub.trans ?_,hv⟩
    rw [d0N]
    exact List.sublist_append_left _ _
   ·rintro _ ⟨x,g,l,rfl,S,ow,hsub,hv⟩
    simp only [a1A,a0n,a0f,a0r,bs,hw]
    exact .some (.inl ⟨rfl,k - 1,by omega,x,_,_,_,i+1,l,rfl,S,by omega,ow,hsub,hv⟩)
  ·intro h0
   have h0:¬ i<4:=by
    have:¬ (i:Int)<4:=by simpa using h0
    omega
   refine .some (.inr ⟨by simp,rfl,x,_,_,_,_,l,rfl,S,ow,hsub.trans (List.take_sublist _ _),hv⟩)
 ·rintro ⟨x,ds,g⟩ ⟨rfl,x,a,b,c,d,l,rfl,S,ow,hl⟩
  simp only [a0p,a0n,a0f,bs,a0h]
  have hsl:=a3h (n:=3) ow (Nat.le_refl _) (fun a _=>b0i _ g _ a)
  obtain ⟨h',hs,hcd,hsm⟩:=S.scope rfl (a1Q hsl fun a _=>b4s _ a)
  exact ⟨_,hs,hcd,hsm,l,hsl,hl⟩
structure EvM (e:Ev):Prop where
 h0:0≤e.a0
 h2:e.a0≤2
 f0:0≤e.a1
 f2:e.a1≤2
 a0:0≤e.a2
 a9:e.a2≤100
 ch:mch e.a2 e.ls e.a3
 l1:1≤e.ls.length
 l3:e.ls.length≤3
 t0:0≤e.a5
 t9:e.a5≤255000
 wt:e.a6∈lt82_14
 tr:e.s7∈lt98_15
 st:e.s8∈lt98_16
 fs:MF e.fs
theorem m12 {h:Hp} {o:Nat} (hc:CM h o):∃ e h',R c4p [.ptr o 0 0] h=some (.agg (evr e),h')∧CM h' o∧Same o h h'∧EvM e:=by
 suffices Wp (R c4p [.ptr o 0 0] h) (fun p=>∃ e,p.1 = .agg (evr e)∧CM p.2 o∧Same o h p.2∧EvM e) by
  obtain ⟨⟨x,h'⟩,h1,e,rfl,h2⟩:=this
  exact ⟨e,h',h1,h2⟩
 have ho:=hc.lt
 rw [e12]
 simp only [F12,bs,d0B,b2N,b2O,b2P]
 generalize hg0:a0J h a0F 10 [[.int .i64 0,.int .i64 0,.int .i64 0,.int .i64 0,.nils,.int .i64 0,.int .i64 0,.str [],.str [],.nils]]=g0
 have p0:g0[h.length]?=some (.row a0F 10 [[.int .i64 0,.int .i64 0,.int .i64 0,.int .i64 0,.nils,.int .i64 0,.int .i64 0,.str [],.str [],.nils]]):=by rw [← hg0];exact a3R _ _ _ _
 have S0:Sm h o g0:=(Sm.refl hc).app (by rw [← hg0,a2u];omega) fun q hq=>by rw [← hg0];exact a3S _ _ _ _ hq
 have hl0:g0.length=h.length+1:=by rw [← hg0];exact a2u _ _ _ _
 clear hg0
 obtain ⟨v1,g1,e1,c1,s1,a1,b1⟩:=m39 S0.cd 3 (by omega) (by omega)
 refine Wp.step e1 ?_;clear e1;simp only [bs]
 obtain ⟨v2,g2,e2,c2,s2,a2,b2⟩:=m39 c1 3 (by omega) (by omega)
 refine Wp.step e2 ?_;clear e2;simp only [bs]
 obtain ⟨v3,g3,e3,c3,s3,a3,b3⟩:=m39 c2 6 (by omega) (by omega)
 refine Wp.step e3 ?_;clear e3
 simp only [bs,a2o,wrap_i64 (n:=10*v3) (by omega) (by omega)]
 obtain ⟨v4,g4,e4,c4,s4,a4,b4⟩:=m39 c3 256 (by omega) (by omega)
 refine Wp.step e4 ?_;clear e4
 simp only [bs,a2o,wrap_i64 (n:=1000*v4) (by omega) (by omega)]
 obtain ⟨v5,g5,e5,c5,s5,a5,b5⟩:=m39 c4 4 (by omega) (by omega)
 obtain ⟨wt,hwt,hg5⟩:=b5I lt82_14 v5 a5 b5
 refine Wp.step e5 ?_;clear e5
 simp only [bs,c6r,a5,if_true,d0O,hg5,Option.map_some,ld3]
 refine a3c c5 lt98_15 8 (by decide) (by decide) (by decide) fun tr g6 c6 s6 htr _=>?_
 simp only [bs]
 refine a3c c6 lt98_16 8 (by decide) (by decide) (by decide) fun sm g7 c7 s7 hsm _=>?_
 simp only [bs]
 obtain ⟨y,g8,e8,c8,s8,fs,hy,hfs⟩:=m41 c7
 refine Wp.step e8 ?_;clear e8
 have hy1:=a2k hy
 simp only [bs,a4r _ _ _ _ _ _ _ y hy1,a2j]
 have sa:=((((((s1.trans s2).trans s3).trans s4).trans s5).trans s6).trans s7).trans s8
 have S8:=S0.next c8 sa
 replace p0:=(sa.2 h.length (by omega)).trans p0
 have hl8:g8.length=h.length+1:=sa.1.trans hl0
 clear S0 c1 c2 c3 c4 c5 c6 c7 s1 s2 s3 s4 s5 s6 s7 s8 sa
 generalize hg9:a0J g8 a0F 10 [[.int .i64 0,.int .i64 0,.int .i64 0,.int .i64 0,.nils,.int .i64 0,.int .i64 0,.str [],.str [],.nils]]=g9
 have p9:g9[g8.length]?=some (.row a0F 10 [[.int .i64 0,.int .i64 0,.int .i64 0,.int .i64 0,.nils,.int .i64 0,.int .i64 0,.str [],.str [],.nils]]):=by rw [← hg9];exact a3R _ _ _ _
 have hb9:∀ q,q<g8.length→g9[q]?=g8[q]?:=fun q hq=>by rw [← hg9];exact a3S _ _ _ _ hq
 have hl9:g9.length=g8.length+1:=by rw [← hg9];exact a2u _ _ _ _
 clear hg9
 refine b6r p9 (by rfl) (by rfl) (by simp) (by rfl) fun g10 p10 sg=>?_
 replace p10:g10[g8.length]?=some (.row a0F 10 [[.int .i64 v1,.int .i64 v2,.int .i64 (10*v3),.int .i64 0,.nils,.int .i64 (1000*v4),.int .i64 wt,.str tr,.str sm,y]]):=p10
 have hb10:∀ q,q<g8.length→g10[q]?=g8[q]?:=fun q hq=>(sg.2 q (by omega)).trans (hb9 q hq)
 have hl10:g10.length=h.length+2:=by have:=sg.1;omega
 have S10:=S8.app (by omega) fun q hq=>hb10 q (by omega)
 replace p0:=(hb10 h.length (by omega)).trans p0
 rw [hl8] at p10 ⊢
 clear p9 hb9 hl9 sg hb10 S8 c8 hl8
 have r10:g10.row (h.length+1) 0=some [.int .i64 v1,.int .i64 v2,.int .i64 (10*v3),.int .i64 0,.nils,.int .i64 (1000*v4),.int .i64 wt,.str tr,.str sm,y]:=a0I p10
 simp only [bs,a4D,Nat.zero_add,a6h,r10,List.drop_succ_cons,List.drop_zero,List.head?_cons]
 obtain ⟨z,g11,e11,c11,s11,ls,b,hz,hch,hl1,hl3⟩:=m42 S10.cd (10*v3) (by omega) (by omega) 3 (by omega) (by omega)
 refine Wp.step e11 ?_;clear e11 r10
 have S11:=S10.next c11 s11
 replace p10:=(s11.2 (h.length+1) (by omega)).trans p10
 replace p0:=(s11.2 h.length (by omega)).trans p0
 have hl11:g11.length=h.length+2:=s11.1.trans hl10
 have oz:=a0E (a2k hz)
 simp only [bs,a3x,Nat.zero_add]
 refine b7U p10 (by rfl) (by rw [oz.1];rfl) (by simp) oz.2 fun g12 p12 sg=>?_
 rw [oz.1] at p12
 replace p12:g12[h.length+1]?=some (.row a0F 10 [[.int .i64 v1,.int .i64 v2,.int .i64 (10*v3),.int .i64 0,z,.int .i64 (1000*v4),.int .i64 wt,.str tr,.str sm,y]]):=p12
 have S12:=S11.app (Nat.le_of_eq sg.1.symm) fun q hq=>sg.2 q (by omega)
 replace p0:=(sg.2 h.length (by omega)).trans p0
 have hl12:g12.length=h.length+2:=sg.1.trans hl11
 clear S10 S11 p10 sg s11 c11 hl11 hl10
 have r12:g12.row (h.length+1) 0=some [.int .i64 v1,.int .i64 v2,.int .i64 (10*v3),.int .i64 0,z,.int .i64 (1000*v4),.int .i64 wt,.str tr,.str sm,y]:=a0I p12
 have hcl:=a5l _ _ _ hch
 have hls:∃ l,ls[((ls.length:Int) - 1).toNat]?=some l∧l.off+l.len=b:=by
  clear hcl hz
  have key:∀ (ls:List Lin) (a b:Int),mch a ls b→1≤ls.length→∃ l,ls[ls.length - 1]?=some l∧l.off+l.len=b:=by
   intro ls
   induction ls with
   | nil=>intro a b _ hh;simp at hh
   | cons x r ih =>
    intro a b hm _
    cases r with
    | nil =>
     have h5:a+x.len=b:=hm.2.2.2.2
     exact ⟨x,rfl,by rw [hm.1];exact h5⟩
    | cons x2 r =>
     obtain ⟨l,h1,h2⟩:=ih _ b hm.2.2.2.2 (by simp)
     exact ⟨l,by simpa using h1,h2⟩
  obtain ⟨l,h1,h2⟩:=key ls _ b hch hl1
  exact ⟨l,by rw [show ((ls.length:Int) - 1).toNat=ls.length - 1 by omega];exact h1,h2⟩
 obtain ⟨l,hgl,hlb⟩:=hls
 have hw1:=wrap_i64 (n:=(ls.length:Int) - 1) (by omega) (by omega)
 have hw2:=wrap_i64 (n:=b) (by omega) (by omega)
 have hnn:(0:Int)≤(ls.length:Int) - 1:=by omega
 have hbx:a5x 3 (.agg (a1t l))=some (.fptr (a1t l)):=a2E 3 _ rfl
 simp only [bs,b5h,r12,List.drop_succ_cons,List.drop_zero,List.head?_cons,a4x hz,a0z,hw1,a9r hz,hnn,if_true,hgl,Option.map_some,a6N,hbx]
 simp only [a1t,b8o,b8p,ld3,bs,a0r,hlb,hw2,a4E,Nat.zero_add]
 refine c1a p12 (by rfl) (by rfl) (by simp) (by rfl) fun g13 p13 sg=>?_
 replace p13:g13[h.length+1]?=some (.row a0F 10 [[.int .i64 v1,.int .i64 v2,.int .i64 (10*v3),.int .i64 b,z,.int .i64 (1000*v4),.int .i64 wt,.str tr,.str sm,y]]):=p13
 have S13:=S12.app (Nat.le_of_eq sg.1.symm) fun q hq=>sg.2 q (by omega)
 replace p0:=(sg.2 h.length (by omega)).trans p0
 clear p12 sg S12
 simp only [bs,c4x p13 rfl]
 refine b6r p0 (by rfl) (by rfl) (by simp) (by rfl) fun g14 p14 sg=>?_
 replace p14:g14[h.length]?=some (.row a0F 10 [[.int .i64 v1,.int .i64 v2,.int .i64 (10*v3),.int .i64 b,z,.int .i64 (1000*v4),.int .i64 wt,.str tr,.str sm,y]]):=p14
 have S14:=S13.app (Nat.le_of_eq sg.1.symm) fun q hq=>sg.2 q (by omega)
 simp only [bs,c4x p14 rfl,a0h]
 have hfl:fs.length≤4:=by
  have:=hfs.1.length_le
  simpa using this
 generalize hE:(⟨v1,v2,10*v3,b,ls,z,1000*v4,wt,tr,sm,fs,y,hy,by omega,hz,by omega⟩:Ev)=E
 have hEr:evr E=[.int .i64 v1,.int .i64 v2,.int .i64 (10*v3),.int .i64 b,z,.int .i64 (1000*v4),.int .i64 wt,.str tr,.str sm,y]:=by rw [← hE];rfl
 have hEM:EvM E:=by rw [← hE];exact ⟨a1,by show v1≤2;omega,a2,by show v2≤2;omega,by show 0≤10*v3;omega,by show 10*v3≤100;omega,hch,hl1,hl3,by show 0≤1000*v4;omega,by show 1000*v4≤255000;omega,hwt,htr,hsm,hfs⟩
 rw [← hEr]
 obtain ⟨h',hsc,hcd,hsm2⟩:=S14.scope (d := .agg (evr E)) (d' := .agg (evr E)) (by
  rw [b0k,a2J fun d hd=>b4f h.length g14 2 E d hd]) (.agg _ fun d hd=>b8l _ E d hd)
 rw [hsc]
 exact .some ⟨E,rfl,hcd,hsm2,hEM⟩
theorem c0z (n lo hi:Int) (h:Hp):R a7r [.int .i64 n,.int .i64 lo,.int .i64 hi] h=some (.bool (decide (lo≤n)&&decide (n≤hi)),h):=by
 rw [c5i]
 by_cases h1:lo≤n <;> simp [-bind_some, c1w,h1]
def plB (e:Ev):Bool:=(decide (0≤e.a0)&&decide (e.a0≤999))&&((decide (0≤e.a1)&&decide (e.a1≤2147483646))&&(decide (0≤e.a2)&&(decide (e.a2<e.a3)&&decide (e.a3≤60000))))
theorem c3Q (e:Ev) (h:Hp):R b1B [.agg (evr e)] h=some (.bool (plB e),h):=by
 rw [c5e]
 have k2:=c0z e.a1 0 2147483646 h
 simp only [c1s,bs,a2h,evr,c2P,c2Q,b8m,a4v,ld3,c0z e.a0,a4g,a0v,a3v,plB]
 generalize (decide (0≤e.a0)&&decide (e.a0≤999))=b1
 generalize (decide (0≤e.a1)&&decide (e.a1≤2147483646))=b2 at k2 ⊢
 generalize h3:decide (0≤e.a2)=b3
 generalize h4:decide (e.a2<e.a3)=b4
 generalize h5:decide (e.a3≤60000)=b5
 cases b1 <;> cases b2 <;> cases b3 <;> cases b4 <;> cases b5 <;> simp [-bind_some, k2,h3,h4,h5]
def lnE (to_ most:Int):Int→List Lin→Int
 | _,[]=>0
 | at_,l::r=>if l.off=at_∧¬ l.len<1∧¬ IntKind.wrap .i64 (to_ - at_)<l.len∧¬ (r=[]∧l.len<IntKind.wrap .i64 (to_ - at_)) then (if most<l.txt.length then 3 else lnE to_ most (IntKind.wrap .i64 (at_+l.len)) r) else 19
def a2N (e:Ev) (most:Int):Int:=if e.ls.length=0 then 9 else if 40<e.ls.length then 4 else lnE e.a3 most e.a2 e.ls
theorem c3R (e:Ev) (m:Int) (h:Hp):R b1C [.agg (evr e),.int .i64 m] h=some (.int .i64 (a2N e m),h):=by
 apply Wp.val
 have sc:∀ (g:Hp) (v:Int),h.length≤g.length→(∀ q,q<h.length→g[q]?=h[q]?)→scope h g (.int .i64 v)=some (.int .i64 v,h):=fun g v h1 h2=>a1y (by simp) (.int _ _) h1 h2
 rw [c5f]
 simp only [c1t,a2h,bs,d0B,evr,b8n,b8m,b5f,ld3,a4x e.hld,a0L,a0v,a0h]
 by_cases g0:e.ls.length=0
 ·have g0':(e.ls.length:Int)=0:=by omega
  simp only [g0',decide_true,a0c,if_true,sc h _ (Nat.le_refl _) (fun _ _=>rfl)]
  exact .some (by simp [-bind_some, a2N,g0])
 by_cases g4:40<e.ls.length
 ·have g0':¬ (e.ls.length:Int)=0:=by omega
  have g4':(40:Int)<(e.ls.length:Int):=by omega
  simp only [g0',g4',decide_true,decide_false,d0C,if_false,a0c,if_true,sc h _ (Nat.le_refl _) (fun _ _=>rfl)]
  exact .some (by simp [-bind_some, a2N,g0,g4])
 have g0':¬ (e.ls.length:Int)=0:=by omega
 have g4':¬ (40:Int)<(e.ls.length:Int):=by omega
 have hE:a2N e m=lnE e.a3 m e.a2 e.ls:=by simp [-bind_some, a2N,g0,g4]
 rw [hE]
 generalize hV:lnE e.a3 m e.a2 e.ls=V
 simp only [g0',g4',decide_true,decide_false,d0C,if_false,a0c,if_true]
 refine Wp.loop (fun k ds g=>h.length≤g.length∧(∀ q,q<h.length→g[q]?=h[q]?)∧∃ a b c d f u v,∃ at_:Int,∃ i:Nat,ds=[a,.int .i64 at_,b,c,d,.int .i64 i,f,u,v]∧k+i=e.ls.length∧lnE e.a3 m at_ (e.ls.drop i)=V)
   (fun x=>h.length≤x.2.2.length∧(∀ q,q<h.length→x.2.2[q]?=h[q]?)∧((x.1 = .ext 1∧V=0)∨(x.1 = .ret∧nth 0 x.2.1 = .int .i64 V))) e.ls.length ⟨Nat.le_refl _,fun _ _=>rfl,_,_,_,_,_,_,_,_,0,rfl,rfl,hV⟩ ?_ ?_
 ·rintro k ds g ⟨hgl,hgb,a,b,c,d,f,u,v,at_,i,rfl,hk,hch⟩
  simp only [b0M,a0f,a0j,bs,d0B,b8n,a4v,b5f,ld3,a4x e.hld,a0o]
  refine Wp.dif ?_ ?_
  ·intro h0
   have h0:i<e.ls.length:=dl_ h0
   have hg:e.ls[i]?=some e.ls[i]:=d0Q h0
   have hw:=wi_ i (by omega)
   have hw4:IntKind.wrap .i64 ((e.ls.length:Int) - 1)=(e.ls.length:Int) - 1:=wrap_i64 (by omega) (by omega)
   have hlast:(e.ls.drop (i+1)=[])↔(i:Int)=(e.ls.length:Int) - 1:=by
    rw [List.drop_eq_nil_iff];omega
   rw [List.drop_eq_getElem_cons h0] at hch
   generalize e.ls[i]=x at hg hch
   generalize hrest:e.ls.drop (i+1)=rest at hch hlast
   simp only [a9r e.hld,Int.natCast_nonneg,if_true,d0K,hg,Option.map_some,bs,a6N]
   generalize hg2:a0J g a1z 3 [[.int .i64 0,.int .i64 0,.str []]]=g2
   have p1:g2[g.length]?=some (.row a1z 3 [[.int .i64 0,.int .i64 0,.str []]]):=by rw [← hg2];exact a3R _ _ _ _
   have hb2:∀ q,q<g.length→g2[q]?=g[q]?:=fun q hq=>by rw [← hg2];exact a3S _ _ _ _ hq
   have hl2:g2.length=g.length+1:=by rw [← hg2];exact a2u _ _ _ _
   clear hg2
   refine c4i p1 (by rfl) (by rfl) (by simp) (by rfl) fun g3 p3 sg=>?_
   replace p3:g3[g.length]?=some (.row a1z 3 [a1t x]):=p3
   have hgl3:h.length≤g3.length:=by have:=sg.1;omega
   have hgb3:∀ q,q<h.length→g3[q]?=h[q]?:=fun q hq=>((sg.2 q (by omega)).trans (hb2 q (by omega))).trans (hgb q hq)
   clear p1 hb2 hl2 sg hgb
   have r3:g3.row g.length 0=some [.int .i64 x.off,.int .i64 x.len,.str x.txt]:=a0I p3
   simp only [bs,a2V,a2W,a2X,Nat.zero_add,a6h,b2L,r3,List.drop_succ_cons,List.drop_zero,List.head?_cons,a0z,hw4,a0L,a0x,a8o,a0v,a0o]
   unfold lnE at hch
   by_cases q1:x.off=at_
   ·by_cases q2:x.len<1
    ·rw [if_neg (fun hh=>hh.2.1 q2)] at hch
     simp only [q1,q2,ne_eq,not_true,decide_false,decide_true,a0s,if_true,if_false,d0C,reduceCtorEq,bs,a0g,a0c,a4v,ld3,a2V,a2W,a2X,Nat.zero_add,a6h,b2L,r3,List.drop_succ_cons,List.drop_zero,List.head?_cons,a0z,hw4,a0L,a0x,a8o,a0v,a0o]
     exact .some (.inr ⟨by simp,hgl3,hgb3,.inr ⟨rfl,by simp [-bind_some, hch]⟩⟩)
    ·by_cases q3:IntKind.wrap .i64 (e.a3 - at_)<x.len
     ·rw [if_neg (fun hh=>hh.2.2.1 q3)] at hch
      simp only [q1,q2,q3,ne_eq,not_true,decide_false,decide_true,a0s,if_true,if_false,d0C,reduceCtorEq,bs,a0g,a0c,a4v,ld3,a2V,a2W,a2X,Nat.zero_add,a6h,b2L,r3,List.drop_succ_cons,List.drop_zero,List.head?_cons,a0z,hw4,a0L,a0x,a8o,a0v,a0o]
      exact .some (.inr ⟨by simp,hgl3,hgb3,.inr ⟨rfl,by simp [-bind_some, hch]⟩⟩)
     ·by_cases hi:(i:Int)=(e.ls.length:Int) - 1
      ·have hid:decide ((i:Int)=(e.ls.length:Int) - 1)=true:=by simpa using hi
       by_cases q4:x.len<IntKind.wrap .i64 (e.a3 - at_)
       ·rw [if_neg (fun hh=>hh.2.2.2 ⟨hlast.2 hi,q4⟩)] at hch
        simp only [q1,q2,q3,hid,ne_eq,not_true,not_false_eq_true,decide_false,decide_true,a0s,a2Y,if_true,if_false,d0C,reduceCtorEq,bs,a0g,a0c,a4v,ld3,a2V,a2W,a2X,Nat.zero_add,a6h,b2L,r3,List.drop_succ_cons,List.drop_zero,List.head?_cons,a0z,hw4,a0L,a0x,a8o,a0v,a0o,q4]
        exact .some (.inr ⟨by simp,hgl3,hgb3,.inr ⟨rfl,by simp [-bind_some, hch]⟩⟩)
       ·rw [if_pos ⟨q1,q2,q3,fun hh=>q4 hh.2⟩] at hch
        by_cases q5:m<(x.txt.length:Int)
        ·rw [if_pos q5] at hch
         simp only [q1,q2,q3,hid,ne_eq,not_true,not_false_eq_true,decide_false,decide_true,a0s,a2Y,if_true,if_false,d0C,reduceCtorEq,bs,a0g,a0c,a4v,ld3,a2V,a2W,a2X,Nat.zero_add,a6h,b2L,r3,List.drop_succ_cons,List.drop_zero,List.head?_cons,a0z,hw4,a0L,a0x,a8o,a0v,a0o,q4,q5]
         exact .some (.inr ⟨by simp,hgl3,hgb3,.inr ⟨rfl,by simp [-bind_some, hch]⟩⟩)
        ·rw [if_neg q5] at hch
         simp only [q1,q2,q3,hid,ne_eq,not_true,not_false_eq_true,decide_false,decide_true,a0s,a2Y,if_true,if_false,d0C,reduceCtorEq,bs,a0g,a0c,a4v,ld3,a2V,a2W,a2X,Nat.zero_add,a6h,b2L,r3,List.drop_succ_cons,List.drop_zero,List.head?_cons,a0z,hw4,a0L,a0x,a8o,a0v,a0o,q4,q5,a0r,hw]
         exact .some (.inl ⟨rfl,k - 1,by omega,hgl3,hgb3,_,_,_,_,_,_,_,_,i+1,rfl,by omega,by rw [hrest];exact hch⟩)
      ·rw [if_pos ⟨q1,q2,q3,fun hh=>hi (hlast.1 hh.1)⟩] at hch
       have q4:True:=trivial
       by_cases q5:m<(x.txt.length:Int)
       ·rw [if_pos q5] at hch
        simp only [q1,q2,q3,hi,ne_eq,not_true,not_false_eq_true,decide_false,decide_true,a0s,a2Y,if_true,if_false,d0C,reduceCtorEq,bs,a0g,a0c,a4v,ld3,a2V,a2W,a2X,Nat.zero_add,a6h,b2L,r3,List.drop_succ_cons,List.drop_zero,List.head?_cons,a0z,hw4,a0L,a0x,a8o,a0v,a0o,q4,q5]
        exact .some (.inr ⟨by simp,hgl3,hgb3,.inr ⟨rfl,by simp [-bind_some, hch]⟩⟩)
       ·rw [if_neg q5] at hch
        simp only [q1,q2,q3,hi,ne_eq,not_true,not_false_eq_true,decide_false,decide_true,a0s,a2Y,if_true,if_false,d0C,reduceCtorEq,bs,a0g,a0c,a4v,ld3,a2V,a2W,a2X,Nat.zero_add,a6h,b2L,r3,List.drop_succ_cons,List.drop_zero,List.head?_cons,a0z,hw4,a0L,a0x,a8o,a0v,a0o,q4,q5,a0r,hw]
        exact .some (.inl ⟨rfl,k - 1,by omega,hgl3,hgb3,_,_,_,_,_,_,_,_,i+1,rfl,by omega,by rw [hrest];exact hch⟩)
   ·rw [if_neg (fun hh=>q1 hh.1)] at hch
    simp only [q1,ne_eq,not_false_eq_true,decide_false,decide_true,a0s,if_true,if_false,d0C,reduceCtorEq,bs,a0g,a0c,a4v,ld3,a2V,a2W,a2X,Nat.zero_add,a6h,b2L,r3,List.drop_succ_cons,List.drop_zero,List.head?_cons,a0z,hw4,a0L,a0x,a8o,a0v,a0o]
    exact .some (.inr ⟨by simp,hgl3,hgb3,.inr ⟨rfl,by simp [-bind_some, hch]⟩⟩)
  ·intro h0
   have h0:¬ i<e.ls.length:=by
    have:¬ (i:Int)<e.ls.length:=by simpa using h0
    omega
   rw [List.drop_of_length_le (by omega)] at hch
   exact .some (.inr ⟨by simp,hgl,hgb,.inl ⟨rfl,hch.symm⟩⟩)
 ·rintro ⟨ex,ds,g⟩ ⟨h1,h2,hc⟩
  simp only at h1 h2 hc
  rcases hc with ⟨rfl,rfl⟩ | ⟨rfl,hc⟩
  ·simp only [a0p,a0n,bs,a0h,sc g 0 h1 h2]
   exact .some rfl
  ·simp only [a2B,a2A,a2r,a0f,bs,hc,a0h,sc g V h1 h2]
   exact .some rfl
def dn {α:Type} (c:α→α→Int) (a:Nat):Nat→List α→List α
 | 0,l=>l
 | j+1,l=>match l[j+1]?,l[j]? with
  | some x,some y=>if a<j+1∧c x y<0 then dn c a j ((l.set (j+1) y).set j x) else l
  | _,_=>l
theorem b3U {α:Type} (c:α→α→Int) (a:Nat):∀ (j:Nat) (l:List α),(dn c a j l).length=l.length
 | 0,l=>rfl
 | j+1,l=>by
  unfold dn
  split
  ·split
   ·rw [b3U c a j];simp [-bind_some]
   ·rfl
  ·rfl
def isr {α:Type} (c:α→α→Int) (a:Nat):Nat→Nat→List α→List α
 | _,0,l=>l
 | i,n+1,l=>isr c a (i+1) n (dn c a i l)
theorem b4W {α:Type} (c:α→α→Int) (a:Nat):∀ (n i:Nat) (l:List α),(isr c a i n l).length=l.length
 | 0,i,l=>rfl
 | n+1,i,l=>by
  unfold isr
  rw [b4W c a n,b3U]
theorem a6S {α:Type} (f:α→List D) (l:List α) (i:Nat) (x:α):(l.map f).set i (f x)=(l.set i x).map f:=by rw [List.map_set]
theorem c0g {h:Hp} {q k T z:Nat} {rows:List (List D)} {p:Str × Str} (hq:h[q]?=some (.row T z rows)) (hk:rows[k]?=some (fld p)):a0d tab h a0t (.ptr q k 0)=some (.agg (fld p)):=by
 rw [b8w,a0I hq,hk]
 rfl
theorem c6w (c:Str × Str→Str × Str→Int) (cmp:D) (hc:∀ x y g,a3G R cmp [.agg (fld x),.agg (fld y)] g=some (.int .i64 (c x y),g)) (ob N a:Nat) (hN:N≤1000000000) {β:Type} {K:Out→Option β} {Q:β→Prop}
  (l:List (Str × Str)) (hl:l.length=N) (j:Nat) (hj:j<N) (h:Hp) (ho:h[ob]?=some (.row a0t 2 (l.map fld))) (b:D)
  (k:∀ x y h',h'[ob]?=some (.row a0t 2 ((dn c a j l).map fld))→Same ob h h'→Wp (K (.ext 2,[x,y],h')) Q) :
  Wp ((a0K (a7J (.msl 2 ob 0 N) (.int .i64 a) cmp) [.int .i64 j,b] h).bind K) Q:=by
 generalize hV:dn c a j l=V at k
 refine Wp.loop (fun n ds g=>∃ b,∃ j:Nat,∃ l':List (Str × Str),n=j∧ds=[.int .i64 j,b]∧l'.length=N∧j<N∧g[ob]?=some (.row a0t 2 (l'.map fld))∧Same ob h g∧dn c a j l'=V)
  (fun r=>r.1 = .ext 2∧(∃ x y,r.2.1=[x,y])∧r.2.2[ob]?=some (.row a0t 2 (V.map fld))∧Same ob h r.2.2) j ⟨b,j,l,rfl,rfl,hl,hj,ho,.refl _ _,hV⟩ ?_ ?_
 ·clear ho hl hj hV l j
  rintro n ds g ⟨b,j,l,rfl,rfl,hl,hj,ho,sm,hV⟩
  simp only [a7J,a0f,a0j,bs,d0B,a0v]
  cases n with
  | zero =>
   have hq:¬ (a:Int)<((0:Nat):Int):=by omega
   have hV:l=V:=hV
   subst hV
   simp only [hq,decide_false,a0s,a0Y,d0C,if_false,reduceCtorEq,bs,a0g,a0c]
   exact .some (.inr ⟨by simp,rfl,⟨_,_,rfl⟩,ho,sm⟩)
  | succ j =>
   have g1:l[j+1]?=some l[j+1]:=d0Q (by omega)
   have g0:l[j]?=some l[j]:=d0Q (by omega)
   unfold dn at hV
   rw [g1,g0] at hV
   simp only at hV
   generalize l[j+1]=x at g1 hV
   generalize l[j]=y at g0 hV
   by_cases ha:a<j+1
   ·have ha':(a:Int)<((j+1:Nat):Int):=by omega
    have hw:IntKind.wrap .i64 (((j+1:Nat):Int) - 1)=(j:Int):=by
     rw [wrap_i64 (by omega) (by omega)];omega
    have i1:(0:Int)≤((j+1:Nat):Int)∧((j+1:Nat):Int)<(N:Int):=by omega
    have i0:(0:Int)≤(j:Int)∧(j:Int)<(N:Int):=by omega
    have m1:(l.map fld)[j+1]?=some (fld x):=by rw [d0O,g1];rfl
    have m0:(l.map fld)[j]?=some (fld y):=by rw [d0O,g0];rfl
    simp only [ha',decide_true,a0s,a0Y,if_true,b2H,i1,i0,and_self,Nat.zero_add,d0K,a0z,hw,bs,c0g ho m1,c0g ho m0,hc,a0o,a0g]
    by_cases hlt:c x y<0
    ·rw [if_pos ⟨ha,hlt⟩] at hV
     simp only [hlt,decide_true,a0c,if_true]
     refine a5R ho m1 (by rfl) (by simp [-bind_some, fld]) (by rfl) fun g2 p2 s2=>?_
     rw [show spl (fld x) 0 (a0u (.agg (fld y)))=fld y from id rfl,a6S] at p2
     have m2:((l.set (j+1) y).map fld)[j]?=some (fld y):=by
      rw [d0O,d1b (by omega),g0];rfl
     try simp only [bs,i0,and_self,if_true,Nat.zero_add,d0K]
     refine a5R p2 m2 (by rfl) (by simp [-bind_some, fld]) (by rfl) fun g3 p3 s3=>?_
     rw [show spl (fld y) 0 (a0u (.agg (fld x)))=fld x from id rfl,a6S] at p3
     try simp only [bs]
     exact .some (.inl ⟨rfl,j,by omega,_,j,_,rfl,rfl,by simpa using hl,by omega,p3,(sm.trans s2).trans s3,hV⟩)
    ·rw [if_neg (fun hh=>hlt hh.2)] at hV
     subst hV
     simp only [hlt,decide_false,a0c,d0C,if_false]
     exact .some (.inr ⟨by simp,rfl,⟨_,_,rfl⟩,ho,sm⟩)
   ·rw [if_neg (fun hh=>ha hh.1)] at hV
    subst hV
    have ha':¬ (a:Int)<((j+1:Nat):Int):=by omega
    simp only [ha',decide_false,a0s,a0Y,d0C,if_false,reduceCtorEq,bs,a0g,a0c]
    exact .some (.inr ⟨by simp,rfl,⟨_,_,rfl⟩,ho,sm⟩)
 ·rintro ⟨x,ds,g⟩ ⟨rfl,⟨u,v,rfl⟩,h1,h2⟩
  exact k u v g h1 h2
theorem c7a (c:Str × Str→Str × Str→Int) (cmp:D) (hc:∀ x y g,a3G R cmp [.agg (fld x),.agg (fld y)] g=some (.int .i64 (c x y),g)) (ob N a b:Nat) (hN:N≤1000000000) (hab:a<b∨(a=b∧b≤N)) (hb:b≤N)
  (l:List (Str × Str)) (hl:l.length=N) (h:Hp) (ho:h[ob]?=some (.row a0t 2 (l.map fld))) :
  ∃ d h',R a6G [.msl 2 ob 0 N,.int .i64 a,.int .i64 b,cmp] h=some (d,h')∧h'[ob]?=some (.row a0t 2 ((isr c a (a+1) (b - (a+1)) l).map fld))∧Same ob h h':=by
 suffices Wp (R a6G [.msl 2 ob 0 N,.int .i64 a,.int .i64 b,cmp] h) (fun p=>p.2[ob]?=some (.row a0t 2 ((isr c a (a+1) (b - (a+1)) l).map fld))∧Same ob h p.2) by
  obtain ⟨⟨x,h'⟩,h1,h2⟩:=this
  exact ⟨x,h',h1,h2⟩
 rw [c2L]
 have hw:=wi_ a (by omega)
 simp only [b9h,bs,d0B,a0r,hw]
 generalize hV:isr c a (a+1) (b - (a+1)) l=V
 refine Wp.loop (fun n ds g=>∃ u v w,∃ i:Nat,∃ l':List (Str × Str),ds=[.int .i64 i,u,v,w]∧n=b - i∧l'.length=N∧g[ob]?=some (.row a0t 2 (l'.map fld))∧Same ob h g∧isr c a i (b - i) l'=V)
  (fun r=>r.1 = .ext 0∧r.2.2[ob]?=some (.row a0t 2 (V.map fld))∧Same ob h r.2.2) (b - (a+1)) ⟨_,_,_,a+1,l,rfl,rfl,hl,ho,.refl _ _,hV⟩ ?_ ?_
 ·rintro n ds g ⟨u,v,w,i,l',rfl,rfl,hl',ho',sm,hV⟩
  simp only [a7I,a0f,a0j,bs,d0B,a0o]
  refine Wp.dif ?_ ?_
  ·intro h0
   have h0:i<b:=by
    have:(i:Int)<(b:Int):=by simpa using h0
    omega
   have hb1:b - i=(b - (i+1))+1:=by omega
   rw [hb1] at hV
   unfold isr at hV
   have hw2:=wi_ i (by omega)
   refine c6w c cmp hc ob N a hN l' hl' i (by omega) g ho' _ fun x y g2 p2 s2=>?_
   simp only [a0p,a1A,a0n,bs,a0f,a0r,hw2]
   exact .some (.inl ⟨rfl,b - (i+1),by omega,_,_,_,i+1,_,rfl,rfl,by rw [b3U];exact hl',p2,sm.trans s2,hV⟩)
  ·intro h0
   have h0:¬ i<b:=by
    have:¬ (i:Int)<(b:Int):=by simpa using h0
    omega
   rw [show b - i=0 by omega] at hV
   have hV:l'=V:=hV
   subst hV
   exact .some (.inr ⟨by simp,rfl,ho',sm⟩)
 ·rintro ⟨x,ds,g⟩ ⟨rfl,h1,h2⟩
  simp only [a0p,a2q,bs]
  exact .some ⟨h1,h2⟩
theorem a7U:∀ (a b:Str),Lib.compareBytes a b<0↔Op.bytesLess a b=true
 | [],[]=>by simp [-bind_some, Lib.compareBytes,Op.bytesLess]
 | [],_::_=>by simp [-bind_some, Lib.compareBytes,Op.bytesLess]
 | _::_,[]=>by simp [-bind_some, Lib.compareBytes,Op.bytesLess]
 | x::a,y::b=>by
  have ih:=a7U a b
  simp only [Lib.compareBytes,Op.bytesLess]
  by_cases h1:x<y
  ·simp [-bind_some, h1]
  ·by_cases h2:y<x
   ·have h3:¬ x=y:=fun hh=>by subst hh;exact h1 h2
    simp [-bind_some, h1,h2,h3]
   ·have h3:x=y:=by
      apply UInt8.toNat_inj.1
      have:=mt UInt8.lt_iff_toNat_lt.2 h1
      have:=mt UInt8.lt_iff_toNat_lt.2 h2
      omega
    subst h3
    simp [-bind_some, h1,ih]
def cF (x y:Str × Str):Int:=Lib.compareBytes x.1 y.1
theorem c6X (a b:Str) (h:Hp):R b4z [.str a,.str b] h=some (.int .i64 (Lib.compareBytes a b),h):=by
 rw [c5p]
 simp only [c1B,bs,c5t,c1F,d0w,a0h]
theorem c6W (x y:Str × Str) (h:Hp):R a6F [.agg (fld x),.agg (fld y)] h=some (.int .i64 (cF x y),h):=by
 rw [c5o]
 simp only [c1A,bs,a2h,b4o,b4p,c6X,a0h,cF]
theorem c4M (x y:Str × Str) (h:Hp):a3G R (.fn (.func a6F) [] []) [.agg (fld x),.agg (fld y)] h=some (.int .i64 (cF x y),h):=by
 rw [a5y];exact c6W x y h
theorem ixA (cs:List D) (i:Int) (h0:0≤i) (h1:i<256) (hl:i.toNat<cs.length):a0b tab b2q (.fptr cs) (.int .u8 i)=some (.fptr (cs.drop i.toNat)):=by
 have:=c2Z (T:=tab) (t:=b2q) (n:=256) (z:=1) (i:=b6h) (j:=ti5) (id rfl) (id rfl) (id rfl) (id rfl) (by omega) (cs:=cs) (k := .u8) h0 h1 (by omega)
 rwa [Nat.mul_one] at this
theorem b1R:kinZ.length=256:=by decide
theorem b0o:kin.length=256:=by simp [-bind_some, kin,b1R]
theorem b8u (i:Nat) (hi:i<256):∃ z,kin.drop i = .int .u8 z::kin.drop (i+1)∧kinZ[i]?=some z:=by
 have hl:=b1R
 have hk:=b0o
 refine ⟨kinZ[i]'(by omega),?_,d0Q (by omega)⟩
 rw [List.drop_eq_getElem_cons (by omega)]
 simp [-bind_some, kin]
def b5d (z:Int):Bool:=decide (IntKind.wrap .u8 (BitVec.ofInt IntKind.u8.bits z &&& BitVec.ofInt IntKind.u8.bits 2).toNat≠0)
def c3f (z:Int):Bool:=decide (IntKind.wrap .u8 (BitVec.ofInt IntKind.u8.bits z &&& BitVec.ofInt IntKind.u8.bits 3).toNat≠0)
theorem c3e:∀ i:Fin 256,(kinZ[i.val]?).map b5d=some (a5N i.val)∧(kinZ[i.val]?).map c3f=some (b9D i.val||a5N i.val):=by decide
theorem c6Z (c:UInt8) (h:Hp):R b4B [.int .u8 c.toNat] h=some (.bool (a5N c.toNat),h):=by
 have hc:c.toNat<256:=c.toNat_lt
 obtain ⟨z,hz,hg⟩:=b8u c.toNat hc
 have hk:=(c3e ⟨c.toNat,hc⟩).1
 simp only [hg,Option.map_some,Option.some.injEq] at hk
 have hl:=b0o
 rw [c5r]
 simp only [c1D,bs,ixA kin c.toNat (by omega) (by omega) (by rw [hl];simpa using hc),d0K,hz,ld5,b1l,a0x,a0h,← hk,b5d]
theorem c0A (c:UInt8) (h:Hp):R b4C [.int .u8 c.toNat] h=some (.bool (b6q c.toNat),h):=by
 have hc:c.toNat<256:=c.toNat_lt
 obtain ⟨z,hz,hg⟩:=b8u c.toNat hc
 have hk:=(c3e ⟨c.toNat,hc⟩).2
 simp only [hg,Option.map_some,Option.some.injEq] at hk
 have hl:=b0o
 rw [c5s]
 simp only [c3f] at hk
 simp only [c1E,bs,ixA kin c.toNat (by omega) (by omega) (by rw [hl];simpa using hc),d0K,hz,ld5,b1l,a0x,a0L,b6q,hk]
 cases hq:(b9D c.toNat||a5N c.toNat) <;> simp [-bind_some]
theorem c3i (s:Str) (h:Hp) (ob:Nat) (hob:h[ob]?=some (.row ty5 1 (a0M s))) (hl:s.length≤9223372036854775807) {β:Type} (K:Out→Option β) (X:Bool→Option β) (hh:Hp)
   (hX:∀ r,K (.ret,.bool false::r,h)=X false) (hY:∀ r,K (.ext 0,r,h)=X true):∀ (suf pre:Str),s=pre++suf→∀ a b e f,
   (a0K (a4f (.msl 1 ob 0 s.length,hh) (.int .i64 s.length)) [a,b,.int .i64 pre.length,e,f] h).bind K=X (suf.all a8s):=by
 intro suf
 induction suf with
 | nil =>
  rintro pre rfl a b e f
  rw [a1S]
  simp [-bind_some, a4f,hY]
 | cons p suf ih =>
  rintro pre rfl a b e f
  have hw:IntKind.wrap .i64 ((pre.length:Int)+1)=(pre++[p]).length:=by
   rw [wrap_i64 (by omega) (by simp at hl;omega)];simp [-bind_some]
  have hlt:(pre.length:Int)<(pre++p::suf).length:=by simp;omega
  rw [a1S]
  generalize hL:pre++p::suf=L at *
  have hg:(a0M L)[pre.length]?=some [.int .u8 p.toNat]:=by rw [← hL];simp [-bind_some, a0M]
  have hld:a0d tab h ty5 (.ptr ob pre.length 0)=some (.int .u8 p.toNat):=by
   rw [c7Y,a0I hob,hg];rfl
  have h0:(0:Int)≤(pre.length:Int)∧(pre.length:Int)<(L.length:Int):=⟨by omega,hlt⟩
  cases hp:b6q p.toNat
  ·by_cases h46:(p.toNat:Int)=46
   ·have:=ih (pre++[p]) (by simp [-bind_some, ← hL]) a (.int .u8 p.toNat) (.bool true) (.bool false)
    simp only [← hw] at this
    have h47:b6q 46=false:=rfl
    have hs:=c0A p h
    rw [hp] at hs
    have hpn:a8s p=true:=by simp [-bind_some, a8s,hp,h46]
    have hn:decide ((p.toNat:Int)≠46)=false:=by simp [-bind_some, h46]
    simp only [a4f,a0f,a0j,bs,a0o,hlt,decide_true,a0c,if_true,b7q,h0,and_self,Nat.zero_add,d0K,hld,hs,a1D,d0M,a0s,a0x,hn,a0g,d0C,if_false,a0r,List.all_cons,hpn,Bool.true_and]
    exact this
   ·have hs:=c0A p h
    rw [hp] at hs
    have hpn:a8s p=false:=by simp [-bind_some, a8s,hp,h46]
    have hn:decide ((p.toNat:Int)≠46)=true:=by simp [-bind_some, h46]
    simp only [a4f,a0f,a0j,bs,a0o,hlt,decide_true,a0c,if_true,b7q,h0,and_self,Nat.zero_add,d0K,hld,hs,a1D,d0M,a0s,a0x,hn,a0g,List.all_cons,hpn,Bool.false_and,hX]
  ·have:=ih (pre++[p]) (by simp [-bind_some, ← hL]) a (.int .u8 p.toNat) (.bool true) (.bool false)
   simp only [← hw] at this
   have hs:=c0A p h
   rw [hp] at hs
   have hpn:a8s p=true:=by simp [-bind_some, a8s,hp]
   simp only [a4f,a0f,a0j,bs,a0o,hlt,decide_true,a0c,if_true,b7q,h0,and_self,Nat.zero_add,d0K,hld,hs,a1D,d0L,a0s,d0C,if_false,reduceCtorEq,a0g,a0r,List.all_cons,hpn,Bool.true_and]
   exact this
theorem c6V (s:Str) (h:Hp):R b4y [.str s] h=some (.bool (a2t s),h):=by
 have sc:∀ (g:Hp) (v:Bool),h.length≤g.length→(∀ q,q<h.length→g[q]?=h[q]?)→scope h g (.bool v)=some (.bool v,h):=fun g v h1 h2=>a1y (by simp) (.bool _) h1 h2
 rw [c5n]
 cases s with
 | nil =>
  simp only [b2r,bs,a2F,beq_self_eq_true,a0s,a0Y,reduceCtorEq,if_false,a0g,if_true,a0c,a0h,d0D,sc h _ (Nat.le_refl _) (fun _ _=>rfl)]
  rfl
 | cons c r =>
  have hne:((c::r:Str)==[])=false:=by simp
  by_cases h32:(32:Int)<((c::r).length:Int)
  ·have hf:a2t (c::r)=false:=by
     have:¬ (c::r).length≤32:=by omega
     simp [-bind_some, a2t]
     intro hh;simp at this;omega
   simp only [b2r,bs,a2F,hne,a0s,a0Y,if_true,a8o,a0v,h32,decide_true,reduceCtorEq,if_false,a0g,a0c,a0h,d0D,d0C,a2Y,a4F,sc h _ (Nat.le_refl _) (fun _ _=>rfl),hf]
  ·have hle:(c::r).length≤32:=by omega
   have hi0:=d0a (c::r) 0 c rfl
   have hi0:a6z tab ty9 (.str (c::r)) (.int .i64 0)=some (.int .u8 c.toNat):=hi0
   have hs:=c6Z c h
   have hwb:b9a ty5 h (.str (c::r))=some (.msl 1 h.length 0 (c::r).length,a0J h ty5 1 (a0M (c::r))):=if_pos (a3Q (by omega) (by omega))
   have p1:=a3R h ty5 1 (a0M (c::r))
   have hsc:∀ v,scope h (a0J h ty5 1 (a0M (c::r))) (.bool v)=some (.bool v,h):=fun v=>sc _ _ (by rw [a2u];omega) fun q hq=>a3S _ _ _ _ hq
   have go:∀ (b:Bool),(a5N c.toNat||decide ((c.toNat:Int)=95))=b→a2t (c::r)=(b&&(c::r).all a8s):=fun b hb=>by
    simp only [a2t,hle,decide_true,Bool.true_and,hb]
   cases hq:a5N c.toNat
   ·rw [hq] at hs
    by_cases h95:(c.toNat:Int)=95
    ·have hn95:decide ((c.toNat:Int)≠95)=false:=by simp [-bind_some, h95]
     rw [go true (by simp [-bind_some, hq,h95])]
     simp only [b2r,bs,d0B,a2F,hne,a0s,a0Y,if_true,a8o,a0v,h32,decide_false,reduceCtorEq,if_false,a0g,a0c,d0C,hi0,hs,a1D,d0M,a0x,hn95,hwb,b1U]
     have:=c3i (c::r) (a0J h ty5 1 (a0M (c::r))) h.length p1 (by omega) (fun r_1=>(some ((a0Q 0 r_1.1),[(nth 0 r_1.2.1),(nth 1 r_1.2.1),(nth 2 r_1.2.1),(nth 3 r_1.2.1),(nth 4 r_1.2.1)],r_1.2.2)).bind fun r_2=>a0R r_2.1 (scope h r_2.2.2 (.bool true)) fun x=>a1b x (scope h r_2.2.2 (a0i [nth 0 r_2.2.1]))) (fun b=>some (.bool b,h)) (a0J h ty5 1 (a0M (c::r))) (fun r=>by simp [-bind_some, hsc]) (fun r=>by simp [-bind_some, hsc]) (c::r) [] rfl (.bool false) .any .any .any
     simpa using this
    ·have hn95:decide ((c.toNat:Int)≠95)=true:=by simp [-bind_some, h95]
     rw [go false (by simp [-bind_some, hq,h95])]
     simp only [b2r,bs,a2F,hne,a0s,a0Y,if_true,a8o,a0v,h32,decide_false,reduceCtorEq,if_false,a0g,a0c,d0C,hi0,hs,a1D,d0M,a0x,hn95,a0h,sc h _ (Nat.le_refl _) (fun _ _=>rfl),Bool.false_and]
   ·rw [hq] at hs
    rw [go true (by simp [-bind_some, hq])]
    simp only [b2r,bs,d0B,a2F,hne,a0s,a0Y,if_true,a8o,a0v,h32,decide_false,reduceCtorEq,if_false,a0g,a0c,d0C,hi0,hs,a1D,d0L,hwb,b1U,a2Y]
    have:=c3i (c::r) (a0J h ty5 1 (a0M (c::r))) h.length p1 (by omega) (fun r_1=>(some ((a0Q 0 r_1.1),[(nth 0 r_1.2.1),(nth 1 r_1.2.1),(nth 2 r_1.2.1),(nth 3 r_1.2.1),(nth 4 r_1.2.1)],r_1.2.2)).bind fun r_2=>a0R r_2.1 (scope h r_2.2.2 (.bool true)) fun x=>a1b x (scope h r_2.2.2 (a0i [nth 0 r_2.2.1]))) (fun b=>some (.bool b,h)) (a0J h ty5 1 (a0M (c::r))) (fun r=>by simp [-bind_some, hsc]) (fun r=>by simp [-bind_some, hsc]) (c::r) [] rfl (.bool false) .any .any .any
    simpa using this
def RdF (h:Hp) (l:List (Str × Str)) (d:D):Prop:=SlOf 2 fld l d∨∃ ob,d = .msl 2 ob 0 l.length∧h[ob]?=some (.row a0t 2 (l.map fld))
theorem a8v {h:Hp} {l:List (Str × Str)} {d:D} (hd:RdF h l d):a0y tab a1m d=some (.int .i64 l.length):=by
 rcases hd with hd | ⟨ob,rfl,_⟩
 ·exact a3a hd
 ·exact b8y _ _ _ _
theorem a9E {h:Hp} {l:List (Str × Str)} {d:D} (hd:RdF h l d) (i:Nat) (p:Str × Str) (hp:l[i]?=some p):∃ q,a0b tab a1m d (.int .i64 i)=some q∧a0d tab h a0t q=some (.agg (fld p)) ∧
  ∃ q0,a0a tab a0t 0 q=some q0∧a0d tab h ty9 q0=some (.str p.1):=by
 have hi:=(d0R.1 hp).1
 rcases hd with hd | ⟨ob,rfl,ho⟩
 ·exact ⟨.fptr (fld p),by rw [b5c hd];simp [-bind_some, hp],b4q p h,.fptr (fld p),b4o p,b4p p h⟩
 ·have hr:(l.map fld)[i]?=some (fld p):=by rw [d0O,hp];rfl
  have hh:(0:Int)≤(i:Int)∧(i:Int)<(l.length:Int):=by omega
  refine ⟨.ptr ob i 0,by rw [b2H];simp [-bind_some, hh],c0g ho hr,.ptr ob i 0,by rw [b1u],?_⟩
  rw [b2L,a0I ho,hr];rfl
theorem RdF.keep {h h':Hp} {l:List (Str × Str)} {d:D} (hd:RdF h l d) (hk:∀ (q T z:Nat) (rows:List (List D)),h[q]?=some (Ob.row T z rows)→h'[q]?=h[q]?):RdF h' l d:=by
 rcases hd with hd | ⟨ob,rfl,ho⟩
 ·exact .inl hd
 ·exact .inr ⟨ob,rfl,by rw [hk ob _ _ _ ho];exact ho⟩
theorem c7w (l:List (Str × Str)) (d:D) (h:Hp) (hd:SlOf 2 fld l d) (hl:l.length≤1000000):∃ d' h',R b4u [d] h=some (d',h')∧h.length≤h'.length∧(∀ q,q<h.length→h'[q]?=h[q]?) ∧
  ((l=[]∧SlOf 2 fld [] d')∨∃ ob,h.length≤ob∧d' = .msl 2 ob 0 l.length∧h'[ob]?=some (.row a0t 2 (l.map fld))):=by
 rw [c5a]
 rcases hd with ⟨rfl,rfl⟩ | ⟨b,rfl⟩
 ·exact ⟨.nils,h,by
    have hne:a0l tab .eql a1m .nils .nils=some (.bool true):=id rfl
    simp [-bind_some, b9d,hne],Nat.le_refl _,fun _ _=>rfl,.inl ⟨rfl,.nils _ _⟩⟩
 ·obtain ⟨x',h',e,hl',hq,ho⟩:=b6x (T:=tab) (t:=a1m) (i:=c4E) (j:=ti109) (h:=h) (id rfl) (id rfl) (id rfl) (by decide) (y := .sl 2 b (l.map fld)) (a1e _ _ _ _) (a3Q (by have:ti109.by_=32:=rfl;rw [this,d0H];omega) (by rw [d0H];omega))
  have e':a0A tab h a1m a1m (.sl 2 true []) (.sl 2 b (l.map fld))=some (x',h'):=e
  have hne:a0l tab .eql a1m (.sl 2 b (l.map fld)) .nils=some (.bool false):=id rfl
  refine ⟨x',h',?_,hl',hq,?_⟩
  ·simp only [b9d,bs,hne,a0c,d0C,if_false,c2s,e',a0h]
  ·rcases ho with ⟨rfl,hn⟩ | ⟨rfl,hn⟩ | ⟨ob,h1,rfl,h2⟩
   ·have:l=[]:=by simpa using hn
    exact .inl ⟨this,.inr ⟨true,rfl⟩⟩
   ·have:l=[]:=by simpa using hn
    exact .inl ⟨this,.nils _ _⟩
   ·exact .inr ⟨ob,h1,by rw [d0H];rfl,h2⟩
def srt (l:List (Str × Str)):List (Str × Str):=isr cF 0 1 (l.length - 1) l
theorem c0H (l:List (Str × Str)):(srt l).length=l.length:=b4W _ _ _ _ _
def a8F:List (Str × Str)→Bool
 | x::y::r=>y.1==x.1||a8F (y::r)
 | _=>false
def a2y (l:List (Str × Str)):Int × List (Str × Str):=if 32<l.length then (4,[]) else if l.all (fun p=>a2t p.1)=true then (if a8F (srt l)=true then (7,[]) else (0,srt l)) else (6,[])
theorem c3g (l:List (Str × Str)) (d:D) (h:Hp) (hd:SlOf 2 fld l d) (hl:l.length≤1000) {β:Type} {K:Out→Option β} {Q:β→Prop} (a b c e f:D)
  (k1:l.all (fun p=>a2t p.1)=true→∀ x y z w,Wp (K (.ext 0,[a,b,x,y,z,w],h)) Q) (k2:¬ l.all (fun p=>a2t p.1)=true→∀ x y z w,Wp (K (.ret,[.nils,.int .i64 6,x,y,z,w],h)) Q) :
  Wp ((a0K (a7E d (.int .i64 l.length)) [a,b,c,.int .i64 0,e,f] h).bind K) Q:=by
 generalize hV:l.all (fun p=>a2t p.1)=V at k1 k2
 refine Wp.loop (fun k ds g=>g=h∧∃ c e f,∃ i:Nat,ds=[a,b,c,.int .i64 i,e,f]∧k+i=l.length∧(l.drop i).all (fun p=>a2t p.1)=V)
   (fun x=>x.2.2=h∧((x.1 = .ext 0∧V=true∧∃ p q r s,x.2.1=[a,b,p,q,r,s])∨(x.1 = .ret∧V=false∧∃ p q r s,x.2.1=[.nils,.int .i64 6,p,q,r,s]))) l.length ⟨rfl,_,_,_,0,rfl,rfl,hV⟩ ?_ ?_
 ·rintro k ds g ⟨rfl,c,e,f,i,rfl,hk,hch⟩
  simp only [a7E,a0f,a0j,bs,d0B,a0o]
  refine Wp.dif ?_ ?_
  ·intro h0
   have h0:i<l.length:=dl_ h0
   have hg:l[i]?=some l[i]:=d0Q h0
   have hw:=wi_ i (by omega)
   rw [List.drop_eq_getElem_cons h0] at hch
   generalize l[i]=x at hg hch
   have hbx:a5x 2 (.agg (fld x))=some (.fptr (fld x)):=a2E 2 _ rfl
   simp only [b5c hd,Int.natCast_nonneg,if_true,d0K,hg,Option.map_some,bs,b4q,hbx,b4o x,b4p,c6V,a1D]
   simp only [List.all_cons] at hch
   cases hf:a2t x.1
   ·rw [hf] at hch
    simp only [d0M,a0c,if_true]
    exact .some (.inr ⟨by simp,rfl,.inr ⟨rfl,hch.symm,_,_,_,_,rfl⟩⟩)
   ·rw [hf] at hch
    simp only [d0L,a0c,d0C,if_false,a0r,bs,hw]
    exact .some (.inl ⟨rfl,k - 1,by omega,rfl,_,_,_,i+1,rfl,by omega,hch⟩)
  ·intro h0
   have h0:l.length≤i:=by
    have:¬ (i:Int)<l.length:=by simpa using h0
    omega
   rw [List.drop_of_length_le h0] at hch
   exact .some (.inr ⟨by simp,rfl,.inl ⟨rfl,hch.symm,_,_,_,_,rfl⟩⟩)
 ·rintro ⟨x,ds,g⟩ ⟨h2,h3⟩
  simp only at h2 h3
  subst h2
  rcases h3 with ⟨rfl,hv,p,q,r,s,rfl⟩ | ⟨rfl,hv,p,q,r,s,rfl⟩
  ·exact k1 hv _ _ _ _
  ·exact k2 (by rw [hv];simp [-bind_some]) _ _ _ _
theorem c3h (l:List (Str × Str)) (d:D) (h:Hp) (hd:RdF h l d) (hl:l.length≤1000) {β:Type} {K:Out→Option β} {Q:β→Prop} (a b c e:D)
  (k1:a8F l=false→∀ x y z,Wp (K (.ext 2,[a,b,x,y,z],h)) Q) (k2:a8F l=true→∀ x y z,Wp (K (.ret,[.nils,.int .i64 7,x,y,z],h)) Q) :
  Wp ((a0K (a7F d) [a,b,.int .i64 1,c,e] h).bind K) Q:=by
 generalize hV:a8F l=V at k1 k2
 refine Wp.loop (fun k ds g=>g=h∧∃ c e,∃ i:Nat,ds=[a,b,.int .i64 ((i+1:Nat):Int),c,e]∧k=l.length - i∧a8F (l.drop i)=V)
   (fun x=>x.2.2=h∧((x.1 = .ext 2∧V=false∧∃ p q r,x.2.1=[a,b,p,q,r])∨(x.1 = .ret∧V=true∧∃ p q r,x.2.1=[.nils,.int .i64 7,p,q,r]))) l.length ⟨rfl,_,_,0,rfl,rfl,hV⟩ ?_ ?_
 ·rintro k ds g ⟨rfl,c,e,i,rfl,hk,hch⟩
  simp only [a7F,a0f,a0j,bs,d0B,a8v hd,a0o]
  refine Wp.dif ?_ ?_
  ·intro h0
   have h0:i+1<l.length:=by
    have:((i+1:Nat):Int)<l.length:=by simpa using h0
    omega
   have g1:l[i+1]?=some l[i+1]:=d0Q h0
   have g0:l[i]?=some l[i]:=d0Q (by omega)
   have hw:IntKind.wrap .i64 (((i+1:Nat):Int)+1)=((i+1+1:Nat):Int):=by
    rw [wrap_i64 (by omega) (by omega)];omega
   have hw2:IntKind.wrap .i64 (((i+1:Nat):Int) - 1)=(i:Int):=by
    rw [wrap_i64 (by omega) (by omega)];omega
   rw [List.drop_eq_getElem_cons (show i<l.length by omega),List.drop_eq_getElem_cons h0] at hch
   unfold a8F at hch
   rw [← List.drop_eq_getElem_cons h0] at hch
   generalize l[i+1]=x at g1 hch
   generalize l[i]=y at g0 hch
   obtain ⟨q1,a1,_,r1,b1,c1⟩:=a9E hd (i+1) x g1
   obtain ⟨q0,a0,_,r0,b0,c0⟩:=a9E hd i y g0
   simp only [a1,a0,b1,b0,c1,c0,bs,a0z,hw2,a2F]
   cases hf:(x.1==y.1)
   ·rw [hf] at hch
    simp only [a0c,d0C,if_false,a0r,bs,hw]
    exact .some (.inl ⟨rfl,l.length - (i+1),by omega,rfl,_,_,i+1,rfl,rfl,hch⟩)
   ·rw [hf] at hch
    simp only [a0c,if_true]
    exact .some (.inr ⟨by simp,rfl,.inr ⟨rfl,hch.symm,_,_,_,rfl⟩⟩)
  ·intro h0
   have h0:l.length≤i+1:=by
    have:¬ ((i+1:Nat):Int)<l.length:=by simpa using h0
    omega
   have hv:V=false:=by
    rw [← hch]
    have:(l.drop i).length≤1:=by simp;omega
    match l.drop i,this with
    | [],_=>rfl
    | [x],_=>rfl
   exact .some (.inr ⟨by simp,rfl,.inl ⟨rfl,hv,_,_,_,rfl⟩⟩)
 ·rintro ⟨x,ds,g⟩ ⟨h2,h3⟩
  simp only at h2 h3
  subst h2
  rcases h3 with ⟨rfl,hv,p,q,r,rfl⟩ | ⟨rfl,hv,p,q,r,rfl⟩
  ·exact k1 hv _ _ _
  ·exact k2 hv _ _ _
theorem c3T (d cmp:D) (h:Hp) (hd:SlOf 2 fld [] d):∃ x,R a9d [d,cmp] h=some (x,h):=by
 have hl:a0y tab a1m d=some (.int .i64 0):=a3a hd
 have h65:∃ x,R a6G [d,.int .i64 0,.int .i64 0,cmp] h=some (x,h):=by
  rw [c2L]
  refine ⟨a0i [],?_⟩
  simp only [b9h,bs,d0B,a0r,show IntKind.wrap .i64 ((0:Int)+1)=1 from rfl]
  rw [a1S]
  simp [-bind_some, a7I]
 obtain ⟨x,h65⟩:=h65
 have h63:∃ x,R b1D [d,.int .i64 0,cmp] h=some (x,h):=by
  rw [c2K]
  refine ⟨a0i [],?_⟩
  simp only [b9g,bs,d0B]
  rw [a1S]
  have h20:¬ (20:Int)≤0:=by omega
  have h21:¬ (20:Int)<0:=by omega
  simp only [a7G,a0f,a0j,bs,a3v,h20,decide_false,a0c,d0C,if_false,a0p,a0n,h65]
  rw [a1S]
  simp only [a7H,a0f,a0j,bs,a0o,h21,decide_false,a0c,d0C,if_false,a0p,a2q]
 obtain ⟨y,h63⟩:=h63
 refine ⟨a0i [],?_⟩
 rw [c2J]
 simp only [b9f,bs,hl,h63]
theorem c6S (l r:List (Str × Str)) (d e:D) (h:Hp) (hd:RdF h l d) (he:RdF h r e) (hl:l.length≤1000):R b4w [d,e] h=some (.bool (decide (l=r)),h):=by
 apply Wp.val
 rw [c5k]
 simp only [c1x,bs,d0B,a8v hd,a8v he,a0x]
 by_cases hlen:(l.length:Int)=(r.length:Int)
 ·have hlen':l.length=r.length:=by omega
  simp only [hlen,ne_eq,not_true,decide_false,a0c,d0C,if_false]
  generalize hV:decide (l=r)=V
  refine Wp.loop (fun k ds g=>g=h∧∃ a b c f,∃ i:Nat,ds=[a,b,.int .i64 i,c,f]∧k+i=r.length∧decide (l.drop i=r.drop i)=V)
   (fun x=>x.2.2=h∧((x.1 = .ext 0∧V=true)∨(x.1 = .ret∧V=false∧nth 0 x.2.1 = .bool false))) r.length ⟨rfl,_,_,_,_,0,rfl,rfl,hV⟩ ?_ ?_
  ·rintro k ds g ⟨rfl,a,b,c,f,i,rfl,hk,hch⟩
   simp only [b0N,a0f,a0j,bs,d0B,a0o]
   refine Wp.dif ?_ ?_
   ·intro h0
    have h0:i<r.length:=dl_ h0
    have gl:l[i]?=some l[i]:=d0Q (by omega)
    have gr:r[i]?=some r[i]:=d0Q h0
    have hw:=wi_ i (by omega)
    rw [List.drop_eq_getElem_cons (show i<l.length by omega),List.drop_eq_getElem_cons h0] at hch
    generalize l[i]=x at gl hch
    generalize r[i]=y at gr hch
    obtain ⟨q1,a1,b1,_⟩:=a9E hd i x gl
    obtain ⟨q0,a0,b0,_⟩:=a9E he i y gr
    simp only [a1,a0,b1,b0,bs,b4r]
    by_cases hxy:x=y
    ·subst hxy
     simp only [ne_eq,not_true,decide_false,a0c,d0C,if_false,a0r,bs,hw]
     exact .some (.inl ⟨rfl,k - 1,by omega,rfl,_,_,_,_,i+1,rfl,by omega,by rw [← hch];simp [-bind_some]⟩)
    ·have hne:decide (x≠y)=true:=by simpa using hxy
     simp only [hne,a0c,if_true]
     exact .some (.inr ⟨by simp,rfl,.inr ⟨rfl,by rw [← hch];simp [-bind_some, hxy],rfl⟩⟩)
   ·intro h0
    have h0:r.length≤i:=by
     have:¬ (i:Int)<r.length:=by simpa using h0
     omega
    rw [List.drop_of_length_le h0,List.drop_of_length_le (by omega)] at hch
    exact .some (.inr ⟨by simp,rfl,.inl ⟨rfl,by rw [← hch];simp [-bind_some]⟩⟩)
  ·rintro ⟨x,ds,g⟩ ⟨h2,h3⟩
   simp only at h2 h3
   subst h2
   rcases h3 with ⟨rfl,hv⟩ | ⟨rfl,hv,hn⟩
   ·simp only [a0p,a0n,bs,a0h,hv]
    exact .some rfl
   ·simp only [a2B,a2A,a2r,a0f,bs,hn,a0h,hv]
    exact .some rfl
 ·have hne:decide ((l.length:Int)≠(r.length:Int))=true:=by simpa using hlen
  have hlr:decide (l=r)=false:=by
   simp [-bind_some];intro hh;subst hh;exact hlen rfl
  simp only [hne,a0c,if_true,a0h,hlr]
  exact .some rfl
theorem c6v (l:List (Str × Str)) (d:D) (fn:D) (pr:Str × Str→Bool) (h:Hp) (hd:RdF h l d) (hl:l.length≤9223372036854775807) (hf:∀ x,a3G R fn [.agg (fld x)] h=some (.bool (pr x),h)) {β:Type} (K:Out→Option β) (X:Int→Option β)
   (hX:∀ v r,K (.ret,.int .i64 v::r,h)=X v) (hY:∀ r,K (.ext 0,r,h)=X (-1)):∀ (suf pre:List (Str × Str)),l=pre++suf→∀ a b e f,
   (a0K (a4O d fn (.int .i64 l.length)) [a,b,.int .i64 pre.length,e,f] h).bind K=X (idx pr pre.length suf):=by
 intro suf
 induction suf with
 | nil =>
  rintro pre rfl a b e f
  rw [a1S]
  simp [-bind_some, a4O,hY,idx]
 | cons p suf ih =>
  rintro pre rfl a b e f
  have hw:IntKind.wrap .i64 ((pre.length:Int)+1)=(pre++[p]).length:=by
   rw [wrap_i64 (by omega) (by simp at hl;omega)];simp [-bind_some]
  have hlt:(pre.length:Int)<(pre++p::suf).length:=by simp;omega
  rw [a1S]
  generalize hL:pre++p::suf=L at *
  have hg:L[pre.length]?=some p:=by rw [← hL];exact b4S _ _ _
  obtain ⟨q,a1,b1,_⟩:=a9E hd _ _ hg
  by_cases hp:pr p=true
  ·simp [-bind_some, a4O,a1,b1,hlt,hf,hp,hX,idx]
  ·have:=ih (pre++[p]) (by simp [-bind_some, ← hL]) a (.int .i64 pre.length) (.bool true) (.bool (pr p))
   simp only [← hw] at this
   simp [-bind_some, a4O,a1,b1,hlt,hf,hp,idx]
   simp [-bind_some, hp] at this
   exact this
theorem c6Y (l:List (Str × Str)) (d:D) (fn:D) (pr:Str × Str→Bool) (h:Hp) (hd:RdF h l d) (hl:l.length≤9223372036854775807) (hf:∀ x,a3G R fn [.agg (fld x)] h=some (.bool (pr x),h)) :
   R b4A [d,fn] h=some (.int .i64 (idx pr 0 l),h):=by
 rw [c5q]
 simp only [c1C,bs,a8v hd,d0B]
 rw [show (0:Int)=(([]:List (Str × Str)).length:Int) from rfl,c6v l d fn pr h hd hl hf _ (fun v=>some (.int .i64 v,h)) (fun v r=>by simp) (fun r=>by simp) l [] rfl]
 rfl
theorem c6U (p:Str × Str) (h:Hp):R a9c [.agg (fld p)] h=some (.bool (decide (2000<p.2.length)),h):=by
 rw [c5m]
 simp [-bind_some, c1z,fld]
 omega
theorem c6T (l:List (Str × Str)) (d:D) (h:Hp) (hd:RdF h l d) (hl:l.length≤9223372036854775807):R b4x [d,.fn (.func a9c) [] []] h=some (.bool (l.any fun p=>decide (2000<p.2.length)),h):=by
 rw [c5l]
 simp only [c1y,bs,c6Y l d (.fn (.func a9c) [] []) (fun p=>decide (2000<p.2.length)) h hd hl (fun x=>by rw [a5y];exact c6U x h),a4g,a0h]
 rw [b0m]
theorem c6R (l:Lin) (h:Hp):R a9a [.agg (a1t l)] h=some (.bool (!(l.txt==[])),h):=by
 rw [c5h]
 simp [-bind_some, c1v,a1t]
theorem c6Q (l:List Lin) (d:D) (h:Hp) (hd:SlOf 3 a1t l d) (hl:l.length≤9223372036854775807):R b4v [d,.fn (.func a9a) [] []] h=some (.bool (l.any fun p => !(p.txt==[])),h):=by
 rw [c5g]
 simp only [c1u,bs,c6P l d (.fn (.func a9a) [] []) (fun p => !(p.txt==[])) h hd hl (fun x=>by rw [a5y];exact c6R x h),a4g,a0h]
 rw [b0m]
def evE (e:Ev):Int :=
 if (!plB e || !(decide (0≤e.a5)&&decide (e.a5≤253402300799999)))=true then 2
 else if e.a6<1∨Int.tmod 5040 e.a6≠0 then 21
 else if a2N e 2000≠0 then a2N e 2000
 else if 32<e.s7.length∨32<e.s8.length then 3
 else if (a2y e.fs).1≠0 then (a2y e.fs).1
 else if (a2y e.fs).2≠e.fs then 19
 else if ((a2y e.fs).2.any fun p=>decide (2000<p.2.length))=true then 3 else 0
theorem b6e (l:List (Str × Str)):(a2y l).2.length≤l.length:=by
 unfold a2y
 split
 ·simp [-bind_some]
 ·split
  ·split
   ·simp [-bind_some]
   ·simp [-bind_some, c0H]
  ·simp [-bind_some]
theorem b7M (l:List (Str × Str)):(a2y l).2.length≤32:=by
 by_cases h:32<l.length
 ·simp [-bind_some, a2y,h]
 ·have:=b6e l
  omega
theorem c3O (e:Ev) (h:Hp) (hsrt:∀ p:Hp,∃ d' h',R a9b [e.fd] p=some (.tup [d',.int .i64 (a2y e.fs).1],h')∧p.length≤h'.length∧(∀ q,q<p.length→h'[q]?=p[q]?)∧((a2y e.fs).1=0→RdF h' (a2y e.fs).2 d')):R a8Z [.agg (evr e)] h=some (.int .i64 (evE e),h):=by
 apply Wp.val
 have sc:∀ (g:Hp) (v:Int),h.length≤g.length→(∀ q,q<h.length→g[q]?=h[q]?)→scope h g (.int .i64 v)=some (.int .i64 v,h):=fun g v h1 h2=>a1y (by simp) (.int _ _) h1 h2
 have k1:=c0z e.a5 0 253402300799999 h
 rw [c5d]
 simp only [c1r,a2h,bs,d0B,evL,c3Q,a0h]
 have q5:a0a tab a0F 5 (.fptr (evr e))=some (.fptr [.int .i64 e.a5,.int .i64 e.a6,.str e.s7,.str e.s8,e.fd]):=id rfl
 have q6:a0a tab a0F 6 (.fptr (evr e))=some (.fptr [.int .i64 e.a6,.str e.s7,.str e.s8,e.fd]):=id rfl
 have q7:a0a tab a0F 7 (.fptr (evr e))=some (.fptr [.str e.s7,.str e.s8,e.fd]):=id rfl
 have q8:a0a tab a0F 8 (.fptr (evr e))=some (.fptr [.str e.s8,e.fd]):=id rfl
 have q9:a0a tab a0F 9 (.fptr (evr e))=some (.fptr [e.fd]):=id rfl
 unfold evE
 generalize hb1:plB e=b1
 generalize hb2:(decide (0≤e.a5)&&decide (e.a5≤253402300799999))=b2 at k1 ⊢
 have first:∀ {β:Type} (f:D→D × Hp→D→Option β) (Q:β→Prop),(∀ x p t,p.2=h→t = .bool (!b1 || !b2)→Wp (f x p t) Q)→Wp ((dUn .not (.bool b1)).bind fun t9=>(gd t9 false (some (.fptr [.int .i64 e.a5,.int .i64 e.a6,.str e.s7,.str e.s8,e.fd]))).bind fun t11=>(gd t9 false (a0d tab h ty3 t11)).bind fun t12=>(gdW t9 false h (R a7r [t12,.int .i64 0,.int .i64 253402300799999] h)).bind fun p13=>(gd t9 false (dUn .not p13.1)).bind fun t14=>(a0T t9 (.bool true) t14).bind fun t15=>f t9 p13 t15) Q:=fun f Q hk=>by
  cases b1
  ·simp only [a1D,d0M,bs,a0s,a0Y,reduceCtorEq,if_false,a0g,if_true]
   exact hk _ _ _ rfl rfl
  ·simp only [a1D,d0L,bs,a0s,a0Y,if_true,ld3,k1,a0g,d0C,if_false]
   exact hk _ _ _ rfl (by simp)
 simp only [q5,q6,q7,q8,q9]
 refine first _ _ fun x p t hp ht=>?_
 subst ht
 obtain ⟨px,p⟩:=p
 simp only at hp
 subst hp
 clear first
 simp only [a0c]
 by_cases c1:(!b1 || !b2)=true
 ·simp only [c1,if_true,sc _ _ (Nat.le_refl _) (fun _ _=>rfl)]
  exact .some rfl
 simp only [c1,if_false,d0C,ld3,ld9,b8v,bs,a0o,a8o,a0v,a3w,a0x]
 by_cases c2:e.a6<1
 ·simp only [c2,true_or,decide_true,if_true,a0s,reduceCtorEq,if_false,d0D,bs,a0g,a0c,sc _ _ (Nat.le_refl _) (fun _ _=>rfl)]
  exact .some rfl
 have c20:¬ e.a6=0:=by omega
 by_cases c3n:¬ Int.tmod 5040 e.a6=0
 ·have c3:=c3n
  simp only [c2,c20,c3,ne_eq,not_false_eq_true,or_true,decide_true,decide_false,if_true,a0s,if_false,d0C,bs,a0g,a0c,ld3,a3w,a0x,sc _ _ (Nat.le_refl _) (fun _ _=>rfl)]
  exact .some rfl
 have c3:Int.tmod 5040 e.a6=0:=Decidable.not_not.1 c3n
 simp only [c2,c20,c3,ne_eq,not_true,or_self,decide_false,if_true,a0s,if_false,d0C,bs,a0g,a0c,ld3,a3w,a0x,c3R]
 generalize hL:a2N e 2000=L
 by_cases c4n:¬ L=0
 ·have c4:=c4n
  simp only [c4,ne_eq,not_false_eq_true,decide_true,if_true,sc _ _ (Nat.le_refl _) (fun _ _=>rfl)]
  exact .some rfl
 have c4:L=0:=Decidable.not_not.1 c4n
 subst c4
 simp only [ne_eq,not_true,decide_false,d0C,if_false,if_true]
 by_cases c5:32<e.s7.length
 ·have c5':(32:Int)<(e.s7.length:Int):=by omega
  simp only [c5,c5',true_or,decide_true,if_true,a0s,reduceCtorEq,if_false,d0D,bs,a0g,a0c,sc _ _ (Nat.le_refl _) (fun _ _=>rfl)]
  exact .some rfl
 have c5':¬ (32:Int)<(e.s7.length:Int):=by omega
 by_cases c6:32<e.s8.length
 ·have c6':(32:Int)<(e.s8.length:Int):=by omega
  simp only [c5,c5',c6,c6',or_true,decide_true,decide_false,if_true,a0s,if_false,d0C,bs,ld9,a8o,a0v,a0g,sc _ _ (Nat.le_refl _) (fun _ _=>rfl)]
  exact .some rfl
 have c6':¬ (32:Int)<(e.s8.length:Int):=by omega
 obtain ⟨d',h',hs,hl',hb',hr'⟩:=hsrt p
 simp only [c5,c5',c6,c6',or_self,decide_false,if_true,a0s,if_false,d0C,bs,ld9,a8o,a0v,a0g,a0c,hs,a1G,d0E,d0F]
 have hsl:=b7M e.fs
 generalize hS:a2y e.fs=S at hs hr' hsl
 obtain ⟨v,s⟩:=S
 simp only at hr' hsl ⊢
 by_cases c7n:¬ v=0
 ·have c7:=c7n
  simp only [c7,ne_eq,not_false_eq_true,decide_true,if_true,sc _ _ hl' hb',a0c,a0x,bs]
  exact .some rfl
 have c7:v=0:=Decidable.not_not.1 c7n
 subst c7
 have hr:=hr' rfl
 have hfd:RdF h' e.fs e.fd := .inl e.hfd
 simp only [ne_eq,not_true,decide_false,d0C,if_false,a0c,a0x,c6S s e.fs d' e.fd h' hr hfd (by omega),bs,a1D,c6T s d' h' hr (by omega)]
 by_cases c8n:¬ s=e.fs
 ·have c8:=c8n
  simp only [c8,not_false_eq_true,decide_false,d0M,if_true,sc _ _ hl' hb',a0c,a0x,bs]
  exact .some rfl
 have c8:s=e.fs:=Decidable.not_not.1 c8n
 subst c8
 simp only [not_true,decide_true,d0L,if_false,d0C,sc _ _ hl' hb',a0c,a0x,bs]
 split
 ·exact .some rfl
 ·exact .some rfl
def itE (i:It):Int :=
 if i.r=[] then evE i.e
 else if 32<i.r.length then 3
 else if plB i.e=false then 2
 else if a2N i.e 60000=9∨a2N i.e 60000=4∨a2N i.e 60000=19 then a2N i.e 60000
 else if i.e.a5≠0∨i.e.a6≠0∨i.e.s7≠[]∨i.e.s8≠[]∨i.e.fs.length≠0∨(i.e.ls.any fun p => !(p.txt==[]))=true then 19 else 0
theorem c3N (i:It) (h:Hp) (hc:R a8Z [.agg (evr i.e)] h=some (.int .i64 (evE i.e),h)):R a4w [.agg (itr i)] h=some (.int .i64 (itE i),h):=by
 have hbx:a5x 10 (.agg (evr i.e))=some (.fptr (evr i.e)):=a2E 10 _ rfl
 have q4:a0a tab a0F 4 (.fptr (evr i.e))=some (.fptr [i.e.ld,.int .i64 i.e.a5,.int .i64 i.e.a6,.str i.e.s7,.str i.e.s8,i.e.fd]):=id rfl
 have q5:a0a tab a0F 5 (.fptr (evr i.e))=some (.fptr [.int .i64 i.e.a5,.int .i64 i.e.a6,.str i.e.s7,.str i.e.s8,i.e.fd]):=id rfl
 have q6:a0a tab a0F 6 (.fptr (evr i.e))=some (.fptr [.int .i64 i.e.a6,.str i.e.s7,.str i.e.s8,i.e.fd]):=id rfl
 have q7:a0a tab a0F 7 (.fptr (evr i.e))=some (.fptr [.str i.e.s7,.str i.e.s8,i.e.fd]):=id rfl
 have q8:a0a tab a0F 8 (.fptr (evr i.e))=some (.fptr [.str i.e.s8,i.e.fd]):=id rfl
 have q9:a0a tab a0F 9 (.fptr (evr i.e))=some (.fptr [i.e.fd]):=id rfl
 rw [c5c]
 simp only [c1q,a2h,bs,c7R,c7S,c7T,evL,hbx,a2F,a0h]
 unfold itE
 by_cases c0:i.r=[]
 ·simp only [c0,beq_self_eq_true,a0c,if_true,hc,bs]
 have c0':(i.r==[])=false:=by simpa using c0
 simp only [c0,c0',a0c,d0C,if_false,a8o,bs,a0v]
 by_cases c1:32<i.r.length
 ·have c1':(32:Int)<(i.r.length:Int):=by omega
  simp only [c1,c1',decide_true,if_true]
 have c1':¬ (32:Int)<(i.r.length:Int):=by omega
 simp only [c1,c1',decide_false,d0C,if_false,c3Q,bs,a1D]
 cases hb:plB i.e
 ·simp only [d0M,a0c,if_true]
 simp only [d0L,a0c,d0C,d0D,if_false,c3R,bs,a0L]
 generalize a2N i.e 60000=L
 by_cases c2:L=9
 ·subst c2
  simp [-bind_some]
 by_cases c3:L=4
 ·subst c3
  simp [-bind_some]
 by_cases c4:L=19
 ·subst c4
  simp [-bind_some]
 simp only [c2,c3,c4,or_self,decide_false,a0s,if_true,bs,a0g,a0c,d0C,if_false,q5,q6,q7,q8,q9,q4,ld3,ld9,b8v,b5f,a0x]
 have hfl:(i.e.fs.length:Int)=0↔i.e.fs.length=0:=by omega
 have h49:=c6Q i.e.ls i.e.ld h i.e.hld i.e.hll
 generalize (i.e.ls.any fun p => !(p.txt==[]))=bb at h49 ⊢
 by_cases d1n:¬ i.e.a5=0
 ·simp only [c2,c3,c4,a0L,d1n,ne_eq,not_true,not_false_eq_true,true_or,or_true,false_or,or_false,decide_true,decide_false,a0s,a0Y,a2Y,a4F,reduceCtorEq,if_true,if_false,d0C,d0D,bs,a0g,a0c,ld3,ld9,b8v,b5f,a0x,a3n,a3a i.e.hfd,hfl,h49,beq_self_eq_true,d0L,d0M,or_self]
 have d1:i.e.a5=0:=Decidable.not_not.1 d1n
 by_cases d2n:¬ i.e.a6=0
 ·simp only [c2,c3,c4,a0L,d1,d2n,ne_eq,not_true,not_false_eq_true,true_or,or_true,false_or,or_false,decide_true,decide_false,a0s,a0Y,a2Y,a4F,reduceCtorEq,if_true,if_false,d0C,d0D,bs,a0g,a0c,ld3,ld9,b8v,b5f,a0x,a3n,a3a i.e.hfd,hfl,h49,beq_self_eq_true,d0L,d0M,or_self]
 have d2:i.e.a6=0:=Decidable.not_not.1 d2n
 by_cases d3n:¬ i.e.s7=[]
 ·have d3b:(i.e.s7==[])=false:=by simpa using d3n
  simp only [c2,c3,c4,a0L,d1,d2,d3n,d3b,ne_eq,not_true,not_false_eq_true,true_or,or_true,false_or,or_false,decide_true,decide_false,a0s,a0Y,a2Y,a4F,reduceCtorEq,if_true,if_false,d0C,d0D,bs,a0g,a0c,ld3,ld9,b8v,b5f,a0x,a3n,a3a i.e.hfd,hfl,h49,beq_self_eq_true,d0L,d0M,or_self]
 have d3:i.e.s7=[]:=Decidable.not_not.1 d3n
 by_cases d4n:¬ i.e.s8=[]
 ·have d4b:(i.e.s8==[])=false:=by simpa using d4n
  simp only [c2,c3,c4,a0L,d1,d2,d3,d4n,d4b,ne_eq,not_true,not_false_eq_true,true_or,or_true,false_or,or_false,decide_true,decide_false,a0s,a0Y,a2Y,a4F,reduceCtorEq,if_true,if_false,d0C,d0D,bs,a0g,a0c,ld3,ld9,b8v,b5f,a0x,a3n,a3a i.e.hfd,hfl,h49,beq_self_eq_true,d0L,d0M,or_self]
 have d4:i.e.s8=[]:=Decidable.not_not.1 d4n
 by_cases d5n:¬ i.e.fs.length=0
 ·simp only [c2,c3,c4,a0L,d1,d2,d3,d4,d5n,ne_eq,not_true,not_false_eq_true,true_or,or_true,false_or,or_false,decide_true,decide_false,a0s,a0Y,a2Y,a4F,reduceCtorEq,if_true,if_false,d0C,d0D,bs,a0g,a0c,ld3,ld9,b8v,b5f,a0x,a3n,a3a i.e.hfd,hfl,h49,beq_self_eq_true,d0L,d0M,or_self]
 have d5:i.e.fs.length=0:=Decidable.not_not.1 d5n
 simp only [c2,c3,c4,a0L,d1,d2,d3,d4,d5,ne_eq,not_true,not_false_eq_true,true_or,or_true,false_or,or_false,decide_true,decide_false,a0s,a0Y,a2Y,a4F,reduceCtorEq,if_true,if_false,d0C,d0D,bs,a0g,a0c,ld3,ld9,b8v,b5f,a0x,a3n,a3a i.e.hfd,hfl,h49,beq_self_eq_true,d0L,d0M,or_self]
 cases bb <;> simp [-bind_some, h49]
theorem c3j {g:Hp} {q T z:Nat} {i:It} (hq:g[q]?=some (Ob.row T z [itr i])):a0d tab g a0P (.ptr q 0 0)=some (.agg (itr i)):=b5g hq rfl
theorem b1j:∀ (a b:Str),Lib.compareBytes a b = - Lib.compareBytes b a
 | [],[]=>rfl
 | [],_::_=>rfl
 | _::_,[]=>rfl
 | x::a,y::b=>by
  have ih:=b1j a b
  simp only [Lib.compareBytes]
  by_cases h1:x<y
  ·have h2:¬ y<x:=by
     have:=UInt8.lt_iff_toNat_lt.1 h1
     intro hh
     have:=UInt8.lt_iff_toNat_lt.1 hh
     omega
   simp [-bind_some, h1,h2]
  ·by_cases h2:y<x
   ·simp [-bind_some, h1,h2]
   ·simp [-bind_some, h1,h2,ih]
theorem b9n {l:List (Str × Str)} (h:Asc l):srt l=l:=by
 have hd:∀ j,dn cF 0 j l=l:=fun j=>by
  cases j with
  | zero=>rfl
  | succ j =>
   unfold dn
   split
   ·rename_i x y hx hy
    split
    ·rename_i hc
     exfalso
     have h1:=(h j y x hy hx).1
     have h2:=(a7U y.1 x.1).2 h1
     have h3:=b1j x.1 y.1
     have h4:=hc.2
     unfold cF at h4
     omega
    ·rfl
   ·rfl
 have hi:∀ n i,isr cF 0 i n l=l:=fun n=>by
  induction n with
  | zero=>intro i;rfl
  | succ n ih=>intro i;unfold isr;rw [hd];exact ih _
 exact hi _ _
theorem b3v:∀ {l:List (Str × Str)},Asc l→a8F l=false
 | [],_=>rfl
 | [_],_=>rfl
 | x::y::r,h=>by
  unfold a8F
  have h0:=(h 0 x y rfl rfl).2
  have h1:(y.1==x.1)=false:=by simp;exact fun hh=>h0 hh.symm
  rw [h1,Bool.false_or]
  exact b3v fun i p q hp hq=>h (i+1) p q hp hq
theorem b6z {l:List (Str × Str)} (h:Asc l) (hl:l.length≤32) (hn:∀ p∈l,a2t p.1=true):a2y l=(0,l):=by
 have h32:¬ 32<l.length:=by omega
 have ha:l.all (fun p=>a2t p.1)=true:=List.all_eq_true.2 hn
 simp only [a2y,h32,if_false,ha,if_true,b9n h,b3v h,d0C]
theorem b5q (to_ m:Int) (hm:200≤m) (ht:to_≤60000):∀ (ls:List Lin) (a:Int),0≤a→mch a ls to_→lnE to_ m a ls=0
 | [],a,_,_=>rfl
 | l::r,a,ha,h=>by
  obtain ⟨h1,h2,h3,h4,h5⟩:=h
  have hle:=a5l r _ _ h5
  have w1:IntKind.wrap .i64 (to_ - a)=to_ - a:=wrap_i64 (by omega) (by omega)
  have w2:IntKind.wrap .i64 (a+l.len)=a+l.len:=wrap_i64 (by omega) (by omega)
  unfold lnE
  rw [if_pos,if_neg (by omega),w2]
  ·exact b5q to_ m hm ht r _ (by omega) h5
  ·rw [w1]
   refine ⟨h1,by omega,by omega,fun hh=>?_⟩
   obtain ⟨hr,hlt⟩:=hh
   subst hr
   have h5:a+l.len=to_:=h5
   omega
theorem b5m {e:Ev} (m:Int) (hm:200≤m) (h0:0≤e.a2) (ht:e.a3≤60000) (h1:1≤e.ls.length) (h40:e.ls.length≤40) (hc:mch e.a2 e.ls e.a3):a2N e m=0:=by
 have g0:¬ e.ls.length=0:=by omega
 have g1:¬ 40<e.ls.length:=by omega
 simp only [a2N,g0,g1,if_false]
 exact b5q _ _ hm ht _ _ h0 hc
theorem c3w {l:List (Str × Str)} (h:MF l):Asc l:=by
 have hp:lt98_17.Pairwise fun a b=>Op.bytesLess a b=true∧a≠b:=by decide
 have:=hp.sublist h.1
 rw [List.pairwise_iff_getElem] at this
 intro i p q h1 h2
 obtain ⟨g1,h1⟩:=d0R.1 h1
 obtain ⟨g2,h2⟩:=d0R.1 h2
 have:=this i (i+1) (by simpa using g1) (by simpa using g2) (by omega)
 simpa [-bind_some, h1,h2] using this
theorem c0n {l:List (Str × Str)} (h:MF l):a2y l=(0,l):=by
 have hl:l.length≤4:=by
  have:=h.1.length_le
  simpa using this
 refine b6z (c3w h) (by omega) fun p hp=>?_
 have hm:p.1∈lt98_17:=h.1.subset (d0Y.2 ⟨p,hp,rfl⟩)
 exact (show ∀ s∈lt98_17,a2t s=true by decide) _ hm
theorem c3x {l:List (Str × Str)} (h:MF l):l.length≤4:=by
 have:=h.1.length_le
 simpa using this
structure EvK (e:Ev):Prop where
 h0:0≤e.a0
 h2:e.a0≤2
 f0:0≤e.a1
 f2:e.a1≤2
 a0:0≤e.a2
 b9:e.a3≤1000
 ch:mch e.a2 e.ls e.a3
 l1:1≤e.ls.length
 l3:e.ls.length≤3
 t0:0≤e.a5
 t9:e.a5≤255000
 wt:e.a6∈lt82_14
 tr:e.s7∈lt98_15
 st:e.s8∈lt98_16
 fs:MF e.fs
theorem EvM.k {e:Ev} (h:EvM e):EvK e:=⟨h.h0,h.h2,h.f0,h.f2,h.a0,by have:=a5l _ _ _ h.ch;have:=h.a9;have:=h.l3;omega,h.ch,h.l1,h.l3,h.t0,h.t9,h.wt,h.tr,h.st,h.fs⟩
theorem m10 (zs:List Int) (d:D) (n:Int) (h:Hp) (hd:a4R .u8 zs d) (hn:0≤n) (hn2:n≤400) (hz:∀ z∈zs,0≤z∧z<256) (hzl:zs.length≤9223372036854775807):∃ h',R c1g [d,.int .i64 n] h=some (.ptr h.length 0 0,h')∧CM h' h.length∧h'.length=h.length+1∧∀ q,q<h.length→h'[q]?=h[q]?:=by
 rw [e10]
 simp only [F10,bs,d0B,a9m hd,a0v]
 have fin:∀ d' zs',a4R .u8 zs' d'→zs'.length≤400→(∀ z∈zs',0≤z∧z<256)→∃ h',((a0D tab a9P [0] [d']).bind fun t13=>(b8Z a9P 2 h t13).bind fun p14=>some (a0i [p14.1],p14.2))=some (.ptr h.length 0 0,h')∧CM h' h.length∧h'.length=h.length+1∧∀ q,q<h.length→h'[q]?=h[q]?:=fun d' zs' hg hl hz'=>by
  rw [c2q d' (b4U hg)]
  simp only [bs]
  rw [a5t a9P 2 h [d',.int .i64 0] rfl (by omega)]
  exact ⟨_,rfl,⟨d',zs',0,a3R _ _ _ _,hg,hl,by omega,hz'⟩,a2u _ _ _ _,fun q hq=>a3S _ _ _ _ hq⟩
 by_cases hgt:n<(zs.length:Int)
 ·obtain ⟨d',hs,hg⟩:=b7n (T:=tab) (t:=a0G) (i:=ti22) (j:=ti5) (id rfl) (id rfl) (id rfl) (id rfl) hd (k2 := .i64) hn (Int.le_of_lt hgt)
  simp only [hgt,decide_true,a0c,if_true,hs,bs,a0n,a0f]
  exact fin d' _ hg (by simp;omega) fun z hz'=>hz z (List.mem_of_mem_take hz')
 ·simp only [hgt,decide_false,a0c,d0C,if_false,bs,a0n,a0f]
  exact fin d zs hd (by omega) hz
theorem a9w:∀ (ls:List Lin) (a b:Int),mch a ls b→mch a (ls.map a8J) b
 | [],a,b,h=>h
 | x::r,a,b,h=>⟨h.1,h.2.1,h.2.2.1,by simp [-bind_some, a8J],a9w r _ b h.2.2.2.2⟩
structure SkK (i:It):Prop where
 r:i.r∈lt98_35
 h0:0≤i.e.a0
 h2:i.e.a0≤2
 f0:0≤i.e.a1
 f2:i.e.a1≤2
 a0:0≤i.e.a2
 b9:i.e.a3≤1000
 ch:mch i.e.a2 i.e.ls i.e.a3
 l1:1≤i.e.ls.length
 l3:i.e.ls.length≤3
 tx:∀ l∈i.e.ls,l.txt=[]
 t0:i.e.a5=0
 w0:i.e.a6=0
 tr:i.e.s7=[]
 st:i.e.s8=[]
 fs:i.e.fs=[]
def ItK (i:It):Prop:=(i.r=[]∧EvK i.e)∨SkK i
theorem ItK.l3 {i:It} (h:ItK i):i.e.ls.length≤3:=by
 rcases h with ⟨_,h⟩ | h
 ·exact h.l3
 ·exact h.l3
theorem ItK.fs {i:It} (h:ItK i):i.e.fs.length≤4:=by
 rcases h with ⟨_,h⟩ | h
 ·exact c3x h.fs
 ·rw [h.fs];simp [-bind_some]
theorem ItK.ch {i:It} (h:ItK i):mch i.e.a2 i.e.ls i.e.a3∧0≤i.e.a2∧i.e.a3≤1000∧1≤i.e.ls.length:=by
 rcases h with ⟨_,h⟩ | h
 ·exact ⟨h.ch,h.a0,h.b9,h.l1⟩
 ·exact ⟨h.ch,h.a0,h.b9,h.l1⟩
theorem c6E {h:Hp} {o:Nat} (hc:CM h o):∃ i h',R b1A [.ptr o 0 0] h=some (.agg (itr i),h')∧CM h' o∧Same o h h'∧ItK i:=by
 suffices Wp (R b1A [.ptr o 0 0] h) (fun p=>∃ i,p.1 = .agg (itr i)∧CM p.2 o∧Same o h p.2∧ItK i) by
  obtain ⟨⟨x,h'⟩,h1,i,rfl,h2⟩:=this
  exact ⟨i,h',h1,h2⟩
 have ho:=hc.lt
 rw [c5b]
 simp only [c1p,bs,d0B]
 generalize hg0:a0J h a0P 11 [[.str [],.int .i64 0,.int .i64 0,.int .i64 0,.int .i64 0,.nils,.int .i64 0,.int .i64 0,.str [],.str [],.nils]]=g0
 have p0:g0[h.length]?=some (Ob.row a0P 11 [[.str [],.int .i64 0,.int .i64 0,.int .i64 0,.int .i64 0,.nils,.int .i64 0,.int .i64 0,.str [],.str [],.nils]]):=by rw [← hg0];exact a3R _ _ _ _
 have S0:Sm h o g0:=(Sm.refl hc).app (by rw [← hg0,a2u];omega) fun q hq=>by rw [← hg0];exact a3S _ _ _ _ hq
 have hl0:g0.length=h.length+1:=by rw [← hg0];exact a2u _ _ _ _
 clear hg0
 obtain ⟨e,g1,e1,c1,s1,he⟩:=m12 S0.cd
 refine Wp.step e1 ?_;clear e1
 have hbx:a5x 10 (.agg (evr e))=some (.fptr (evr e)):=a2E 10 _ rfl
 simp only [bs,hbx]
 obtain ⟨v,g2,e2,c2,s2,v0,v1⟩:=m39 c1 4 (by omega) (by omega)
 refine Wp.step e2 ?_;clear e2
 have S2:=(S0.next c1 s1).next c2 s2
 have hl2:g2.length=h.length+1:=by have:=s1.1;have:=s2.1;omega
 replace p0:=(s2.2 h.length (by omega)).trans ((s1.2 h.length (by omega)).trans p0)
 clear S0 s1 s2 c1 hl0
 have hb2:a0D tab a0P [1] [.agg (evr e)]=some (.agg (itr ⟨[],e⟩)):=id rfl
 have fin:∀ (g:Hp) (j:It),Sm h o g→g[h.length]?=some (Ob.row a0P 11 [itr j])→ItK j→Wp ((a0d tab g a0P (.ptr h.length 0 0)).bind fun d=>scope h g (a0i [d])) (fun p:D × Hp=>∃ i,p.1 = .agg (itr i)∧CM p.2 o∧Same o h p.2∧ItK i):=fun g j S q hj=>by
  simp only [c3j q,bs,a0h]
  obtain ⟨h',hsc,hcd,hsm2⟩:=S.scope (d := .agg (itr j)) (d' := .agg (itr j)) (by
   rw [b0k,a2J fun d hd=>a6J h.length g 2 j d hd]) (a9n _ _)
  rw [hsc]
  exact .some ⟨j,rfl,hcd,hsm2,hj⟩
 simp only [a0o,bs]
 refine Wp.dif ?_ ?_
 ·intro _
  simp only [evL,bs,hb2]
  refine b3o p0 (by rfl) (by rfl) (by simp) (by rfl) fun g3 p3 sg=>?_
  replace p3:g3[h.length]?=some (Ob.row a0P 11 [itr ⟨[],e⟩]):=p3
  exact fin g3 _ (S2.app (Nat.le_of_eq sg.1.symm) fun q hq=>sg.2 q (by omega)) p3 (.inl ⟨rfl,he.k⟩)
 ·intro _
  have q0:a0a tab a0F 0 (.fptr (evr e))=some (.fptr (evr e)):=id rfl
  have q1:a0a tab a0F 1 (.fptr (evr e))=some (.fptr [.int .i64 e.a1,.int .i64 e.a2,.int .i64 e.a3,e.ld,.int .i64 e.a5,.int .i64 e.a6,.str e.s7,.str e.s8,e.fd]):=id rfl
  have q2:a0a tab a0F 2 (.fptr (evr e))=some (.fptr [.int .i64 e.a2,.int .i64 e.a3,e.ld,.int .i64 e.a5,.int .i64 e.a6,.str e.s7,.str e.s8,e.fd]):=id rfl
  have q3:a0a tab a0F 3 (.fptr (evr e))=some (.fptr [.int .i64 e.a3,e.ld,.int .i64 e.a5,.int .i64 e.a6,.str e.s7,.str e.s8,e.fd]):=id rfl
  have q4:a0a tab a0F 4 (.fptr (evr e))=some (.fptr [e.ld,.int .i64 e.a5,.int .i64 e.a6,.str e.s7,.str e.s8,e.fd]):=id rfl
  have l0:∀ g,a0d tab g ty3 (.fptr (evr e))=some (.int .i64 e.a0):=fun g=>id rfl
  simp only [q0,q1,q2,q3,q4,l0,ld3,bs,a8I]
  generalize hg3:a0J g2 a0F 10 [[.int .i64 0,.int .i64 0,.int .i64 0,.int .i64 0,.nils,.int .i64 0,.int .i64 0,.str [],.str [],.nils]]=g3
  have p3:g3[g2.length]?=some (Ob.row a0F 10 [[.int .i64 0,.int .i64 0,.int .i64 0,.int .i64 0,.nils,.int .i64 0,.int .i64 0,.str [],.str [],.nils]]):=by rw [← hg3];exact a3R _ _ _ _
  have hb3:∀ q,q<h.length+1→g3[q]?=g2[q]?:=fun q hq=>by rw [← hg3];exact a3S _ _ _ _ (by omega)
  have hl3:g3.length=h.length+2:=by rw [← hg3,a2u];omega
  clear hg3
  rw [hl2] at p3 ⊢
  have S3:=S2.app (by omega) fun q hq=>hb3 q (by omega)
  replace p0:=(hb3 h.length (by omega)).trans p0
  refine b6r p3 (by rfl) (by rfl) (by simp) (by rfl) fun g4 p4 sg=>?_
  replace p4:g4[h.length+1]?=some (Ob.row a0F 10 [[.int .i64 e.a0,.int .i64 e.a1,.int .i64 e.a2,.int .i64 e.a3,.nils,.int .i64 0,.int .i64 0,.str [],.str [],.nils]]):=p4
  have S4:=S3.app (Nat.le_of_eq sg.1.symm) fun q hq=>sg.2 q (by omega)
  replace p0:=(sg.2 h.length (by omega)).trans p0
  have hl4:g4.length=h.length+2:=sg.1.trans hl3
  clear p3 hb3 S3 S2 sg hl3 c2 hl2
  simp only [bs,b5f,a4x e.hld]
  refine Wp.loop (fun k ds g=>∃ a b x,∃ n:Nat,ds=[a,.int .i64 n,b]∧k+n=e.ls.length∧Sm h o g∧h.length+2≤g.length∧g[h.length]?=some (Ob.row a0P 11 [[.str [],.int .i64 0,.int .i64 0,.int .i64 0,.int .i64 0,.nils,.int .i64 0,.int .i64 0,.str [],.str [],.nils]])
    ∧ g[h.length+1]?=some (Ob.row a0F 10 [[.int .i64 e.a0,.int .i64 e.a1,.int .i64 e.a2,.int .i64 e.a3,x,.int .i64 0,.int .i64 0,.str [],.str [],.nils]])∧Own g (h.length+2) a1z 3 (((e.ls.take n).map a8J).map a1t) x)
   (fun r=>r.1 = .ext 0∧∃ a b c x,r.2.1=[a,b,c]∧Sm h o r.2.2∧h.length+2≤r.2.2.length∧r.2.2[h.length]?=some (Ob.row a0P 11 [[.str [],.int .i64 0,.int .i64 0,.int .i64 0,.int .i64 0,.nils,.int .i64 0,.int .i64 0,.str [],.str [],.nils]])
    ∧ r.2.2[h.length+1]?=some (Ob.row a0F 10 [[.int .i64 e.a0,.int .i64 e.a1,.int .i64 e.a2,.int .i64 e.a3,x,.int .i64 0,.int .i64 0,.str [],.str [],.nils]])∧Own r.2.2 (h.length+2) a1z 3 ((e.ls.map a8J).map a1t) x) e.ls.length
   ⟨_,_,.nils,0,rfl,rfl,S4,by omega,p0,p4,Own.nils _ _ _ _⟩ ?_ ?_
  ·clear p0 p4 S4 hl4
   rintro k ds g ⟨a,b,x,n,rfl,hk,S,hgl,p0,p1,ow⟩
   have hel:=he.l3
   simp only [b0L,a0f,a0j,bs,d0B,a0o]
   refine Wp.dif ?_ ?_
   ·intro h0
    have h0:n<e.ls.length:=dl_ h0
    have hg:e.ls[n]?=some e.ls[n]:=d0Q h0
    have hw:=wi_ n (by omega)
    have hts:(e.ls.take (n+1)).map a8J=(e.ls.take n).map a8J++[a8J e.ls[n]]:=by
     rw [d0N,hg,d0I];rfl
    generalize e.ls[n]=l at hg hts
    have r1:g.row (h.length+1) 0=some [.int .i64 e.a0,.int .i64 e.a1,.int .i64 e.a2,.int .i64 e.a3,x,.int .i64 0,.int .i64 0,.str [],.str [],.nils]:=a0I p1
    simp only [a3x,b5h,r1,Nat.zero_add,List.drop_succ_cons,List.drop_zero,List.head?_cons,q4,b5f,bs,a9r e.hld,Int.natCast_nonneg,if_true,d0K,hg,Option.map_some]
    simp only [a1t,b8o,b8p,ld3,bs,b1d,b8g]
    refine b7T hgl ow (a1e _ _ _ _) (by simp;omega) fun x' g' ow' len bel _ _=>?_
    have oc:=a0E (a2w ow')
    simp only [bs]
    refine b7U ((bel (h.length+1) (by omega)).trans p1) (by rfl) (by rw [oc.1];rfl) (by simp) oc.2 fun g2 p2 t2=>?_
    rw [oc.1] at p2
    replace p2:g2[h.length+1]?=some (Ob.row a0F 10 [[.int .i64 e.a0,.int .i64 e.a1,.int .i64 e.a2,.int .i64 e.a3,x',.int .i64 0,.int .i64 0,.str [],.str [],.nils]]):=p2
    simp only [bs,a0r,hw]
    refine .some (.inl ⟨rfl,k - 1,by omega,_,_,x',n+1,rfl,by omega,(S.app len fun q hq=>bel q (by omega)).app (Nat.le_of_eq t2.1.symm) fun q hq=>t2.2 q (by omega),by show h.length+2≤g2.length;have:=t2.1;omega,(t2.2 h.length (by omega)).trans ((bel h.length (by omega)).trans p0),p2,?_⟩)
    rw [hts,d0I]
    exact ow'.keep fun q hq _=>t2.2 q (by omega)
   ·intro h0
    have h0:e.ls.length≤n:=by
     have:¬ (n:Int)<e.ls.length:=by simpa using h0
     omega
    rw [List.take_of_length_le h0] at ow
    exact .some (.inr ⟨by simp,rfl,_,_,_,x,rfl,S,hgl,p0,p1,ow⟩)
  ·clear p0 p4 S4 hl4 g4
   rintro ⟨ex,ds,g⟩ ⟨rfl,a,b,c,x,rfl,S,hgl,p0,p1,ow⟩
   simp only at S hgl p0 p1 ow
   simp only [a0p,a0n,bs,b3h]
   refine a3c S.cd lt98_35 8 (by decide) (by decide) (by decide) fun u g2 c2 s2 hu _=>?_
   have S2:=S.next c2 s2
   have p12:=(s2.2 (h.length+1) (by omega)).trans p1
   replace p0:=(s2.2 h.length (by omega)).trans p0
   have ow2:=ow.same s2 (by omega)
   simp only [bs,c4x p12 rfl,c4x p1 rfl,b6E,a2j]
   refine b3o p0 (by rfl) (by rfl) (by simp) (by rfl) fun g3 p3 sg=>?_
   replace p3:g3[h.length]?=some (Ob.row a0P 11 [[.str u,.int .i64 e.a0,.int .i64 e.a1,.int .i64 e.a2,.int .i64 e.a3,x,.int .i64 0,.int .i64 0,.str [],.str [],.nils]]):=p3
   have S3:=S2.app (Nat.le_of_eq sg.1.symm) fun q hq=>sg.2 q (by omega)
   have ow3:=ow2.keep (h':=g3) fun q hq _=>sg.2 q (by omega)
   have hsl:=a3h (n0:=h.length) (n:=2) ow3 (by omega) (fun a _=>a5j _ g3 _ a)
   have hel:=he.l3
   simp only [b5g p3 rfl,bs,a0h]
   generalize hj:(⟨u,⟨e.a0,e.a1,e.a2,e.a3,e.ls.map a8J,frz h.length g3 3 x,0,0,[],[],[],.nils,SlOf.nils _ _,by simp,hsl,by simp;omega⟩⟩:It)=j
   have hK:SkK j:=by
    subst hj
    exact ⟨hu,he.h0,he.h2,he.f0,he.f2,he.a0,he.k.b9,a9w _ _ _ he.ch,by simpa using he.l1,by simpa using hel,fun l hl=>by
     simp at hl
     obtain ⟨l0,_,rfl⟩:=hl
     rfl,rfl,rfl,rfl,rfl,rfl⟩
   obtain ⟨h',hsc,hcd,hsm2⟩:=S3.scope (d := .agg [.str u,.int .i64 e.a0,.int .i64 e.a1,.int .i64 e.a2,.int .i64 e.a3,x,.int .i64 0,.int .i64 0,.str [],.str [],.nils]) (d' := .agg (itr j)) (by subst hj;simp [-bind_some, itr,evr]) (a9n _ _)
   rw [hsc]
   exact .some ⟨j,rfl,hcd,hsm2,.inr hK⟩
structure Tal where
 h:Int
 r:Str
 n:Int
theorem b8e:∀ a:Str,Op.bytesLess a a=false
 | []=>rfl
 | x::a=>by simp [-bind_some, Op.bytesLess,b8e a]
theorem b9o:∀ {a b c:Str},Op.bytesLess a b=true→Op.bytesLess b c=true→Op.bytesLess a c=true
 | _,[],_,h,_=>by cases ‹Str› <;> simp [-bind_some, Op.bytesLess] at h
 | _,_::_,[],_,h=>by simp [-bind_some, Op.bytesLess] at h
 | [],_::_,_::_,_,_=>rfl
 | x::a,y::b,z::c,h,k=>by
  simp only [Op.bytesLess,Bool.or_eq_true,decide_eq_true_eq,Bool.and_eq_true,beq_iff_eq] at h k ⊢
  rcases h with h | ⟨rfl,h⟩
  ·rcases k with k | ⟨rfl,k⟩
   ·exact .inl (UInt8.lt_trans h k)
   ·exact .inl h
  ·rcases k with k | ⟨rfl,k⟩
   ·exact .inl k
   ·exact .inr ⟨rfl,b9o h k⟩
theorem b3w:∀ {a b:Str},Op.bytesLess a b=false→a≠b→Op.bytesLess b a=true
 | [],[],_,h=>absurd rfl h
 | [],_::_,h,_=>by simp [-bind_some, Op.bytesLess] at h
 | _::_,[],_,_=>rfl
 | x::a,y::b,h,k=>by
  simp only [Op.bytesLess,Bool.or_eq_false_iff,decide_eq_false_iff_not,Bool.and_eq_false_iff,beq_eq_false_iff_ne] at h
  simp only [Op.bytesLess,Bool.or_eq_true,decide_eq_true_eq,Bool.and_eq_true,beq_iff_eq]
  by_cases hxy:x=y
  ·subst hxy
   refine .inr ⟨rfl,b3w (h.2.resolve_left fun hh=>hh rfl) fun hh=>k (by rw [hh])⟩
  ·left
   have h1:=mt UInt8.lt_iff_toNat_lt.2 h.1
   have h2:x.toNat≠y.toNat:=fun hh=>hxy (UInt8.toNat_inj.1 hh)
   exact UInt8.lt_iff_toNat_lt.2 (by omega)
def gr:List Ev→List Ev→Bool
 | [],_=>true
 | _::_,[]=>false
 | x::a,y::b=>if a5n x y=true then gr a b else gr (x::a) b
def sm (f:Tal→Int):List Tal→Int
 | []=>0
 | t::r=>f t+sm f r
theorem b4Z (i:It):(D.agg (itr i)).okv=true:=by
 have h1:=a2k i.e.hld
 have h2:=a2k i.e.hfd
 have h3:(D.agg (itr i)) = .agg [.str i.r,.int .i64 i.e.a0,.int .i64 i.e.a1,.int .i64 i.e.a2,.int .i64 i.e.a3,i.e.ld,.int .i64 i.e.a5,.int .i64 i.e.a6,.str i.e.s7,.str i.e.s8,i.e.fd]:=rfl
 rw [h3]
 generalize i.e.ld=a at h1
 generalize i.e.fd=b at h2
 cases a <;> first | (cases b <;> first | rfl | (simp [-bind_some, D.one] at h2)) | (simp [-bind_some, D.one] at h1)
structure SOrd {α:Type} (c:α→α→Int) (S Pre:α→α→Prop):Prop where
 tr:∀ x y z,S x y→S y z→S x z
 lt:∀ x y,Pre x y→c y x<0→S y x
 ge:∀ x y,Pre x y→¬ c y x<0→S x y
theorem b8G {α:Type} {c:α→α→Int} {S Pre:α→α→Prop} (o:SOrd c S Pre) {A1 A2:List α} {x:α} (hA:(A1++A2).Pairwise S) (hp:∀ y∈A1++A2,Pre y x)
  (h2:A2=[]∨∃ y r,A2=y::r∧c x y<0) (h1:A1=[]∨∃ y r,A1=r++[y]∧¬ c x y<0):(A1++x::A2).Pairwise S:=by
 rw [List.pairwise_append] at hA ⊢
 obtain ⟨p1,p2,p3⟩:=hA
 have q1:∀ a∈A1,S a x:=by
  rcases h1 with rfl | ⟨y,r,rfl,hy⟩
  ·intro a ha;cases ha
  ·intro a ha
   have hyx:S y x:=o.ge y x (hp y (by simp)) hy
   rw [List.pairwise_append] at p1
   rcases d0X.1 ha with ha | ha
   ·exact o.tr _ _ _ (p1.2.2 a ha y (by simp)) hyx
   ·simp at ha;subst ha;exact hyx
 have q2:∀ b∈A2,S x b:=by
  rcases h2 with rfl | ⟨y,r,rfl,hy⟩
  ·intro a ha;cases ha
  ·intro b hb
   have hxy:S x y:=o.lt y x (hp y (by simp)) hy
   rw [List.pairwise_cons] at p2
   rcases d0W.1 hb with rfl | hb
   ·exact hxy
   ·exact o.tr _ _ _ hxy (p2.1 b hb)
 refine ⟨p1,List.pairwise_cons.2 ⟨q2,p2⟩,fun a ha b hb=>?_⟩
 rcases d0W.1 hb with rfl | hb
 ·exact q1 a ha
 ·exact p3 a ha b hb
theorem b3V {α:Type} (c:α→α→Int) (P:List α) (x:α):∀ (R:List α) (Q:List α),∃ A1 A2,R.reverse=A1++A2∧dn c P.length (P.length+R.length) (P++R.reverse++x::Q)=P++A1++x::A2++Q ∧
  (A2=[]∨∃ y r,A2=y::r∧c x y<0)∧(A1=[]∨∃ y r,A1=r++[y]∧¬ c x y<0)
 | [], Q=>⟨[],[],rfl,by
   cases P with
   | nil=>simp [-bind_some, dn]
   | cons p P =>
    simp only [d0S,d0T,Nat.add_zero,List.reverse_nil,List.append_nil]
    unfold dn
    split
    ·rw [if_neg (by omega)];simp [-bind_some]
    ·simp [-bind_some],.inl rfl,.inl rfl⟩
 | y::R,Q=>by
  have g1:(P++(y::R).reverse++x::Q)[P.length+R.length+1]?=some x:=by
   rw [List.getElem?_append_right (by simp;omega)]
   simp [-bind_some]
   try (have:P.length+R.length+1 - (P.length+(R.length+1))=0:=by omega
        rw [this];rfl)
  have g0:(P++(y::R).reverse++x::Q)[P.length+R.length]?=some y:=by
   rw [d1a (by simp),List.getElem?_append_right (by omega)]
   simp [-bind_some]
  rw [d0S,← Nat.add_assoc]
  unfold dn
  rw [g1,g0]
  simp only
  by_cases hc:c x y<0
  ·rw [if_pos ⟨by omega,hc⟩]
   have hs:((P++(y::R).reverse++x::Q).set (P.length+R.length+1) y).set (P.length+R.length) x=P++R.reverse++x::(y::Q):=by
    have e1:P++(y::R).reverse++x::Q=(P++R.reverse)++y::x::Q:=by simp
    rw [e1]
    have l1:(P++R.reverse).length=P.length+R.length:=by simp
    rw [List.set_append_right _ _ (by omega),List.set_append_right _ _ (by omega),l1]
    have:P.length+R.length+1 - (P.length+R.length)=1:=by omega
    rw [this,Nat.sub_self]
    rfl
   rw [hs]
   obtain ⟨A1,A2,h1,h2,h3,h4⟩:=b3V c P x R (y::Q)
   refine ⟨A1,A2++[y],by simp [-bind_some, h1],by rw [h2];simp [-bind_some],?_,h4⟩
   rcases h3 with rfl | ⟨u,r,rfl,hu⟩
   ·exact .inr ⟨y,[],rfl,hc⟩
   ·exact .inr ⟨u,r++[y],rfl,hu⟩
  ·rw [if_neg (fun hh=>hc hh.2)]
   exact ⟨(y::R).reverse,[],by simp,by simp,.inl rfl,.inr ⟨y,R.reverse,by simp,hc⟩⟩
theorem c2H {α:Type} (c:α→α→Int) (P A Q:List α) (x:α):∃ A1 A2,A=A1++A2∧dn c P.length (P.length+A.length) (P++A++x::Q)=P++A1++x::A2++Q ∧
  (A2=[]∨∃ y r,A2=y::r∧c x y<0)∧(A1=[]∨∃ y r,A1=r++[y]∧¬ c x y<0):=by
 have:=b3V c P x A.reverse Q
 simpa using this
theorem b4X {α:Type} {c:α→α→Int} {S Pre:α→α→Prop} (o:SOrd c S Pre) (P Q:List α):∀ (B A:List α),A.Pairwise S→(∀ x∈A,∀ y∈B,Pre x y)→B.Pairwise Pre →
  ∃ C,isr c P.length (P.length+A.length) B.length (P++A++B++Q)=P++C++Q∧C.Perm (A++B)∧C.Pairwise S
 | [],A,hA,_,_=>⟨A,by simp [-bind_some, isr],by simp,hA⟩
 | x::B,A,hA,hp,hB=>by
  rw [List.pairwise_cons] at hB
  obtain ⟨A1,A2,rfl,h2,h3,h4⟩:=c2H c P A (B++Q) x
  have hA':(A1++x::A2).Pairwise S:=b8G o hA (fun y hy=>hp y hy x (by simp)) h3 h4
  have e1:P++(A1++A2)++x::B++Q=P++(A1++A2)++x::(B++Q):=by simp
  have hpm:(A1++x::A2).Perm (x::(A1++A2)):=List.perm_middle
  obtain ⟨C,q1,q2,q3⟩:=b4X o P Q B (A1++x::A2) hA' (fun u hu v hv=>by
   rcases d0W.1 (hpm.mem_iff.1 hu) with rfl | hu
   ·exact hB.1 v hv
   ·exact hp u hu v (by simp [-bind_some, hv])) hB.2
  refine ⟨C,?_,q2.trans ?_,q3⟩
  ·rw [d0S]
   unfold isr
   rw [e1,h2,← q1]
   have e2:P.length+(A1++A2).length+1=P.length+(A1++x::A2).length:=by simp;omega
   have e3:P++A1++x::A2++(B++Q)=P++(A1++x::A2)++B++Q:=by simp
   rw [e2,e3]
  ·have:((A1++x::A2)++B).Perm ((x::(A1++A2))++B):=hpm.append_right B
   refine this.trans ?_
   simpa using (List.perm_middle (l₁:=A1++A2) (l₂:=B) (a:=x)).symm
inductive Blk {α:Type} (S Pre:α→α→Prop) (k:Nat):List α→Prop
 | last (A:List α) (hl:A.length≤k) (hs:A.Pairwise S):Blk S Pre k A
 | cons (A Y:List α) (hl:A.length=k) (hs:A.Pairwise S) (hp:∀ x∈A,∀ y∈Y,Pre x y) (hY:Blk S Pre k Y):Blk S Pre k (A++Y)
theorem Blk.all {α:Type} {S Pre:α→α→Prop} {k:Nat} {l:List α} (h:Blk S Pre k l) (hl:l.length≤k):l.Pairwise S:=by
 cases h with
 | last _ _ hs=>exact hs
 | cons A Y hA hs hp hY =>
  have:Y=[]:=by
   simp at hl
   exact List.length_eq_zero_iff.1 (by omega)
  subst this
  simpa using hs
theorem Blk.fst {α:Type} {S Pre:α→α→Prop} {k:Nat} {l:List α} (h:Blk S Pre k l) (hl:k≤l.length):∃ A Y,l=A++Y∧A.length=k∧A.Pairwise S∧(∀ x∈A,∀ y∈Y,Pre x y)∧Blk S Pre k Y:=by
 cases h with
 | last _ h1 hs=>exact ⟨l,[],by simp,by omega,hs,by simp,.last [] (by simp) List.Pairwise.nil⟩
 | cons A Y hA hs hp hY=>exact ⟨A,Y,rfl,hA,hs,hp,hY⟩
def CtxB {α:Type} (S Pre:α→α→Prop) (k:Nat) (X Y:List α):Prop:=∀ Z:List α,Z.Perm Y→Blk S Pre k Z→Blk S Pre k (X++Z)
theorem CtxB.nil {α:Type} {S Pre:α→α→Prop} {k:Nat} {Y:List α}:CtxB S Pre k [] Y:=fun Z _ h=>h
theorem CtxB.step {α:Type} {S Pre:α→α→Prop} {k:Nat} {X A Y C:List α} (h:CtxB S Pre k X (A++Y)) (hC:C.Perm A) (hl:C.length=k) (hs:C.Pairwise S) (hp:∀ x∈A,∀ y∈Y,Pre x y):CtxB S Pre k (X++C) Y:=fun Z hZ hb=>by
 rw [List.append_assoc]
 exact h (C++Z) (hC.append hZ) (.cons C Z hl hs (fun x hx y hy=>hp x (hC.mem_iff.1 hx) y (hZ.mem_iff.1 hy)) hb)
theorem CtxB.done {α:Type} {S Pre:α→α→Prop} {k:Nat} {X Y Z:List α} (h:CtxB S Pre k X Y) (hZ:Z.Perm Y) (hl:Z.length≤k) (hs:Z.Pairwise S):Blk S Pre k (X++Z):=h Z hZ (.last Z hl hs)
theorem c2Y {α:Type} {c:α→α→Int} {S Pre:α→α→Prop} (o:SOrd c S Pre) {A1 A2 B1 B2 C1 C2:List α} (hA:(A1++A2).Pairwise S) (hB:(B1++B2).Pairwise S) (hp:∀ x∈A1++A2,∀ y∈B1++B2,Pre x y)
  (h1:A1=[]∨B2=[]∨∃ x y r s,A1=r++[x]∧B2=y::s∧¬ c y x<0) (h2:A2=[]∨B1=[]∨∃ x y r s,B1=r++[y]∧A2=x::s∧c y x<0)
  (p1:C1.Perm (A1++B1)) (s1:C1.Pairwise S) (p2:C2.Perm (A2++B2)) (s2:C2.Pairwise S):(C1++C2).Perm ((A1++A2)++(B1++B2))∧(C1++C2).Pairwise S:=by
 rw [List.pairwise_append] at hA hB
 have x1:∀ x∈A1,∀ y∈B2,S x y:=by
  intro x hx y hy
  rcases h1 with rfl | rfl | ⟨u,v,r,s,rfl,rfl,huv⟩
  ·cases hx
  ·cases hy
  ·have huv:S u v:=o.ge u v (hp u (by simp) v (by simp)) huv
   have q1:x=u∨S x u:=by
    have:=hA.1
    rw [List.pairwise_append] at this
    rcases d0X.1 hx with hx | hx
    ·exact .inr (this.2.2 x hx u (by simp))
    ·simp at hx;exact .inl hx
   have q2:y=v∨S v y:=by
    have:=hB.2.1
    rw [List.pairwise_cons] at this
    rcases d0W.1 hy with rfl | hy
    ·exact .inl rfl
    ·exact .inr (this.1 y hy)
   rcases q1 with rfl | q1 <;> rcases q2 with rfl | q2
   ·exact huv
   ·exact o.tr _ _ _ huv q2
   ·exact o.tr _ _ _ q1 huv
   ·exact o.tr _ _ _ (o.tr _ _ _ q1 huv) q2
 have x2:∀ y∈B1,∀ x∈A2,S y x:=by
  intro y hy x hx
  rcases h2 with rfl | rfl | ⟨u,v,r,s,rfl,rfl,huv⟩
  ·cases hx
  ·cases hy
  ·have huv:S v u:=o.lt u v (hp u (by simp) v (by simp)) huv
   have q1:y=v∨S y v:=by
    have:=hB.1
    rw [List.pairwise_append] at this
    rcases d0X.1 hy with hy | hy
    ·exact .inr (this.2.2 y hy v (by simp))
    ·simp at hy;exact .inl hy
   have q2:x=u∨S u x:=by
    have:=hA.2.1
    rw [List.pairwise_cons] at this
    rcases d0W.1 hx with rfl | hx
    ·exact .inl rfl
    ·exact .inr (this.1 x hx)
   rcases q1 with rfl | q1 <;> rcases q2 with rfl | q2
   ·exact huv
   ·exact o.tr _ _ _ huv q2
   ·exact o.tr _ _ _ q1 huv
   ·exact o.tr _ _ _ (o.tr _ _ _ q1 huv) q2
 refine ⟨?_,List.pairwise_append.2 ⟨s1,s2,fun a ha b hb=>?_⟩⟩
 ·refine (p1.append p2).trans ?_
  have:(B1++(A2++B2)).Perm (A2++(B1++B2)):=by
   rw [← List.append_assoc,← List.append_assoc]
   exact List.perm_append_comm.append_right B2
  simpa using this.append_left A1
 ·rcases d0X.1 (p1.mem_iff.1 ha) with ha | ha <;> rcases d0X.1 (p2.mem_iff.1 hb) with hb | hb
  ·exact hA.2.2 a ha b hb
  ·exact x1 a ha b hb
  ·exact x2 a ha b hb
  ·exact hB.2.2 a ha b hb
def U8 (z:Int):Prop:=0≤z∧z<256
theorem U8.u32 {z:Int} (h:U8 z):U32 z:=⟨h.1,by have:=h.2;omega⟩
def num (l:List Int):Int:=l.foldl (fun v b=>v*256+b) 0
theorem a6p (n:Int):IntKind.wrap .u8 n=n % 256:=by
 unfold IntKind.wrap
 simp [-bind_some, IntKind.signed,IntKind.bits,IntKind.min,IntKind.max]
def rdN:Nat→List Int→List (List Int) × Nat
 | 0,_=>([],0)
 | k+1,r=>if r.length<8∨(num (r.take 4)).toNat<1∨8388608<(num (r.take 4)).toNat∨r.length - 8<(num (r.take 4)).toNat∨num ((r.drop 4).take 4)≠crc (r.take 4++(r.drop 8).take (num (r.take 4)).toNat) then ([],0)
  else ((r.drop 8).take (num (r.take 4)).toNat::(rdN k (r.drop (8+(num (r.take 4)).toNat))).1,8+(num (r.take 4)).toNat+(rdN k (r.drop (8+(num (r.take 4)).toNat))).2)
def rd (r:List Int):List (List Int) × Nat:=rdN r.length r
def a4o:Nat→Int→List Int
 | 0,_=>[]
 | n+1,v=>IntKind.wrap .u8 (v.fdiv (2 ^ (8*n)))::a4o n v
theorem a1Z:∀ (n:Nat) (v:Int),(a4o n v).length=n
 | 0,v=>rfl
 | n+1,v=>by simp [-bind_some, a4o,a1Z n v]
theorem a3V:∀ (n:Nat) (v:Int),∀ z∈a4o n v,U8 z
 | 0,v,z,hz=>by cases hz
 | n+1,v,z,hz=>by
  rcases d0W.1 hz with rfl | hz
  ·rw [a6p];unfold U8;omega
  ·exact a3V n v z hz
def sby (s:Str):List Int:=s.map fun c=>(c.toNat:Int)
theorem a5E (s:Str):(sby s).length=s.length:=by simp [-bind_some, sby]
theorem c3Y (s:Str):∀ z∈sby s,U8 z:=by
 intro z hz
 obtain ⟨c,_,rfl⟩:=d0Y.1 hz
 have:=c.toNat_lt
 unfold U8
 omega
theorem b7J (s:Str):a0M s=(sby s).map byr:=by simp [-bind_some, a0M,sby,byr,List.map_map,Function.comp_def]
structure Bw (n0:Nat) (h:Hp) (d:D) (h':Hp) (l:List Int) (d':D):Prop where
 ow:Own h' n0 ty5 1 (l.map byr) d'
 len:h.length≤h'.length
 old:∀ q,q<h.length→¬ d.inOb q→h'[q]?=h[q]?
 new:∀ q,d'.inOb q→d.inOb q∨h.length≤q
end Go.Proofs.YtjmndhbabkjebaaDoor

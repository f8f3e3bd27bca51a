/- Laws, on plain data, about functions that the statement reaches. -/
import Derived.Test.YtjmndhbabkjebaaGreatDoorT9
set_option linter.unusedSimpArgs false
set_option linter.unusedVariables false
set_option linter.unnecessarySimpa false
set_option maxRecDepth 100000
namespace Go.Proofs.YtjmndhbabkjebaaGreatDoor
open Go.Eng Go.Pi
open Option (bind_some)
abbrev Str:=List UInt8
def fld (p:Str × Str):List D:=[.str p.1,.str p.2]
structure Lin where
 off:Int
 len:Int
 txt:Str
 deriving DecidableEq
def a1p (l:Lin):List D:=[.int .i64 l.off,.int .i64 l.len,.str l.txt]
structure Ev where
 a0:Int
 a1:Int
 a2:Int
 a3:Int
 ls:List Lin
 ld:D
 a5:Int
 a6:Int
 s7:Str
 s8:Str
 fs:List (Str × Str)
 fd:D
 hfd:SlOf 2 fld fs fd
 hl:fs.length≤9223372036854775807
 hld:SlOf 3 a1p ls ld
 hll:ls.length≤9223372036854775807
def evr (e:Ev):List D:=[.int .i64 e.a0,.int .i64 e.a1,.int .i64 e.a2,.int .i64 e.a3,e.ld,.int .i64 e.a5,.int .i64 e.a6,.str e.s7,.str e.s8,e.fd]
structure It where
 r:Str
 e:Ev
def itr (i:It):List D := .str i.r::evr i.e
structure Hld where
 n:Str
 f:Str
 v:Str
 fr:Int
 to:Int
theorem b0j (n0:Nat) (h:Hp) (n:Nat) (p:Str × Str):∀ d∈fld p,frz n0 h n d=d:=by simp [-bind_some, fld]
theorem b3X (n:Nat) (p:Str × Str):∀ d∈fld p,Ok n d:=by
 intro d hd
 simp [-bind_some, fld] at hd
 rcases hd with rfl | rfl <;> constructor
theorem a5p (n0:Nat) (h:Hp) (n:Nat) (p:Lin):∀ d∈a1p p,frz n0 h n d=d:=by simp [-bind_some, a1p]
theorem b0r (n:Nat) (p:Lin):∀ d∈a1p p,Ok n d:=by
 intro d hd
 simp [-bind_some, a1p] at hd
 rcases hd with rfl | rfl | rfl <;> constructor
theorem b7d (n0:Nat) (h:Hp) (n:Nat) (e:Ev):∀ d∈evr e,frz n0 h (n+1) d=d:=by
 intro d hd
 simp [-bind_some, evr] at hd
 rcases hd with rfl | rfl | rfl | rfl | rfl | rfl | rfl | rfl | rfl | rfl
 all_goals first | exact a2Z e.hld (fun a _=>a5p _ _ _ a) | exact a2Z e.hfd (fun a _=>b0j _ _ _ a) | simp [-bind_some]
theorem c1x (n:Nat) (e:Ev):∀ d∈evr e,Ok n d:=by
 intro d hd
 simp [-bind_some, evr] at hd
 rcases hd with rfl | rfl | rfl | rfl | rfl | rfl | rfl | rfl | rfl | rfl
 all_goals first | exact a1K e.hld (fun a _=>b0r _ a) | exact a1K e.hfd (fun a _=>b3X _ a) | constructor
theorem a9f (n:Nat) (i:It):Ok n (.agg (itr i)):=by
 refine .agg _ fun d hd=>?_
 simp [-bind_some, itr,evr] at hd
 rcases hd with rfl | rfl | rfl | rfl | rfl | rfl | rfl | rfl | rfl | rfl | rfl
 all_goals first | exact a1K i.e.hld (fun a _=>b0r _ a) | exact a1K i.e.hfd (fun a _=>b3X _ a) | constructor
theorem a4q (n0:Nat) (h:Hp) (n:Nat) (i:It):∀ d∈itr i,frz n0 h (n+1) d=d:=by
 intro d hd
 rcases d7x.1 hd with rfl | hd
 ·simp [-bind_some]
 ·exact b7d n0 h n i.e d hd
theorem a8c (n:Nat) (i:It):∀ d∈itr i,Ok n d:=by
 intro d hd
 rcases d7x.1 hd with rfl | hd
 ·exact .str _
 ·exact c1x n i.e d hd
theorem evL (e:Ev) (h:Hp):a0b tab h a0E (.fptr (evr e))=some (.agg (evr e)):=id rfl
theorem c8M (i:It):a0a tab a0L 1 (.fptr (itr i))=some (.fptr (evr i.e)):=id rfl
theorem c8L (i:It):a0a tab a0L 0 (.fptr (itr i))=some (.fptr (itr i)):=id rfl
theorem c8N (i:It) (h:Hp):a0b tab h ty9 (.fptr (itr i))=some (.str i.r):=id rfl
theorem d2f (i:It) (h:Hp):a0b tab h a0L (.fptr (itr i))=some (.agg (itr i)):=id rfl
theorem c2D (i:It):a3s 11 (.agg (itr i))=some (.fptr (itr i)):=a1T 11 _ rfl
theorem a8k (l:Lin) (h:Hp):a0b tab h a1o (.fptr (a1p l))=some (.agg (a1p l)):=id rfl
theorem b1g (l:Str × Str) (h:Hp):a0b tab h a0x (.fptr (fld l))=some (.agg (fld l)):=id rfl
theorem c3D (a b:Lin):a0m tab .neq a1o (.agg (a1p a)) (.agg (a1p b))=some (.bool (decide (a≠b))):=by
 obtain ⟨a0,a1,a2⟩:=a
 obtain ⟨b0,b1,b2⟩:=b
 simp [-bind_some, a1p]
 by_cases h0:a0=b0 <;> by_cases h1:a1=b1 <;> by_cases h2:a2=b2 <;> simp [-bind_some, h0,h1,h2]
theorem b7f (a b:Str × Str):a0m tab .neq a0x (.agg (fld a)) (.agg (fld b))=some (.bool (decide (a≠b))):=by
 obtain ⟨a0,a1⟩:=a
 obtain ⟨b0,b1⟩:=b
 simp [-bind_some, fld]
 by_cases h0:a0=b0 <;> by_cases h1:a1=b1 <;> simp [-bind_some, h0,h1]
def byr (z:Int):List D:=[.int .u8 z]
theorem c0v {zs:List Int} {d:D} (hd:a5w .u8 zs d):SlOf 1 byr zs d:=by
 rcases hd with ⟨rfl,rfl⟩ | rfl
 ·exact .inl ⟨rfl,rfl⟩
 ·exact .inr ⟨false,rfl⟩
theorem a5L (n0:Nat) (h:Hp) (n:Nat) (z:Int):∀ d∈byr z,frz n0 h n d=d:=by simp [-bind_some, byr]
theorem a7K (n:Nat) (z:Int):∀ d∈byr z,Ok n d:=by
 intro d hd
 simp [-bind_some, byr] at hd
 subst hd
 constructor
theorem b3D (z:Int) (h:Hp):a0b tab h ty5 (.fptr (byr z))=some (.int .u8 z):=id rfl
def stp (c:Int):Int:=if c % 2=1 then IntKind.wrap .u32 (BitVec.ofInt IntKind.u32.bits (c.fdiv 2) ^^^ BitVec.ofInt IntKind.u32.bits 3988292384).toNat else c.fdiv 2
def U32 (c:Int):Prop:=0≤c∧c<4294967296
def d3W:Nat→Int→Int
 | 0,c=>c
 | n+1,c=>d3W n (stp c)
def byt (c z:Int):Int:=d3W 8 (IntKind.wrap .u32 (BitVec.ofInt IntKind.u32.bits c ^^^ BitVec.ofInt IntKind.u32.bits (IntKind.wrap .u32 z)).toNat)
def d3N:Int→List Int→Int
 | c,[]=>c
 | c,z::r=>d3N (byt c z) r
def crc (l:List Int):Int:=IntKind.wrap .u32 (BitVec.ofInt IntKind.u32.bits (if IntKind.u32.signed then -1 else IntKind.u32.max) ^^^ BitVec.ofInt IntKind.u32.bits (d3N 4294967295 l)).toNat
theorem a1w {n:Int} (h0:0≤n) (h1:n<18446744073709551616):IntKind.wrap .u64 n=n:=by
 unfold IntKind.wrap
 simp [-bind_some, IntKind.signed,IntKind.bits,IntKind.min,IntKind.max]
 omega
theorem s94 (l r:List Lin) (d e:D) (h:Hp) (hd:SlOf 3 a1p l d) (he:SlOf 3 a1p r e) (hl:l.length≤9223372036854775807):R d1z [d,e] h=some (.bool (decide (l=r)),h):=by
 apply Wp.val
 rw [e94]
 simp only [F94,bs,d7c,a2P hd,a2P he,a0w]
 refine Wp.dif ?_ ?_
 ·intro hn
  have hn:l.length≠r.length:=by
   have:¬ (l.length:Int)=r.length:=by simpa using hn
   omega
  have hne:l≠r:=fun hh=>hn (by rw [hh])
  simp only [bs,a0j]
  exact .some (by simp [-bind_some, hne])
 ·intro hn
  have hn:l.length=r.length:=by
   have:(l.length:Int)=r.length:=by simpa using hn
   omega
  refine Wp.loop (fun k ds g=>g=h∧∃ a b c,∃ i:Nat,ds=[a,.int .i64 i,b,c]∧k+i=l.length∧l.take i=r.take i)
   (fun x=>x.2.2=h∧((x.1 = .ret∧nth 0 x.2.1 = .bool false∧l≠r)∨(x.1 = .ext 0∧l=r))) l.length ⟨rfl,_,_,_,0,rfl,rfl,rfl⟩ ?_ ?_
  ·rintro k ds g ⟨rfl,a,b,c,i,rfl,hk,hi⟩
   simp only [c1r,a0g,a0q,bs,d7c,a2P hd,a0n]
   refine Wp.dif ?_ ?_
   ·intro h0
    have h0:i<l.length:=dl_ h0
    have hg:l[i]?=some l[i]:=d7r h0
    have hg2:r[i]?=some (r[i]'(by omega)):=d7r (by omega)
    have hw:=wi_ i (by omega)
    generalize l[i]=x at hg
    generalize r[i]'(by omega)=y at hg2
    simp only [a8e hd,a8e he,Int.natCast_nonneg,if_true,d7l,hg,hg2,Option.map_some,bs,a8k,c3D]
    refine Wp.dif ?_ ?_
    ·intro hxy
     have hxy:x≠y:=by simpa using hxy
     try simp only [bs]
     refine .some (.inr ⟨by simp,rfl,.inl ⟨rfl,rfl,fun hh=>?_⟩⟩)
     subst hh
     rw [hg] at hg2
     injection hg2 with hg2
     exact hxy hg2
    ·intro hxy
     have hxy:x=y:=by simpa using hxy
     subst hxy
     simp only [a0t,bs,hw]
     refine .some (.inl ⟨rfl,k - 1,by omega,rfl,_,_,_,i+1,rfl,by omega,?_⟩)
     rw [d7o,d7o,hi,hg,hg2]
   ·intro h0
    have h0:i=l.length:=by
     have:¬ (i:Int)<l.length:=by simpa using h0
     omega
    refine .some (.inr ⟨by simp,rfl,.inr ⟨rfl,?_⟩⟩)
    have h1:l.take i=l:=List.take_of_length_le (by omega)
    have h2:r.take i=r:=List.take_of_length_le (by omega)
    rw [← h1,← h2,hi]
  ·rintro ⟨x,ds,g⟩ ⟨rfl,⟨rfl,hx,hne⟩ | ⟨rfl,hll⟩⟩
   ·replace hx:nth 0 ds = .bool false:=hx
    simp only [a1O,a1N,a1L,a0g,bs,hx,a0j]
    exact .some (by simp [-bind_some, hne])
   ·simp only [a0r,a0s,bs,a0j]
    exact .some (by simp [-bind_some, hll])
theorem s95 (l r:List (Str × Str)) (d e:D) (h:Hp) (hd:SlOf 2 fld l d) (he:SlOf 2 fld r e) (hl:l.length≤9223372036854775807):R c8H [d,e] h=some (.bool (decide (l=r)),h):=by
 apply Wp.val
 rw [e95]
 simp only [F95,bs,d7c,a2w hd,a2w he,a0w]
 refine Wp.dif ?_ ?_
 ·intro hn
  have hn:l.length≠r.length:=by
   have:¬ (l.length:Int)=r.length:=by simpa using hn
   omega
  have hne:l≠r:=fun hh=>hn (by rw [hh])
  simp only [bs,a0j]
  exact .some (by simp [-bind_some, hne])
 ·intro hn
  have hn:l.length=r.length:=by
   have:(l.length:Int)=r.length:=by simpa using hn
   omega
  refine Wp.loop (fun k ds g=>g=h∧∃ a b c,∃ i:Nat,ds=[a,.int .i64 i,b,c]∧k+i=l.length∧l.take i=r.take i)
   (fun x=>x.2.2=h∧((x.1 = .ret∧nth 0 x.2.1 = .bool false∧l≠r)∨(x.1 = .ext 0∧l=r))) l.length ⟨rfl,_,_,_,0,rfl,rfl,rfl⟩ ?_ ?_
  ·rintro k ds g ⟨rfl,a,b,c,i,rfl,hk,hi⟩
   simp only [c1s,a0g,a0q,bs,d7c,a2w hd,a0n]
   refine Wp.dif ?_ ?_
   ·intro h0
    have h0:i<l.length:=dl_ h0
    have hg:l[i]?=some l[i]:=d7r h0
    have hg2:r[i]?=some (r[i]'(by omega)):=d7r (by omega)
    have hw:=wi_ i (by omega)
    generalize l[i]=x at hg
    generalize r[i]'(by omega)=y at hg2
    simp only [a8K hd,a8K he,Int.natCast_nonneg,if_true,d7l,hg,hg2,Option.map_some,bs,b1g,b7f]
    refine Wp.dif ?_ ?_
    ·intro hxy
     have hxy:x≠y:=by simpa using hxy
     try simp only [bs]
     refine .some (.inr ⟨by simp,rfl,.inl ⟨rfl,rfl,fun hh=>?_⟩⟩)
     subst hh
     rw [hg] at hg2
     injection hg2 with hg2
     exact hxy hg2
    ·intro hxy
     have hxy:x=y:=by simpa using hxy
     subst hxy
     simp only [a0t,bs,hw]
     refine .some (.inl ⟨rfl,k - 1,by omega,rfl,_,_,_,i+1,rfl,by omega,?_⟩)
     rw [d7o,d7o,hi,hg,hg2]
   ·intro h0
    have h0:i=l.length:=by
     have:¬ (i:Int)<l.length:=by simpa using h0
     omega
    refine .some (.inr ⟨by simp,rfl,.inr ⟨rfl,?_⟩⟩)
    have h1:l.take i=l:=List.take_of_length_le (by omega)
    have h2:r.take i=r:=List.take_of_length_le (by omega)
    rw [← h1,← h2,hi]
  ·rintro ⟨x,ds,g⟩ ⟨rfl,⟨rfl,hx,hne⟩ | ⟨rfl,hll⟩⟩
   ·replace hx:nth 0 ds = .bool false:=hx
    simp only [a1O,a1N,a1L,a0g,bs,hx,a0j]
    exact .some (by simp [-bind_some, hne])
   ·simp only [a0r,a0s,bs,a0j]
    exact .some (by simp [-bind_some, hll])
def a6F (a b:Ev):Bool:=decide (a.a0=b.a0)&&(decide (a.a1=b.a1)&&(decide (a.a2=b.a2)&&(decide (a.a3=b.a3)&&(decide (a.a5=b.a5)&&(decide (a.a6=b.a6)&&(decide (a.s7=b.s7)&&(decide (a.s8=b.s8)&&(decide (a.ls=b.ls)&&decide (a.fs=b.fs)))))))))
def a5U (i j:It):Bool:=decide (i.r=j.r)&&a6F i.e j.e
theorem s82 (i j:It) (h:Hp):R d1y [.agg (itr i),.agg (itr j)] h=some (.bool (a5U i j),h):=by
 apply Wp.val
 rw [e82]
 simp only [F82,a1M,bs,d7c,c8M,c8L,c8N,evL]
 generalize hg0:a0H h a0E 10 [[.int .i64 0,.int .i64 0,.int .i64 0,.int .i64 0,.nils,.int .i64 0,.int .i64 0,.str [],.str [],.nils]]=g0
 have hgl:g0.length=h.length+1:=by simp [-bind_some, ← hg0,a0H]
 have hb:∀ q,q<h.length→g0[q]?=h[q]?:=fun q hq=>by simp only [← hg0,a0H];rw [d7B hq]
 have p8:g0[h.length]?=some (.row a0E 10 [[.int .i64 0,.int .i64 0,.int .i64 0,.int .i64 0,.nils,.int .i64 0,.int .i64 0,.str [],.str [],.nils]]):=by simp [-bind_some, ← hg0,a0H]
 clear hg0
 refine b2X p8 (by rfl) (by rfl) (by simp) (by rfl) fun g1 q8 s1=>?_
 replace q8:g1[h.length]?=some (.row a0E 10 [evr i.e]):=q8
 have hl1:g1.length=h.length+1:=by rw [s1.1,hgl]
 try simp only [a1H]
 rw [hl1]
 generalize hg1:a0H g1 a0E 10 [[.int .i64 0,.int .i64 0,.int .i64 0,.int .i64 0,.nils,.int .i64 0,.int .i64 0,.str [],.str [],.nils]]=g3
 have hgl3:h.length≤g3.length:=by simp [-bind_some, ← hg1,a0H];omega
 have hb3:∀ q,q<h.length+1→g3[q]?=g1[q]?:=fun q hq=>by simp only [← hg1,a0H];rw [d7B (by omega)]
 have p9:g3[h.length+1]?=some (.row a0E 10 [[.int .i64 0,.int .i64 0,.int .i64 0,.int .i64 0,.nils,.int .i64 0,.int .i64 0,.str [],.str [],.nils]]):=by
  simp only [← hg1,a0H];rw [← hl1,List.getElem?_append_right (Nat.le_refl _)];simp [-bind_some]
 replace q8:=(hb3 h.length (by omega)).trans q8
 clear hg1
 refine b2X p9 (by rfl) (by rfl) (by simp) (by rfl) fun g2 q9 s2=>?_
 replace q9:g2[h.length+1]?=some (.row a0E 10 [evr j.e]):=q9
 replace q8:=(s2.2 h.length (by omega)).trans q8
 have hb2:∀ q,q<h.length→g2[q]?=h[q]?:=fun q hq=>(((s2.2 q (by omega)).trans (hb3 q (by omega))).trans (s1.2 q (by omega))).trans (hb q hq)
 have hl2:h.length≤g2.length:=by have:=s2.1;omega
 have r8:g2.row h.length 0=some (evr i.e):=a0I q8
 have r9:g2.row (h.length+1) 0=some (evr j.e):=a0I q9
 have hsc:∀ b:Bool,scope h g2 (.bool b)=some (.bool b,h):=fun b=>a1n (by simp) (.bool b) hl2 hb2
 obtain ⟨ri,ei⟩:=i
 obtain ⟨rj,ej⟩:=j
 by_cases h0:ri=rj
 case neg=>exact ⟨_,by simp [-bind_some, h0,hsc,a5U],rfl⟩
 by_cases h1:ei.a0=ej.a0
 case neg=>exact ⟨_,by simp [-bind_some, h0,h1,hsc,a5U,a6F,r8,r9,evr],rfl⟩
 by_cases h2:ei.a1=ej.a1
 case neg=>exact ⟨_,by simp [-bind_some, h0,h1,h2,hsc,a5U,a6F,r8,r9,evr],rfl⟩
 by_cases h3:ei.a2=ej.a2
 case neg=>exact ⟨_,by simp [-bind_some, h0,h1,h2,h3,hsc,a5U,a6F,r8,r9,evr],rfl⟩
 by_cases h4:ei.a3=ej.a3
 case neg=>exact ⟨_,by simp [-bind_some, h0,h1,h2,h3,h4,hsc,a5U,a6F,r8,r9,evr],rfl⟩
 by_cases h5:ei.a5=ej.a5
 case neg=>exact ⟨_,by simp [-bind_some, h0,h1,h2,h3,h4,h5,hsc,a5U,a6F,r8,r9,evr],rfl⟩
 by_cases h6:ei.a6=ej.a6
 case neg=>exact ⟨_,by simp [-bind_some, h0,h1,h2,h3,h4,h5,h6,hsc,a5U,a6F,r8,r9,evr],rfl⟩
 by_cases h7:ei.s7=ej.s7
 case neg=>exact ⟨_,by simp [-bind_some, h0,h1,h2,h3,h4,h5,h6,h7,hsc,a5U,a6F,r8,r9,evr],rfl⟩
 by_cases h8:ei.s8=ej.s8
 case neg=>exact ⟨_,by simp [-bind_some, h0,h1,h2,h3,h4,h5,h6,h7,h8,hsc,a5U,a6F,r8,r9,evr],rfl⟩
 have sl:=s94 ei.ls ej.ls ei.ld ej.ld g2 ei.hld ej.hld ei.hll
 have sf:=s95 ei.fs ej.fs ei.fd ej.fd g2 ei.hfd ej.hfd ei.hl
 by_cases h9:ei.ls=ej.ls
 case neg=>exact ⟨_,by simp [-bind_some, h0,h1,h2,h3,h4,h5,h6,h7,h8,h9,hsc,a5U,a6F,r8,r9,evr,sl],rfl⟩
 by_cases h10:ei.fs=ej.fs
 case neg=>exact ⟨_,by simp [-bind_some, h0,h1,h2,h3,h4,h5,h6,h7,h8,h9,h10,hsc,a5U,a6F,r8,r9,evr,sl,sf],rfl⟩
 exact ⟨_,by simp [-bind_some, h0,h1,h2,h3,h4,h5,h6,h7,h8,h9,h10,hsc,a5U,a6F,r8,r9,evr,sl,sf],rfl⟩
def d5V (l:List (Str × Str)) (n:Str):Option Str:=(l.find? fun p=>p.1==n).map (·.2)
def app (f v:Str) (e:Ev):Bool:=f==[]||d5V e.fs f==some v
def idx {α:Type} (pr:α→Bool):Nat→List α→Int
 | _,[] => -1
 | k,x::r=>if pr x=true then k else idx pr (k+1) r
def holds (e:Ev) (p:Hld):Bool:=decide (p.fr≤e.a5)&&decide (e.a5<p.to)&&app p.f p.v e
theorem b2v {α:Type} (pr:α→Bool):∀ (l:List α) (k:Nat),decide (0≤idx pr k l)=l.any pr
 | [],k=>by simp [-bind_some, idx]
 | x::r,k=>by
  unfold idx
  by_cases h:pr x=true
  ·simp [-bind_some, h]
  ·simp [-bind_some, h,b2v pr r]
theorem b1x {zs:List Int} {d:D} (hd:a5w .u8 zs d):a0y tab a0N d=some (.int .i64 zs.length):=by
 rcases hd with ⟨rfl,rfl⟩ | rfl
 ·rfl
 ·simp [-bind_some, b4x]
theorem c0x {zs:List Int} {d:D} (hd:a5w .u8 zs d) (i:Nat) (z:Int) (hz:zs[i]?=some z):a0c tab a0N d (.int .i64 i)=some (.fptr [.int .u8 z]):=by
 rcases hd with ⟨rfl,rfl⟩ | rfl
 ·cases hz
 ·simp [-bind_some, b4x,hz]
theorem b6i (h:Hp) (o k f:Nat) (v:D):a0h tab h ty3 (.ptr o k f) v=pSt 1 h (.ptr o k f) v:=rfl
def b0P (l:Lin):Lin:={ l with txt:=[] }
theorem c8O {h:Hp} {q T z:Nat} {cs:List D} (hq:h[q]?=some (.row T z [cs])) (hl:cs.length=10):a0b tab h a0E (.ptr q 0 0)=some (.agg cs):=by
 rw [c3A,a0I hq]
 simp [-bind_some, a8N,hl]
 exact List.take_of_length_le (by omega)
theorem b7S {h:Hp} {q T z:Nat} {cs:List D} (hq:h[q]?=some (.row T z [cs])) (hl:cs.length=11):a0b tab h a0L (.ptr q 0 0)=some (.agg cs):=by
 rw [a8g,a0I hq]
 simp [-bind_some, a8N,hl]
 exact List.take_of_length_le (by omega)
def a4d (c:Int):Bool:=(decide (97≤c)&&decide (c≤122))||(decide (65≤c)&&decide (c≤90))
def b5s (c:Int):Bool:=decide (48≤c)&&decide (c≤57)
def b0G (c:Int):Bool:=(b5s c||a4d c)||decide (c=95)
theorem c0W (c:Int) (h:Hp):R b4b [.int .u8 c] h=some (.bool (a4d c),h):=by
 rw [c9J]
 simp [-bind_some, c4X,a4d]
 by_cases h0:97≤c <;> by_cases h1:c≤122 <;> by_cases h2:65≤c <;> by_cases h3:c≤90 <;> simp [-bind_some, h0,h1,h2,h3]
theorem d2G (c:Int) (h:Hp):R b7m [.int .u8 c] h=some (.bool (b5s c),h):=by
 rw [c9L]
 simp [-bind_some, c4Z,b5s]
 by_cases h0:48≤c <;> by_cases h1:c≤57 <;> simp [-bind_some, h0,h1]
theorem c4e (c:Int) (h:Hp):R b7l [.int .u8 c] h=some (.bool (b0G c),h):=by
 rw [c9K]
 cases hd:b5s c <;> cases hl:a4d c <;> simp [-bind_some, c4Y,d2G,c0W,b0G,hd,hl]
def a5S (c:UInt8):Bool:=b0G c.toNat||decide ((c.toNat:Int)=46)
def a1P (s:Str):Bool:=match s with
 | []=>false
 | c::r=>decide ((c::r).length≤32)&&(a4d c.toNat||decide ((c.toNat:Int)=95))&&(c::r).all a5S
theorem d3l (s:Str) (i:Nat) (c:UInt8) (hc:s[i]?=some c):a4A tab ty9 (.str s) (.int .i64 i)=some (.int .u8 c.toNat):=by
 show (if (0:Int)≤(i:Int) then (match s[(i:Int).toNat]? with | some c=>some (D.int .u8 c.toNat) | none=>none) else none)=_
 simp [-bind_some, hc]
theorem d1Z (s:Str) (h:Hp) (hl:s.length≤9223372036854775807) {β:Type} (K:Out→Option β) (X:Bool→Option β)
   (hX:∀ r,K (.ret,.bool false::r,h)=X false) (hY:∀ r,K (.ext 0,r,h)=X true):∀ (suf pre:Str),s=pre++suf→∀ a b e,
   (a0P (a5k (.str s)) [a,.int .i64 pre.length,b,e] h).bind K=X (suf.all a5S):=by
 intro suf
 induction suf with
 | nil =>
  rintro pre rfl a b e
  rw [a2c]
  simp [-bind_some, a5k,hY]
 | cons p suf ih =>
  rintro pre rfl a b e
  have hw:IntKind.wrap .i64 ((pre.length:Int)+1)=(pre++[p]).length:=by
   rw [wrap_i64 (by omega) (by simp at hl;omega)];simp [-bind_some]
  have hlt:(pre.length:Int)<(pre++p::suf).length:=by simp;omega
  rw [a2c]
  generalize hL:pre++p::suf=L at *
  have hg:L[pre.length]?=some p:=by rw [← hL];exact b2u _ _ _
  have hix:=d3l L pre.length p hg
  cases hp:b0G p.toNat
  ·by_cases h46:(p.toNat:Int)=46
   ·have:=ih (pre++[p]) (by simp [-bind_some, ← hL]) a (.bool true) (.bool (decide ((p.toNat:Int)≠46)))
    simp only [← hw] at this
    have h47:b0G 46=false:=rfl
    simp [-bind_some, a5k,hlt,hix,c4e,hp,a5S,h46,h47]
    simp [-bind_some, h46] at this
    exact this
   ·simp [-bind_some, a5k,hlt,hix,c4e,hp,a5S,h46,hX]
  ·have:=ih (pre++[p]) (by simp [-bind_some, ← hL]) a (.bool true) (.bool false)
   simp only [← hw] at this
   simp [-bind_some, a5k,hlt,hix,c4e,hp,a5S]
   exact this
theorem d2F (s:Str) (h:Hp) (hl:s.length≤9223372036854775807):R b7k [.str s] h=some (.bool (a1P s),h):=by
 rw [c9I]
 cases s with
 | nil=>simp [-bind_some, b5l,a1P]
 | cons c r =>
  have hi0:a4A tab ty9 (.str (c::r)) (.int .i64 0)=some (.int .u8 c.toNat):=d3l (c::r) 0 c rfl
  have h1:¬ ((c::r).length:Int)<1:=by simp;omega
  have hlp:=d1Z (c::r) h hl (fun r_1=>(some (a0T 0 r_1.1,[nth 0 r_1.2.1,nth 1 r_1.2.1,nth 2 r_1.2.1,nth 3 r_1.2.1],r_1.2.2)).bind fun r_1=>a0Y r_1.1 (some (.bool true,r_1.2.2)) fun x=>a0Z x (some (nth 0 r_1.2.1,r_1.2.2))) (fun b=>some (.bool b,h)) (fun r=>by simp) (fun r=>by simp) (c::r) [] rfl
  simp only [bs] at hlp
  by_cases h32:(32:Int)<((c::r).length:Int)
  ·have h33:¬ (c::r).length≤32:=by omega
   simp only [b5l,bs,a4W,a0n,a0u,a0o,a0e,h32,h1,decide_true,decide_false,a1g,a0d,a0j,if_true,if_false,d7d,reduceCtorEq,a1P,h33,Bool.false_and,a1q,bs]
  ·have h33:(c::r).length≤32:=by omega
   cases hq:a4d c.toNat
   ·by_cases h95:(c.toNat:Int)=95
    ·simp only [b5l,bs,a4W,a0n,a0u,a0o,a0e,h32,h1,decide_true,decide_false,a1g,a0d,a0j,if_true,if_false,d7d,reduceCtorEq,a1P,h33,Bool.false_and,hi0,c0W,hq,show a4d 95=false from rfl,a1C,d7n,a0w,h95,ne_eq,not_true,d7c]
     refine (hlp _ _ _).trans ?_
     simp [-bind_some, a5S]
    ·simp only [b5l,bs,a4W,a0n,a0u,a0o,a0e,h32,h1,decide_true,decide_false,a1g,a0d,a0j,if_true,if_false,d7d,reduceCtorEq,a1P,h33,Bool.false_and,hi0,c0W,hq,a1C,d7n,a0w,h95,ne_eq,not_true,not_false_eq_true,Bool.or_false,Bool.and_false]
   ·simp only [b5l,bs,a4W,a0n,a0u,a0o,a0e,h32,h1,decide_true,decide_false,a1g,a0d,a0j,if_true,if_false,d7d,reduceCtorEq,a1P,h33,Bool.false_and,hi0,c0W,hq,a1C,d7m,a1q,d7c]
    refine (hlp _ _ _).trans ?_
    simp [-bind_some, a5S]
def Asc (l:List (Str × Str)):Prop:=∀ i p q,l[i]?=some p→l[i+1]?=some q→Op.bytesLess p.1 q.1=true∧p.1≠q.1
theorem d6x (t:Nat) (s u:Str):a0m tab .gtr t (.str s) (.str u)=some (.bool (!(Op.bytesLess s u||s==u))):=id rfl
theorem a8X (p:Str × Str):(a0a tab a0x 0 (.fptr (fld p)))=some (.fptr (fld p)):=id rfl
theorem a8Y (p:Str × Str) (h:Hp):a0b tab h ty9 (.fptr (fld p))=some (.str p.1):=id rfl
theorem d1X (l:List Lin) (d:D) (fn:D) (pr:Lin→Bool) (h:Hp) (hd:SlOf 3 a1p l d) (hl:l.length≤9223372036854775807) (hf:∀ x,a4H R fn [.agg (a1p x)] h=some (.bool (pr x),h)) {β:Type} (K:Out→Option β) (X:Int→Option β)
   (hX:∀ v r,K (.ret,.int .i64 v::r,h)=X v) (hY:∀ r,K (.ext 0,r,h)=X (-1)):∀ (suf pre:List Lin),l=pre++suf→∀ a b e f,
   (a0P (a5Z d fn (.int .i64 l.length)) [a,b,.int .i64 pre.length,e,f] h).bind K=X (idx pr pre.length suf):=by
 intro suf
 induction suf with
 | nil =>
  rintro pre rfl a b e f
  rw [a2c]
  simp [-bind_some, a5Z,hY,idx]
 | cons p suf ih =>
  rintro pre rfl a b e f
  have hw:IntKind.wrap .i64 ((pre.length:Int)+1)=(pre++[p]).length:=by
   rw [wrap_i64 (by omega) (by simp at hl;omega)];simp [-bind_some]
  have hlt:(pre.length:Int)<(pre++p::suf).length:=by simp;omega
  rw [a2c]
  generalize hL:pre++p::suf=L at *
  have hg:L[pre.length]?=some p:=by rw [← hL];exact b2u _ _ _
  by_cases hp:pr p=true
  ·simp [-bind_some, a5Z,a8e hd,hlt,hg,a8k,hf,hp,hX,idx]
  ·have:=ih (pre++[p]) (by simp [-bind_some, ← hL]) a (.int .i64 pre.length) (.bool true) (.bool (pr p))
   simp only [← hw] at this
   simp [-bind_some, a5Z,a8e hd,hlt,hg,a8k,hf,hp,idx]
   simp [-bind_some, hp] at this
   exact this
theorem d2E (l:List Lin) (d:D) (fn:D) (pr:Lin→Bool) (h:Hp) (hd:SlOf 3 a1p l d) (hl:l.length≤9223372036854775807) (hf:∀ x,a4H R fn [.agg (a1p x)] h=some (.bool (pr x),h)) :
   R b7g [d,fn] h=some (.int .i64 (idx pr 0 l),h):=by
 rw [c9B]
 simp only [c4S,bs,a2P hd,d7c]
 rw [show (0:Int)=(([]:List Lin).length:Int) from rfl,d1X l d fn pr h hd hl hf _ (fun v=>some (.int .i64 v,h)) (fun v r=>by simp) (fun r=>by simp) l [] rfl]
 rfl
theorem b9y {T:Tab} {t e:Nat} {i j:TI} (ht:T t=Option.some i) (hi:i.td = .sl e) (he:T e=Option.some j) (hz:0<j.sz) {h:Hp} {ys:List (List D)} {y:D} (hy:a1R h j.sz y=Option.some ys) (hl:lim ys.length j.by_=true) :
  ∃ x' h',a0F T h t t (.sl j.sz true []) y=Option.some (x',h')∧h.length≤h'.length∧(∀ q,q<h.length→h'[q]?=h[q]?)∧((x' = .sl j.sz true []∧ys=[])∨Own h' h.length e j.sz ys x'):=by
 have hz':Nat.blt 0 j.sz=true:=Nat.ble_eq_true_of_le hz
 have hs:b5r h i j y=Option.some ys:=by simp [-bind_some, b5r,hi,hy]
 unfold a0F
 simp only [ht,hi,he,hz',hs]
 cases ys with
 | nil=>exact ⟨_,_,rfl,Nat.le_refl _,fun _ _=>rfl,.inl ⟨rfl,rfl⟩⟩
 | cons y1 yr =>
  simp only [d7u,Nat.zero_add,hl,and_self,if_true,List.nil_append,true_and]
  exact ⟨_,_,rfl,by simp [-bind_some, a0H],fun q hq=>by simp only [a0H];rw [d7B hq],.inr (.inr ⟨h.length,Nat.le_refl _,rfl,by simp [-bind_some, a0H]⟩)⟩
def inr (n:Int):List D:=[.int .i64 n]
theorem n66 (o pos:Nat) (zs:List Int) (d:D) (h:Hp) (ho:h[o]?=some (.row b1W 2 [[d,.int .i64 pos]])) (hd:a5w .u8 zs d):R d1x [.ptr o 0 0] h=some (.bool (decide (pos<zs.length)),h):=by
 rw [e66]
 simp [-bind_some, F66,Hp.row,ho,b1x hd]
def CM (h:Hp) (o:Nat):Prop:=∃ (d:D) (zs:List Int) (pos:Nat),h[o]?=some (.row b1W 2 [[d,.int .i64 pos]])∧a5w .u8 zs d∧zs.length≤400∧pos≤400∧∀ z∈zs,0≤z∧z<256
theorem CM.keep {h h':Hp} {o:Nat} (hc:CM h o) (he:h'[o]?=h[o]?):CM h' o:=by
 obtain ⟨d,zs,pos,ho,hr⟩:=hc
 exact ⟨d,zs,pos,by rw [he];exact ho,hr⟩
theorem CM.lt {h:Hp} {o:Nat} (hc:CM h o):o<h.length:=by
 obtain ⟨d,zs,pos,ho,hr⟩:=hc
 exact (d7s.1 ho).1
theorem CM.ok {h:Hp} {o:Nat} (hc:CM h o) (n:Nat):∀ T sz rows,h[o]?=some (.row T sz rows)→∀ row∈rows,∀ d∈row,Ok n d:=by
 obtain ⟨d,zs,pos,ho,hd,_⟩:=hc
 intro T sz rows hr row hrow x hx
 rw [ho] at hr
 injection hr with hr
 injection hr with _ _ hr
 subst hr
 simp at hrow
 subst hrow
 simp at hx
 rcases hx with rfl | rfl
 ·exact b7J hd n
 ·exact .int _ _
theorem m39 {h:Hp} {o:Nat} (hc:CM h o) (n:Int) (hn:1≤n) (hn2:n≤1000000000):∃ v h',R a5n [.ptr o 0 0,.int .i64 n] h=some (.int .i64 v,h')∧CM h' o∧Same o h h'∧0≤v∧v<n:=by
 obtain ⟨d,zs,pos,ho,hd,hl,hp4,hz⟩:=hc
 have hn':¬ n<1:=by omega
 have hn0:¬ n=0:=by omega
 by_cases hp:pos<zs.length
 ·have hg:zs[pos]?=some zs[pos]:=d7r hp
  have hm:=hz zs[pos] (List.getElem_mem _)
  generalize zs[pos]=z at hg hm
  have hw:IntKind.wrap .i64 ((pos:Int)+1)=(pos:Int)+1:=wrap_i64 (by omega) (by omega)
  have hw2:IntKind.wrap .i64 ((pos:Int)+1 - 1)=(pos:Int):=by rw [wrap_i64 (by omega) (by omega)];omega
  have hw3:IntKind.wrap .i64 (pos:Int)=(pos:Int):=wrap_i64 (by omega) (by omega)
  have hzw:IntKind.wrap .i64 z=z:=wrap_i64 (by omega) (by omega)
  have holt:o<h.length:=(d7s.1 ho).1
  have hs:∀ X,(h.set o X)[o]?=some X:=fun X=>List.getElem?_set_self holt
  have h1:=Int.tmod_nonneg n hm.1
  have h2:=Int.tmod_lt_of_pos z (show 0<n by omega)
  refine ⟨z.tmod n,h.set o (.row b1W 2 [[d,.int .i64 ((pos+1:Nat):Int)]]),?_,⟨d,zs,pos+1,by simp [-bind_some, holt],hd,hl,by omega,hz⟩,⟨by simp,fun q hq=>by rw [d7C (by omega)]⟩,h1,h2⟩
  rw [e39]
  simp [-bind_some, F39,n66 o pos zs d h ho hd,hp,hn',hn0,Hp.row,ho,b6i,pSt,D.okv,a0B,D.one,spl,hw,hw2,hw3,c0x hd pos z hg,hzw,hs]
 ·refine ⟨0,h,?_,⟨d,zs,pos,ho,hd,hl,hp4,hz⟩,.refl _ _,by omega,by omega⟩
  rw [e39]
  simp [-bind_some, F39,n66 o pos zs d h ho hd,hp]
theorem m40 {h:Hp} {o:Nat} (hc:CM h o) (l:List Str) (d:D) (hd:SlOf 1 (fun s=>[.str s]) l d) (h1:1≤l.length) (h2:l.length≤1000):∃ s h',R a6L [.ptr o 0 0,d] h=some (.str s,h')∧CM h' o∧Same o h h'∧s∈l:=by
 obtain ⟨v,h',e1,c1,s1,v0,v1⟩:=m39 hc l.length (by omega) (by omega)
 obtain ⟨s,hs,hg⟩:=b8t l v v0 v1
 refine ⟨s,h',?_,c1,s1,hs⟩
 rw [e40]
 simp [-bind_some, F40,c7q hd,e1,d1V hd,v0,hg]
theorem a2X {h:Hp} {o:Nat} (hc:CM h o) (l:List Str) (m:Nat) (hm:∀ s∈l,s.length≤m) (h1:1≤l.length) (h2:l.length≤1000) {β:Type} {f:D × Hp→Option β} {Q:β→Prop}
  (k:∀ s h',CM h' o→Same o h h'→s∈l→s.length≤m→Wp (f (.str s,h')) Q):Wp ((R a6L [.ptr o 0 0,.sl 1 true (l.map fun s=>[.str s])] h).bind f) Q:=by
 obtain ⟨s,h',e1,c1,s1,hs⟩:=m40 hc l _ (.mk _ _ _ _) h1 h2
 rw [e1]
 exact k s h' c1 s1 hs (hm s hs)
theorem a7J (t:Nat) {s u:Str} (hs:s.length≤1000000000) (hu:u.length≤1000000000) {β:Type} {f:D→Option β} {Q:β→Prop} (k:∀ v:Str,v.length=s.length+u.length→Wp (f (.str v)) Q):Wp ((a0m tab .add t (.str s) (.str u)).bind f) Q:=by
 rw [b6L _ _ _ _ (by omega)]
 exact k _ (by simp)
theorem m83 {h:Hp} {o:Nat} (hc:CM h o) (most:Int) (hm0:0≤most) (hm1:most≤20):∃ s h',R c6R [.ptr o 0 0,.int .i64 most] h=some (.str s,h')∧CM h' o∧Same o h h'∧s.length≤80:=by
 suffices Wp (R c6R [.ptr o 0 0,.int .i64 most] h) (fun p=>∃ s,p.1 = .str s∧CM p.2 o∧Same o h p.2∧s.length≤80) by
  obtain ⟨⟨x,h'⟩,h1,s,rfl,h2⟩:=this
  exact ⟨s,h',h1,h2⟩
 rw [e83]
 have hw:=wrap_i64 (n:=most+1) (by omega) (by omega)
 simp only [F83,bs,d7c,a0t,hw]
 obtain ⟨v,h1,e1,c1,s1,v0,v1⟩:=m39 hc (most+1) (by omega) (by omega)
 refine Wp.step e1 ?_
 simp only [bs]
 refine Wp.loop (fun k ds g=>∃ s a,ds=[.str s,.int .i64 k,a]∧CM g o∧Same o h g∧k≤20∧s.length+4*k≤80) (fun r=>r.1 = .ext 0∧∃ s a b,r.2.1=[.str s,a,b]∧CM r.2.2 o∧Same o h r.2.2∧s.length≤80) v.toNat ⟨[],.any,by rw [Int.toNat_of_nonneg v0],c1,s1,by omega,by simp;omega⟩ ?_ ?_
 ·rintro k ds g ⟨s,a,rfl,cg,sg,hk,hs⟩
  simp only [c1q,a0g,a0q,bs,a0u]
  refine Wp.dif ?_ ?_
  ·intro h0
   have h0:0<(k:Int):=by simpa using h0
   simp only [b5Y,bs]
   refine a2X cg lt98_33 4 (by decide) (by decide) (by decide) fun u g1 c1 q1 _ hu=>?_
   simp only [bs]
   refine a7J _ (by omega) (by omega) fun w hw=>?_
   have hk1:IntKind.wrap .i64 ((k:Int) - 1)=((k - 1:Nat):Int):=by
    rw [wrap_i64 (by omega) (by omega)];omega
   simp only [bs,a0D,hk1]
   exact .some (.inl ⟨rfl,k - 1,by omega,w,_,rfl,c1,sg.trans q1,by omega,by omega⟩)
  ·intro _
   exact .some (.inr ⟨by simp,rfl,s,_,_,rfl,cg,sg,by omega⟩)
 ·rintro ⟨x,ds,g⟩ ⟨rfl,s,a,b,rfl,cg,sg,hs⟩
  simp only [a0r,a0s,a0g,bs,a0j]
  exact .some ⟨s,rfl,cg,sg,hs⟩
theorem m67 {h:Hp} {o:Nat} (hc:CM h o):∃ s h',R c8G [.ptr o 0 0] h=some (.str s,h')∧CM h' o∧Same o h h'∧s.length≤200:=by
 suffices Wp (R c8G [.ptr o 0 0] h) (fun p=>∃ s,p.1 = .str s∧CM p.2 o∧Same o h p.2∧s.length≤200) by
  obtain ⟨⟨x,h'⟩,h1,s,rfl,h2⟩:=this
  exact ⟨s,h',h1,h2⟩
 rw [e67]
 simp only [F67,bs,d7c,b5K,b5L,b5M,b5N,b5O,b5P,b5Q,b5R,b5S,b5T,b5U,b5V,b5W,b5X]
 obtain ⟨v,h1,e1,c1,s1,v0,v1⟩:=m39 hc 8 (by omega) (by omega)
 refine Wp.step e1 ?_
 clear e1
 simp only [a0Q,bs]
 have fin:∀ (s:Str) (g:Hp),CM g o→Same o h g→s.length≤200→Wp (some ((.str s:D),g)) (fun p=>∃ s,p.1 = .str s∧CM p.2 o∧Same o h p.2∧s.length≤200):=fun s g a b c => .some ⟨s,rfl,a,b,c⟩
 refine Wp.dif (fun _=>?_) (fun _=>?_)
 ·repeat first
    | (refine a2X (by assumption) _ 8 (by decide) (by decide) (by decide) fun u g c1 q1 _ hu=>?_
       replace s1:=s1.trans q1
       clear q1
       try simp only [bs])
    | (refine a7J _ (by first | omega | (simp [-bind_some];omega) | simp [-bind_some]) (by first | omega | (simp [-bind_some];omega) | simp [-bind_some]) fun w hw=>?_
       try simp only [d7t,d7u] at hw
       try simp only [bs])
  try simp only [a0j]
  exact fin _ _ (by assumption) s1 (by omega)
 refine Wp.dif (fun _=>?_) (fun _=>?_)
 ·repeat first
    | (refine a2X (by assumption) _ 8 (by decide) (by decide) (by decide) fun u g c1 q1 _ hu=>?_
       replace s1:=s1.trans q1
       clear q1
       try simp only [bs])
    | (refine a7J _ (by first | omega | (simp [-bind_some];omega) | simp [-bind_some]) (by first | omega | (simp [-bind_some];omega) | simp [-bind_some]) fun w hw=>?_
       try simp only [d7t,d7u] at hw
       try simp only [bs])
  try simp only [a0j]
  exact fin _ _ (by assumption) s1 (by omega)
 refine Wp.dif (fun _=>?_) (fun _=>?_)
 ·repeat first
    | (refine a2X (by assumption) _ 8 (by decide) (by decide) (by decide) fun u g c1 q1 _ hu=>?_
       replace s1:=s1.trans q1
       clear q1
       try simp only [bs])
    | (refine a7J _ (by first | omega | (simp [-bind_some];omega) | simp [-bind_some]) (by first | omega | (simp [-bind_some];omega) | simp [-bind_some]) fun w hw=>?_
       try simp only [d7t,d7u] at hw
       try simp only [bs])
  try simp only [a0j]
  exact fin _ _ (by assumption) s1 (by omega)
 refine Wp.dif (fun _=>?_) (fun _=>?_)
 ·repeat first
    | (refine a2X (by assumption) _ 8 (by decide) (by decide) (by decide) fun u g c1 q1 _ hu=>?_
       replace s1:=s1.trans q1
       clear q1
       try simp only [bs])
    | (refine a7J _ (by first | omega | (simp [-bind_some];omega) | simp [-bind_some]) (by first | omega | (simp [-bind_some];omega) | simp [-bind_some]) fun w hw=>?_
       try simp only [d7t,d7u] at hw
       try simp only [bs])
  try simp only [a0j]
  exact fin _ _ (by assumption) s1 (by omega)
 refine Wp.dif (fun _=>?_) (fun _=>?_)
 ·repeat first
    | (refine a2X (by assumption) _ 8 (by decide) (by decide) (by decide) fun u g c1 q1 _ hu=>?_
       replace s1:=s1.trans q1
       clear q1
       try simp only [bs])
    | (refine a7J _ (by first | omega | (simp [-bind_some];omega) | simp [-bind_some]) (by first | omega | (simp [-bind_some];omega) | simp [-bind_some]) fun w hw=>?_
       try simp only [d7t,d7u] at hw
       try simp only [bs])
  try simp only [a0j]
  exact fin _ _ (by assumption) s1 (by omega)
 refine Wp.dif (fun _=>?_) (fun _=>?_)
 ·repeat first
    | (refine a2X (by assumption) _ 8 (by decide) (by decide) (by decide) fun u g c1 q1 _ hu=>?_
       replace s1:=s1.trans q1
       clear q1
       try simp only [bs])
    | (refine a7J _ (by first | omega | (simp [-bind_some];omega) | simp [-bind_some]) (by first | omega | (simp [-bind_some];omega) | simp [-bind_some]) fun w hw=>?_
       try simp only [d7t,d7u] at hw
       try simp only [bs])
  try simp only [a0j]
  exact fin _ _ (by assumption) s1 (by omega)
 obtain ⟨s,g,e2,c2,s2,hs⟩:=m83 c1 6 (by omega) (by omega)
 simp only [e2,bs,a0j]
 exact fin _ _ c2 (s1.trans s2) (by omega)
structure Sm (h0:Hp) (o:Nat) (g:Hp):Prop where
 lt:o<h0.length
 cd:CM g o
 gr:Grow h0.length o h0 g
theorem Sm.refl {h:Hp} {o:Nat} (hc:CM h o):Sm h o h:=⟨hc.lt,hc,.refl _ _ _⟩
theorem Sm.next {h0 g g':Hp} {o:Nat} (s:Sm h0 o g) (hc:CM g' o) (hs:Same o g g'):Sm h0 o g':=⟨s.lt,hc,s.gr.trans hs.grow⟩
theorem Sm.app {h0 g g':Hp} {o:Nat} (s:Sm h0 o g) (hl:g.length≤g'.length) (hb:∀ q,q<h0.length→g'[q]?=g[q]?):Sm h0 o g':=⟨s.lt,s.cd.keep (hb o s.lt),s.gr.trans ⟨hl,fun q hq _=>hb q hq⟩⟩
theorem Sm.le {h0 g:Hp} {o:Nat} (s:Sm h0 o g):h0.length≤g.length:=s.gr.1
theorem Sm.scope {h0 g:Hp} {o:Nat} (s:Sm h0 o g) {d d':D} (hd:frz h0.length g 4 d=d') (hok:Ok h0.length d'):∃ h',scope h0 g d=some (d',h')∧CM h' o∧Same o h0 h':=by
 obtain ⟨h1,h2,h3⟩:=a9o hd hok s.gr (s.cd.ok h0.length)
 exact ⟨_,h1,s.cd.keep (h3 o s.lt),h2⟩
def mch:Int→List Lin→Int→Prop
 | a,[],b=>a=b
 | a,l::r,b=>l.off=a∧1≤l.len∧l.len≤20∧l.txt.length≤200∧mch (a+l.len) r b
theorem b4H:∀ (ls:List Lin) (a b:Int) (l:Lin),mch a ls b→l.off=b→1≤l.len→l.len≤20→l.txt.length≤200→mch a (ls++[l]) (b+l.len)
 | [],a,b,l,h,h1,h2,h3,h4=>by
  simp only [mch] at h
  subst h
  exact ⟨h1,h2,h3,h4,rfl⟩
 | x::r,a,b,l,h,h1,h2,h3,h4=>⟨h.1,h.2.1,h.2.2.1,h.2.2.2.1,b4H r _ b l h.2.2.2.2 h1 h2 h3 h4⟩
theorem a5G:∀ (ls:List Lin) (a b:Int),mch a ls b→a+ls.length≤b∧b≤a+20*ls.length
 | [],a,b,h=>by simp [-bind_some, mch] at h;simp [-bind_some];omega
 | x::r,a,b,h=>by
  have:=a5G r _ b h.2.2.2.2
  have:=h.2.1
  have:=h.2.2.1
  simp only [d7t]
  omega
theorem d2h {h:Hp} {q T z:Nat} {cs:List D} (hq:h[q]?=some (.row T z [cs])) (hl:cs.length=3):a0b tab h a1o (.ptr q 0 0)=some (.agg cs):=by
 rw [c3B,a0I hq]
 simp [-bind_some, a8N,hl]
 exact List.take_of_length_le (by omega)
theorem a4Z (g:Hp) (T z:Nat) (rows:List (List D)):(a0H g T z rows)[g.length]?=some (.row T z rows):=by simp [-bind_some, a0H]
theorem a5a (g:Hp) (T z:Nat) (rows:List (List D)) {q:Nat} (hq:q<g.length):(a0H g T z rows)[q]?=g[q]?:=by
 simp only [a0H];rw [d7B hq]
theorem a2C (g:Hp) (T z:Nat) (rows:List (List D)):(a0H g T z rows).length=g.length+1:=by simp [-bind_some, a0H]
theorem m42 {h:Hp} {o:Nat} (hc:CM h o) (fr:Int) (hf0:0≤fr) (hf1:fr≤1000000) (most:Int) (hm0:1≤most) (hm1:most≤10):∃ x h',R c8F [.ptr o 0 0,.int .i64 fr,.int .i64 most,.bool true] h=some (x,h')∧CM h' o∧Same o h h'∧∃ ls e,SlOf 3 a1p ls x∧mch fr ls e∧1≤ls.length∧ls.length≤most.toNat:=by
 suffices Wp (R c8F [.ptr o 0 0,.int .i64 fr,.int .i64 most,.bool true] h) (fun p=>CM p.2 o∧Same o h p.2∧∃ ls e,SlOf 3 a1p ls p.1∧mch fr ls e∧1≤ls.length∧ls.length≤most.toNat) by
  obtain ⟨⟨x,h'⟩,h1,h2⟩:=this
  exact ⟨x,h',h1,h2⟩
 rw [e42]
 simp only [F42,bs,d7c]
 obtain ⟨v,h1,e1,c1,s1,v0,v1⟩:=m39 hc most (by omega) (by omega)
 have S1:=(Sm.refl hc).next c1 s1
 refine Wp.step e1 ?_
 clear e1
 have hw:=wrap_i64 (n:=1+v) (by omega) (by omega)
 simp only [a0t,hw,bs]
 refine Wp.loop (fun k ds g=>∃ (po:Int) (x a b c:D) (ls:List Lin),ds=[.int .i64 po,x,.int .i64 k,a,b,c]∧Sm h o g∧Own g h.length a1o 3 (ls.map a1p) x∧mch fr ls po∧ls.length+k=(1+v).toNat)
  (fun r=>r.1 = .ext 0∧∃ (a x b c d e:D) (po:Int) (ls:List Lin),r.2.1=[a,x,b,c,d,e]∧Sm h o r.2.2∧Own r.2.2 h.length a1o 3 (ls.map a1p) x∧mch fr ls po∧ls.length=(1+v).toNat)
  (1+v).toNat ⟨fr,.nils,.any,.any,.any,[],by rw [Int.toNat_of_nonneg (by omega)],S1,Own.nils _ _ _ _,rfl,by simp⟩ ?_ ?_
 ·rintro k ds g ⟨po,x,a,b,c,ls,rfl,S,ow,hch,hk⟩
  simp only [c1p,a0g,a0q,bs,a0u]
  refine Wp.dif ?_ ?_
  ·intro h0
   have h0:0<(k:Int):=by simpa using h0
   have hcl:=a5G _ _ _ hch
   obtain ⟨u,g1,e1,c1,s1,u0,u1⟩:=m39 S.cd 20 (by omega) (by omega)
   have S1:=S.next c1 s1
   replace ow:=ow.same s1 S.lt
   refine Wp.step e1 ?_
   clear e1
   have hw1:=wrap_i64 (n:=1+u) (by omega) (by omega)
   have hx:∀ q,x.inOb q→q<g1.length:=fun q hq=>(ow.lt hq).2
   simp only [a0t,hw1,bs,d7c,a9P,b6A]
   generalize hg2:a0H g1 a1o 3 [[.int .i64 0,.int .i64 0,.str []]]=g2
   have p1:g2[g1.length]?=some (.row a1o 3 [[.int .i64 0,.int .i64 0,.str []]]):=by rw [← hg2];exact a4Z _ _ _ _
   have hb2:∀ q,q<g1.length→g2[q]?=g1[q]?:=fun q hq=>by rw [← hg2];exact a5a _ _ _ _ hq
   have hl2:g2.length=g1.length+1:=by rw [← hg2];exact a2C _ _ _ _
   clear hg2
   have hle:=S1.le
   refine c8y p1 (by rfl) (by rfl) (by simp) (by rfl) fun g3 p3 sg=>?_
   replace p3:g3[g1.length]?=some (.row a1o 3 [[.int .i64 po,.int .i64 (1+u),.str []]]):=p3
   have hb3:∀ q,q<g1.length→g3[q]?=g1[q]?:=fun q hq=>(sg.2 q (by omega)).trans (hb2 q hq)
   have hl3:g3.length=g1.length+1:=sg.1.trans hl2
   have S3:=S1.app (by omega) fun q hq=>hb3 q (by omega)
   replace ow:Own g3 h.length a1o 3 (ls.map a1p) x:=ow.keep fun q _ hq=>hb3 q (hx q hq)
   clear p1 hb2 hl2 sg
   simp only [a0d,if_true,d7c,bs]
   obtain ⟨tx,g4,e4,c4,s4,ht⟩:=m67 S3.cd
   have S4:=S3.next c4 s4
   replace ow:=ow.same s4 S.lt
   have hno:o≠g1.length:=fun hh=>by have:=S1.lt;omega
   replace p3:=(s4.2 g1.length (Ne.symm hno)).trans p3
   have hl4:g4.length=g1.length+1:=s4.1.trans hl3
   refine Wp.step e4 ?_
   clear e4
   simp only [bs,a3q,Nat.zero_add]
   refine c2r p3 (by rfl) (by rfl) (by simp) (by rfl) fun g5 p5 sg=>?_
   replace p5:g5[g1.length]?=some (.row a1o 3 [a1p ⟨po,1+u,tx⟩]):=p5
   have hl5:g5.length=g1.length+1:=sg.1.trans hl4
   have S5:=S4.app (by omega) fun q hq=>sg.2 q (by omega)
   replace ow:Own g5 h.length a1o 3 (ls.map a1p) x:=ow.keep fun q _ hq=>sg.2 q (by have:=hx q hq;omega)
   clear p3 sg
   simp only [bs,a0s,d2h p5 rfl]
   rw [show a0X tab a1i 1 [0] [.agg (a1p ⟨po,1+u,tx⟩)]=some (.sl 3 true [a1p ⟨po,1+u,tx⟩]) from id rfl]
   simp only [bs]
   refine b2W (by omega) ow (a1d _ _ _ _) (by simp;omega) fun x' g6 ow6 len bel keep _=>?_
   have S6:=S5.app len bel
   have p6:=(keep g1.length (by omega) (fun hh=>by have:=hx _ hh;omega)).trans p5
   have r6:g6.row g1.length 0=some (a1p ⟨po,1+u,tx⟩):=a0I p6
   have hw2:=wrap_i64 (n:=po+(1+u)) (by omega) (by omega)
   have hk1:IntKind.wrap .i64 ((k:Int) - 1)=((k - 1:Nat):Int):=by
    rw [wrap_i64 (by omega) (by omega)];omega
   simp only [bs,a3h,Nat.zero_add,a6R,r6,a1p,List.drop_succ_cons,List.drop_zero,List.head?_cons,a0t,hw2,a0D,hk1]
   exact .some (.inl ⟨rfl,k - 1,by omega,po+(1+u),x',_,_,_,ls++[⟨po,1+u,tx⟩],rfl,S6,by rw [d7j];exact ow6,b4H _ _ _ _ hch rfl (by simp;omega) (by simp;omega) (by simpa using ht),by simp;omega⟩)
  ·intro h0
   have h0:¬ 0<(k:Int):=by simpa using h0
   exact .some (.inr ⟨by simp,rfl,_,x,_,_,_,_,po,ls,rfl,S,ow,hch,by omega⟩)
 ·rintro ⟨ex,ds,g⟩ ⟨rfl,a,x,b,c,d,e,po,ls,rfl,S,ow,hch,hl⟩
  simp only [a0r,a0s,a0g,a0q,bs,a0j]
  have hsl:=a2g (n:=3) ow (Nat.le_refl _) (fun a _=>a5p _ g _ a)
  obtain ⟨h',hs,hcd,hsm⟩:=S.scope rfl (a1K hsl fun a _=>b0r _ a)
  rw [hs]
  exact .some ⟨hcd,hsm,ls,po,hsl,hch,by omega,by omega⟩
def MF (l:List (Str × Str)):Prop:=(l.map (·.1)).Sublist lt98_17∧∀ p∈l,p.2∈lt98_18
theorem m41 {h:Hp} {o:Nat} (hc:CM h o):∃ x h',R c8E [.ptr o 0 0] h=some (x,h')∧CM h' o∧Same o h h'∧∃ l,SlOf 2 fld l x∧MF l:=by
 suffices Wp (R c8E [.ptr o 0 0] h) (fun p=>CM p.2 o∧Same o h p.2∧∃ l,SlOf 2 fld l p.1∧MF l) by
  obtain ⟨⟨x,h'⟩,h1,h2⟩:=this
  exact ⟨x,h',h1,h2⟩
 rw [e41]
 simp only [F41,bs,d7c,b5I,d2j,d7i,b2H]
 refine Wp.loop (fun k ds g=>∃ x a b c,∃ (i:Nat) (l:List (Str × Str)),ds=[x,a,.int .i64 i,b,c]∧Sm h o g∧k+i=4∧Own g h.length a0x 2 (l.map fld) x∧(l.map (·.1)).Sublist (lt98_17.take i)∧∀ p∈l,p.2∈lt98_18)
  (fun r=>r.1 = .ext 0∧∃ x a b c d l,r.2.1=[x,a,b,c,d]∧Sm h o r.2.2∧Own r.2.2 h.length a0x 2 (l.map fld) x∧MF l) 4 ⟨.nils,.any,.any,.any,0,[],rfl,.refl hc,rfl,Own.nils _ _ _ _,by simp,by simp⟩ ?_ ?_
 ·rintro k ds g ⟨x,a,b,c,i,l,rfl,S,hk,ow,hsub,hv⟩
  have hw:IntKind.wrap .i64 ((i:Int)+1)=(i+1:Nat):=by
   rw [wrap_i64 (by omega) (by omega)];omega
  simp only [c1o,a0g,a0q,bs,d7c,a0n]
  refine Wp.dif ?_ ?_
  ·intro h0
   have h0:i<4:=dl_ h0
   have hg:lt98_17[i]?=some lt98_17[i]:=d7r h0
   simp only [d3S,Int.natCast_nonneg,if_true,d7l,d7p,hg,Option.map_some,bs,ld9]
   obtain ⟨v,h1,e1,c1,s1,v0,v1⟩:=m39 S.cd 3 (by omega) (by omega)
   have S1:=S.next c1 s1
   replace ow:=ow.same s1 hc.lt
   refine Wp.step e1 ?_
   simp only [a0u,bs]
   refine Wp.join (P:=fun r=>∃ x g,∃ l:List (Str × Str),r=(.nrm,[x],g)∧Sm h o g∧Own g h.length a0x 2 (l.map fld) x∧(l.map (·.1)).Sublist (lt98_17.take (i+1))∧∀ p∈l,p.2∈lt98_18) ?_ ?_ ?_
   ·intro _
    simp only [b5J,bs]
    refine a2X S1.cd lt98_18 8 (by decide) (by decide) (by decide) fun u g2 c2 s2 hu _=>?_
    have S2:=S1.next c2 s2
    replace ow:=ow.same s2 hc.lt
    simp only [bs,b0M,c1u]
    have hll:l.length≤4:=by
     have:=hsub.length_le
     simp at this
     omega
    refine b6k S2.le ow (a1d _ _ _ _) (by simp;omega) fun x' g' ow len bel _ _=>?_
    simp only [bs]
    refine .some ⟨x',g',l++[(lt98_17[i],u)],rfl,S2.app len bel,by rw [d7j];exact ow,?_,?_⟩
    ·rw [d7o,hg,d7j]
     exact hsub.append (List.Sublist.refl _)
    ·intro p hp
     rcases d7y.1 hp with hp | hp
     ·exact hv p hp
     ·simp at hp;subst hp;exact hu
   ·intro _
    refine .some ⟨_,_,l,rfl,S1,ow,hsub.trans ?_,hv⟩
    rw [d7o]
    exact List.sublist_append_left _ _
   ·rintro _ ⟨x,g,l,rfl,S,ow,hsub,hv⟩
    simp only [a2p,a0s,a0g,a0t,bs,hw]
    exact .some (.inl ⟨rfl,k - 1,by omega,x,_,_,_,i+1,l,rfl,S,by omega,ow,hsub,hv⟩)
  ·intro h0
   have h0:¬ i<4:=by
    have:¬ (i:Int)<4:=by simpa using h0
    omega
   refine .some (.inr ⟨by simp,rfl,x,_,_,_,_,l,rfl,S,ow,hsub.trans (List.take_sublist _ _),hv⟩)
 ·rintro ⟨x,ds,g⟩ ⟨rfl,x,a,b,c,d,l,rfl,S,ow,hl⟩
  simp only [a0r,a0s,a0g,bs,a0j]
  have hsl:=a2g (n:=3) ow (Nat.le_refl _) (fun a _=>b0j _ g _ a)
  obtain ⟨h',hs,hcd,hsm⟩:=S.scope rfl (a1K hsl fun a _=>b3X _ a)
  exact ⟨_,hs,hcd,hsm,l,hsl,hl⟩
structure EvM (e:Ev):Prop where
 h0:0≤e.a0
 h2:e.a0≤2
 f0:0≤e.a1
 f2:e.a1≤2
 a0:0≤e.a2
 a9:e.a2≤100
 ch:mch e.a2 e.ls e.a3
 l1:1≤e.ls.length
 l3:e.ls.length≤3
 t0:0≤e.a5
 t9:e.a5≤255000
 wt:e.a6∈lt82_14
 tr:e.s7∈lt98_15
 st:e.s8∈lt98_16
 fs:MF e.fs
theorem m12 {h:Hp} {o:Nat} (hc:CM h o):∃ e h',R c8D [.ptr o 0 0] h=some (.agg (evr e),h')∧CM h' o∧Same o h h'∧EvM e:=by
 suffices Wp (R c8D [.ptr o 0 0] h) (fun p=>∃ e,p.1 = .agg (evr e)∧CM p.2 o∧Same o h p.2∧EvM e) by
  obtain ⟨⟨x,h'⟩,h1,e,rfl,h2⟩:=this
  exact ⟨e,h',h1,h2⟩
 have ho:=hc.lt
 rw [e12]
 simp only [F12,bs,d7c,b5E,b5G,b5H]
 generalize hg0:a0H h a0E 10 [[.int .i64 0,.int .i64 0,.int .i64 0,.int .i64 0,.nils,.int .i64 0,.int .i64 0,.str [],.str [],.nils]]=g0
 have p0:g0[h.length]?=some (.row a0E 10 [[.int .i64 0,.int .i64 0,.int .i64 0,.int .i64 0,.nils,.int .i64 0,.int .i64 0,.str [],.str [],.nils]]):=by rw [← hg0];exact a4Z _ _ _ _
 have S0:Sm h o g0:=(Sm.refl hc).app (by rw [← hg0,a2C];omega) fun q hq=>by rw [← hg0];exact a5a _ _ _ _ hq
 have hl0:g0.length=h.length+1:=by rw [← hg0];exact a2C _ _ _ _
 clear hg0
 obtain ⟨v1,g1,e1,c1,s1,a1,b1⟩:=m39 S0.cd 3 (by omega) (by omega)
 refine Wp.step e1 ?_;clear e1;simp only [bs]
 obtain ⟨v2,g2,e2,c2,s2,a2,b2⟩:=m39 c1 3 (by omega) (by omega)
 refine Wp.step e2 ?_;clear e2;simp only [bs]
 obtain ⟨v3,g3,e3,c3,s3,a3,b3⟩:=m39 c2 6 (by omega) (by omega)
 refine Wp.step e3 ?_;clear e3
 simp only [bs,a2D,wrap_i64 (n:=10*v3) (by omega) (by omega)]
 obtain ⟨v4,g4,e4,c4,s4,a4,b4⟩:=m39 c3 256 (by omega) (by omega)
 refine Wp.step e4 ?_;clear e4
 simp only [bs,a2D,wrap_i64 (n:=1000*v4) (by omega) (by omega)]
 obtain ⟨v5,g5,e5,c5,s5,a5,b5⟩:=m39 c4 4 (by omega) (by omega)
 obtain ⟨wt,hwt,hg5⟩:=b8t lt82_14 v5 a5 b5
 refine Wp.step e5 ?_;clear e5
 simp only [bs,d3R,a5,if_true,d7p,hg5,Option.map_some,ld3]
 refine a2X c5 lt98_15 8 (by decide) (by decide) (by decide) fun tr g6 c6 s6 htr _=>?_
 simp only [bs]
 refine a2X c6 lt98_16 8 (by decide) (by decide) (by decide) fun sm g7 c7 s7 hsm _=>?_
 simp only [bs]
 obtain ⟨y,g8,e8,c8,s8,fs,hy,hfs⟩:=m41 c7
 refine Wp.step e8 ?_;clear e8
 have hy1:=a1v hy
 simp only [bs,a5x _ _ _ _ _ _ _ y hy1,a1H]
 have sa:=((((((s1.trans s2).trans s3).trans s4).trans s5).trans s6).trans s7).trans s8
 have S8:=S0.next c8 sa
 replace p0:=(sa.2 h.length (by omega)).trans p0
 have hl8:g8.length=h.length+1:=sa.1.trans hl0
 clear S0 c1 c2 c3 c4 c5 c6 c7 s1 s2 s3 s4 s5 s6 s7 s8 sa
 generalize hg9:a0H g8 a0E 10 [[.int .i64 0,.int .i64 0,.int .i64 0,.int .i64 0,.nils,.int .i64 0,.int .i64 0,.str [],.str [],.nils]]=g9
 have p9:g9[g8.length]?=some (.row a0E 10 [[.int .i64 0,.int .i64 0,.int .i64 0,.int .i64 0,.nils,.int .i64 0,.int .i64 0,.str [],.str [],.nils]]):=by rw [← hg9];exact a4Z _ _ _ _
 have hb9:∀ q,q<g8.length→g9[q]?=g8[q]?:=fun q hq=>by rw [← hg9];exact a5a _ _ _ _ hq
 have hl9:g9.length=g8.length+1:=by rw [← hg9];exact a2C _ _ _ _
 clear hg9
 refine b2X p9 (by rfl) (by rfl) (by simp) (by rfl) fun g10 p10 sg=>?_
 replace p10:g10[g8.length]?=some (.row a0E 10 [[.int .i64 v1,.int .i64 v2,.int .i64 (10*v3),.int .i64 0,.nils,.int .i64 (1000*v4),.int .i64 wt,.str tr,.str sm,y]]):=p10
 have hb10:∀ q,q<g8.length→g10[q]?=g8[q]?:=fun q hq=>(sg.2 q (by omega)).trans (hb9 q hq)
 have hl10:g10.length=h.length+2:=by have:=sg.1;omega
 have S10:=S8.app (by omega) fun q hq=>hb10 q (by omega)
 replace p0:=(hb10 h.length (by omega)).trans p0
 rw [hl8] at p10 ⊢
 clear p9 hb9 hl9 sg hb10 S8 c8 hl8
 have r10:g10.row (h.length+1) 0=some [.int .i64 v1,.int .i64 v2,.int .i64 (10*v3),.int .i64 0,.nils,.int .i64 (1000*v4),.int .i64 wt,.str tr,.str sm,y]:=a0I p10
 simp only [bs,a4m,Nat.zero_add,a6R,r10,List.drop_succ_cons,List.drop_zero,List.head?_cons]
 obtain ⟨z,g11,e11,c11,s11,ls,b,hz,hch,hl1,hl3⟩:=m42 S10.cd (10*v3) (by omega) (by omega) 3 (by omega) (by omega)
 refine Wp.step e11 ?_;clear e11 r10
 have S11:=S10.next c11 s11
 replace p10:=(s11.2 (h.length+1) (by omega)).trans p10
 replace p0:=(s11.2 h.length (by omega)).trans p0
 have hl11:g11.length=h.length+2:=s11.1.trans hl10
 have oz:=a0z (a1v hz)
 simp only [bs,a3p,Nat.zero_add]
 refine b1Z p10 (by rfl) (by rw [oz.1];rfl) (by simp) oz.2 fun g12 p12 sg=>?_
 rw [oz.1] at p12
 replace p12:g12[h.length+1]?=some (.row a0E 10 [[.int .i64 v1,.int .i64 v2,.int .i64 (10*v3),.int .i64 0,z,.int .i64 (1000*v4),.int .i64 wt,.str tr,.str sm,y]]):=p12
 have S12:=S11.app (Nat.le_of_eq sg.1.symm) fun q hq=>sg.2 q (by omega)
 replace p0:=(sg.2 h.length (by omega)).trans p0
 have hl12:g12.length=h.length+2:=sg.1.trans hl11
 clear S10 S11 p10 sg s11 c11 hl11 hl10
 have r12:g12.row (h.length+1) 0=some [.int .i64 v1,.int .i64 v2,.int .i64 (10*v3),.int .i64 0,z,.int .i64 (1000*v4),.int .i64 wt,.str tr,.str sm,y]:=a0I p12
 have hcl:=a5G _ _ _ hch
 have hls:∃ l,ls[((ls.length:Int) - 1).toNat]?=some l∧l.off+l.len=b:=by
  clear hcl hz
  have key:∀ (ls:List Lin) (a b:Int),mch a ls b→1≤ls.length→∃ l,ls[ls.length - 1]?=some l∧l.off+l.len=b:=by
   intro ls
   induction ls with
   | nil=>intro a b _ hh;simp at hh
   | cons x r ih =>
    intro a b hm _
    cases r with
    | nil =>
     have h5:a+x.len=b:=hm.2.2.2.2
     exact ⟨x,rfl,by rw [hm.1];exact h5⟩
    | cons x2 r =>
     obtain ⟨l,h1,h2⟩:=ih _ b hm.2.2.2.2 (by simp)
     exact ⟨l,by simpa using h1,h2⟩
  obtain ⟨l,h1,h2⟩:=key ls _ b hch hl1
  exact ⟨l,by rw [show ((ls.length:Int) - 1).toNat=ls.length - 1 by omega];exact h1,h2⟩
 obtain ⟨l,hgl,hlb⟩:=hls
 have hw1:=wrap_i64 (n:=(ls.length:Int) - 1) (by omega) (by omega)
 have hw2:=wrap_i64 (n:=b) (by omega) (by omega)
 have hnn:(0:Int)≤(ls.length:Int) - 1:=by omega
 have hbx:a3s 3 (.agg (a1p l))=some (.fptr (a1p l)):=a1T 3 _ rfl
 simp only [bs,b2B,r12,List.drop_succ_cons,List.drop_zero,List.head?_cons,a2P hz,a0D,hw1,a8e hz,hnn,if_true,hgl,Option.map_some,a8k,hbx]
 simp only [a1p,c1y,c1z,ld3,bs,a0t,hlb,hw2,a3R,Nat.zero_add]
 refine b0H p12 (by rfl) (by rfl) (by simp) (by rfl) fun g13 p13 sg=>?_
 replace p13:g13[h.length+1]?=some (.row a0E 10 [[.int .i64 v1,.int .i64 v2,.int .i64 (10*v3),.int .i64 b,z,.int .i64 (1000*v4),.int .i64 wt,.str tr,.str sm,y]]):=p13
 have S13:=S12.app (Nat.le_of_eq sg.1.symm) fun q hq=>sg.2 q (by omega)
 replace p0:=(sg.2 h.length (by omega)).trans p0
 clear p12 sg S12
 simp only [bs,c8O p13 rfl]
 refine b2X p0 (by rfl) (by rfl) (by simp) (by rfl) fun g14 p14 sg=>?_
 replace p14:g14[h.length]?=some (.row a0E 10 [[.int .i64 v1,.int .i64 v2,.int .i64 (10*v3),.int .i64 b,z,.int .i64 (1000*v4),.int .i64 wt,.str tr,.str sm,y]]):=p14
 have S14:=S13.app (Nat.le_of_eq sg.1.symm) fun q hq=>sg.2 q (by omega)
 simp only [bs,c8O p14 rfl,a0j]
 have hfl:fs.length≤4:=by
  have:=hfs.1.length_le
  simpa using this
 generalize hE:(⟨v1,v2,10*v3,b,ls,z,1000*v4,wt,tr,sm,fs,y,hy,by omega,hz,by omega⟩:Ev)=E
 have hEr:evr E=[.int .i64 v1,.int .i64 v2,.int .i64 (10*v3),.int .i64 b,z,.int .i64 (1000*v4),.int .i64 wt,.str tr,.str sm,y]:=by rw [← hE];rfl
 have hEM:EvM E:=by rw [← hE];exact ⟨a1,by show v1≤2;omega,a2,by show v2≤2;omega,by show 0≤10*v3;omega,by show 10*v3≤100;omega,hch,hl1,hl3,by show 0≤1000*v4;omega,by show 1000*v4≤255000;omega,hwt,htr,hsm,hfs⟩
 rw [← hEr]
 obtain ⟨h',hsc,hcd,hsm2⟩:=S14.scope (d := .agg (evr E)) (d' := .agg (evr E)) (by
  rw [b0l,a3m fun d hd=>b7d h.length g14 2 E d hd]) (.agg _ fun d hd=>c1x _ E d hd)
 rw [hsc]
 exact .some ⟨E,rfl,hcd,hsm2,hEM⟩
theorem c4f (n lo hi:Int) (h:Hp):R a8Z [.int .i64 n,.int .i64 lo,.int .i64 hi] h=some (.bool (decide (lo≤n)&&decide (n≤hi)),h):=by
 rw [c9T]
 by_cases h1:lo≤n <;> simp [-bind_some, c5h,h1]
def plB (e:Ev):Bool:=(decide (0≤e.a0)&&decide (e.a0≤999))&&((decide (0≤e.a1)&&decide (e.a1≤2147483646))&&(decide (0≤e.a2)&&(decide (e.a2<e.a3)&&decide (e.a3≤60000))))
theorem c8a (e:Ev) (h:Hp):R b4d [.agg (evr e)] h=some (.bool (plB e),h):=by
 rw [c9P]
 have k2:=c4f e.a1 0 2147483646 h
 simp only [c5d,bs,a1M,evr,a5C,a5D,a4B,a2u,ld3,c4f e.a0,a3x,a0u,a1S,plB]
 generalize (decide (0≤e.a0)&&decide (e.a0≤999))=b1
 generalize (decide (0≤e.a1)&&decide (e.a1≤2147483646))=b2 at k2 ⊢
 generalize h3:decide (0≤e.a2)=b3
 generalize h4:decide (e.a2<e.a3)=b4
 generalize h5:decide (e.a3≤60000)=b5
 cases b1 <;> cases b2 <;> cases b3 <;> cases b4 <;> cases b5 <;> simp [-bind_some, k2,h3,h4,h5]
def lnE (to_ most:Int):Int→List Lin→Int
 | _,[]=>0
 | at_,l::r=>if l.off=at_∧¬ l.len<1∧¬ IntKind.wrap .i64 (to_ - at_)<l.len∧¬ (r=[]∧l.len<IntKind.wrap .i64 (to_ - at_)) then (if most<l.txt.length then 3 else lnE to_ most (IntKind.wrap .i64 (at_+l.len)) r) else 19
def a2m (e:Ev) (most:Int):Int:=if e.ls.length=0 then 9 else if 40<e.ls.length then 4 else lnE e.a3 most e.a2 e.ls
theorem c8b (e:Ev) (m:Int) (h:Hp):R b4e [.agg (evr e),.int .i64 m] h=some (.int .i64 (a2m e m),h):=by
 apply Wp.val
 have sc:∀ (g:Hp) (v:Int),h.length≤g.length→(∀ q,q<h.length→g[q]?=h[q]?)→scope h g (.int .i64 v)=some (.int .i64 v,h):=fun g v h1 h2=>a1n (by simp) (.int _ _) h1 h2
 rw [c9Q]
 simp only [c5e,a1M,bs,d7c,evr,a6n,a4B,a9i,ld3,a2P e.hld,a0Q,a0u,a0j]
 by_cases g0:e.ls.length=0
 ·have g0':(e.ls.length:Int)=0:=by omega
  simp only [g0',decide_true,a0d,if_true,sc h _ (Nat.le_refl _) (fun _ _=>rfl)]
  exact .some (by simp [-bind_some, a2m,g0])
 by_cases g4:40<e.ls.length
 ·have g0':¬ (e.ls.length:Int)=0:=by omega
  have g4':(40:Int)<(e.ls.length:Int):=by omega
  simp only [g0',g4',decide_true,decide_false,d7d,if_false,a0d,if_true,sc h _ (Nat.le_refl _) (fun _ _=>rfl)]
  exact .some (by simp [-bind_some, a2m,g0,g4])
 have g0':¬ (e.ls.length:Int)=0:=by omega
 have g4':¬ (40:Int)<(e.ls.length:Int):=by omega
 have hE:a2m e m=lnE e.a3 m e.a2 e.ls:=by simp [-bind_some, a2m,g0,g4]
 rw [hE]
 generalize hV:lnE e.a3 m e.a2 e.ls=V
 simp only [g0',g4',decide_true,decide_false,d7d,if_false,a0d,if_true]
 refine Wp.loop (fun k ds g=>h.length≤g.length∧(∀ q,q<h.length→g[q]?=h[q]?)∧∃ a b c d f u v,∃ at_:Int,∃ i:Nat,ds=[a,.int .i64 at_,b,c,d,.int .i64 i,f,u,v]∧k+i=e.ls.length∧lnE e.a3 m at_ (e.ls.drop i)=V)
   (fun x=>h.length≤x.2.2.length∧(∀ q,q<h.length→x.2.2[q]?=h[q]?)∧((x.1 = .ext 1∧V=0)∨(x.1 = .ret∧nth 0 x.2.1 = .int .i64 V))) e.ls.length ⟨Nat.le_refl _,fun _ _=>rfl,_,_,_,_,_,_,_,_,0,rfl,rfl,hV⟩ ?_ ?_
 ·rintro k ds g ⟨hgl,hgb,a,b,c,d,f,u,v,at_,i,rfl,hk,hch⟩
  simp only [b3c,a0g,a0q,bs,d7c,a6n,a2u,a9i,ld3,a2P e.hld,a0n]
  refine Wp.dif ?_ ?_
  ·intro h0
   have h0:i<e.ls.length:=dl_ h0
   have hg:e.ls[i]?=some e.ls[i]:=d7r h0
   have hw:=wi_ i (by omega)
   have hw4:IntKind.wrap .i64 ((e.ls.length:Int) - 1)=(e.ls.length:Int) - 1:=wrap_i64 (by omega) (by omega)
   have hlast:(e.ls.drop (i+1)=[])↔(i:Int)=(e.ls.length:Int) - 1:=by
    rw [List.drop_eq_nil_iff];omega
   rw [List.drop_eq_getElem_cons h0] at hch
   generalize e.ls[i]=x at hg hch
   generalize hrest:e.ls.drop (i+1)=rest at hch hlast
   simp only [a8e e.hld,Int.natCast_nonneg,if_true,d7l,hg,Option.map_some,bs,a8k]
   generalize hg2:a0H g a1o 3 [[.int .i64 0,.int .i64 0,.str []]]=g2
   have p1:g2[g.length]?=some (.row a1o 3 [[.int .i64 0,.int .i64 0,.str []]]):=by rw [← hg2];exact a4Z _ _ _ _
   have hb2:∀ q,q<g.length→g2[q]?=g[q]?:=fun q hq=>by rw [← hg2];exact a5a _ _ _ _ hq
   have hl2:g2.length=g.length+1:=by rw [← hg2];exact a2C _ _ _ _
   clear hg2
   refine c8y p1 (by rfl) (by rfl) (by simp) (by rfl) fun g3 p3 sg=>?_
   replace p3:g3[g.length]?=some (.row a1o 3 [a1p x]):=p3
   have hgl3:h.length≤g3.length:=by have:=sg.1;omega
   have hgb3:∀ q,q<h.length→g3[q]?=h[q]?:=fun q hq=>((sg.2 q (by omega)).trans (hb2 q (by omega))).trans (hgb q hq)
   clear p1 hb2 hl2 sg hgb
   have r3:g3.row g.length 0=some [.int .i64 x.off,.int .i64 x.len,.str x.txt]:=a0I p3
   simp only [bs,a3g,a3h,a3q,Nat.zero_add,a6R,b2C,r3,List.drop_succ_cons,List.drop_zero,List.head?_cons,a0D,hw4,a0Q,a0w,a4W,a0u,a0n]
   unfold lnE at hch
   by_cases q1:x.off=at_
   ·by_cases q2:x.len<1
    ·rw [if_neg (fun hh=>hh.2.1 q2)] at hch
     simp only [q1,q2,ne_eq,not_true,decide_false,decide_true,a0o,if_true,if_false,d7d,reduceCtorEq,bs,a0e,a0d,a2u,ld3,a3g,a3h,a3q,Nat.zero_add,a6R,b2C,r3,List.drop_succ_cons,List.drop_zero,List.head?_cons,a0D,hw4,a0Q,a0w,a4W,a0u,a0n]
     exact .some (.inr ⟨by simp,hgl3,hgb3,.inr ⟨rfl,by simp [-bind_some, hch]⟩⟩)
    ·by_cases q3:IntKind.wrap .i64 (e.a3 - at_)<x.len
     ·rw [if_neg (fun hh=>hh.2.2.1 q3)] at hch
      simp only [q1,q2,q3,ne_eq,not_true,decide_false,decide_true,a0o,if_true,if_false,d7d,reduceCtorEq,bs,a0e,a0d,a2u,ld3,a3g,a3h,a3q,Nat.zero_add,a6R,b2C,r3,List.drop_succ_cons,List.drop_zero,List.head?_cons,a0D,hw4,a0Q,a0w,a4W,a0u,a0n]
      exact .some (.inr ⟨by simp,hgl3,hgb3,.inr ⟨rfl,by simp [-bind_some, hch]⟩⟩)
     ·by_cases hi:(i:Int)=(e.ls.length:Int) - 1
      ·have hid:decide ((i:Int)=(e.ls.length:Int) - 1)=true:=by simpa using hi
       by_cases q4:x.len<IntKind.wrap .i64 (e.a3 - at_)
       ·rw [if_neg (fun hh=>hh.2.2.2 ⟨hlast.2 hi,q4⟩)] at hch
        simp only [q1,q2,q3,hid,ne_eq,not_true,not_false_eq_true,decide_false,decide_true,a0o,a1q,if_true,if_false,d7d,reduceCtorEq,bs,a0e,a0d,a2u,ld3,a3g,a3h,a3q,Nat.zero_add,a6R,b2C,r3,List.drop_succ_cons,List.drop_zero,List.head?_cons,a0D,hw4,a0Q,a0w,a4W,a0u,a0n,q4]
        exact .some (.inr ⟨by simp,hgl3,hgb3,.inr ⟨rfl,by simp [-bind_some, hch]⟩⟩)
       ·rw [if_pos ⟨q1,q2,q3,fun hh=>q4 hh.2⟩] at hch
        by_cases q5:m<(x.txt.length:Int)
        ·rw [if_pos q5] at hch
         simp only [q1,q2,q3,hid,ne_eq,not_true,not_false_eq_true,decide_false,decide_true,a0o,a1q,if_true,if_false,d7d,reduceCtorEq,bs,a0e,a0d,a2u,ld3,a3g,a3h,a3q,Nat.zero_add,a6R,b2C,r3,List.drop_succ_cons,List.drop_zero,List.head?_cons,a0D,hw4,a0Q,a0w,a4W,a0u,a0n,q4,q5]
         exact .some (.inr ⟨by simp,hgl3,hgb3,.inr ⟨rfl,by simp [-bind_some, hch]⟩⟩)
        ·rw [if_neg q5] at hch
         simp only [q1,q2,q3,hid,ne_eq,not_true,not_false_eq_true,decide_false,decide_true,a0o,a1q,if_true,if_false,d7d,reduceCtorEq,bs,a0e,a0d,a2u,ld3,a3g,a3h,a3q,Nat.zero_add,a6R,b2C,r3,List.drop_succ_cons,List.drop_zero,List.head?_cons,a0D,hw4,a0Q,a0w,a4W,a0u,a0n,q4,q5,a0t,hw]
         exact .some (.inl ⟨rfl,k - 1,by omega,hgl3,hgb3,_,_,_,_,_,_,_,_,i+1,rfl,by omega,by rw [hrest];exact hch⟩)
      ·rw [if_pos ⟨q1,q2,q3,fun hh=>hi (hlast.1 hh.1)⟩] at hch
       have q4:True:=trivial
       by_cases q5:m<(x.txt.length:Int)
       ·rw [if_pos q5] at hch
        simp only [q1,q2,q3,hi,ne_eq,not_true,not_false_eq_true,decide_false,decide_true,a0o,a1q,if_true,if_false,d7d,reduceCtorEq,bs,a0e,a0d,a2u,ld3,a3g,a3h,a3q,Nat.zero_add,a6R,b2C,r3,List.drop_succ_cons,List.drop_zero,List.head?_cons,a0D,hw4,a0Q,a0w,a4W,a0u,a0n,q4,q5]
        exact .some (.inr ⟨by simp,hgl3,hgb3,.inr ⟨rfl,by simp [-bind_some, hch]⟩⟩)
       ·rw [if_neg q5] at hch
        simp only [q1,q2,q3,hi,ne_eq,not_true,not_false_eq_true,decide_false,decide_true,a0o,a1q,if_true,if_false,d7d,reduceCtorEq,bs,a0e,a0d,a2u,ld3,a3g,a3h,a3q,Nat.zero_add,a6R,b2C,r3,List.drop_succ_cons,List.drop_zero,List.head?_cons,a0D,hw4,a0Q,a0w,a4W,a0u,a0n,q4,q5,a0t,hw]
        exact .some (.inl ⟨rfl,k - 1,by omega,hgl3,hgb3,_,_,_,_,_,_,_,_,i+1,rfl,by omega,by rw [hrest];exact hch⟩)
   ·rw [if_neg (fun hh=>q1 hh.1)] at hch
    simp only [q1,ne_eq,not_false_eq_true,decide_false,decide_true,a0o,if_true,if_false,d7d,reduceCtorEq,bs,a0e,a0d,a2u,ld3,a3g,a3h,a3q,Nat.zero_add,a6R,b2C,r3,List.drop_succ_cons,List.drop_zero,List.head?_cons,a0D,hw4,a0Q,a0w,a4W,a0u,a0n]
    exact .some (.inr ⟨by simp,hgl3,hgb3,.inr ⟨rfl,by simp [-bind_some, hch]⟩⟩)
  ·intro h0
   have h0:¬ i<e.ls.length:=by
    have:¬ (i:Int)<e.ls.length:=by simpa using h0
    omega
   rw [List.drop_of_length_le (by omega)] at hch
   exact .some (.inr ⟨by simp,hgl,hgb,.inl ⟨rfl,hch.symm⟩⟩)
 ·rintro ⟨ex,ds,g⟩ ⟨h1,h2,hc⟩
  simp only at h1 h2 hc
  rcases hc with ⟨rfl,rfl⟩ | ⟨rfl,hc⟩
  ·simp only [a0r,a0s,bs,a0j,sc g 0 h1 h2]
   exact .some rfl
  ·simp only [a1O,a1N,a1L,a0g,bs,hc,a0j,sc g V h1 h2]
   exact .some rfl
def dn {α:Type} (c:α→α→Int) (a:Nat):Nat→List α→List α
 | 0,l=>l
 | j+1,l=>match l[j+1]?,l[j]? with
  | some x,some y=>if a<j+1∧c x y<0 then dn c a j ((l.set (j+1) y).set j x) else l
  | _,_=>l
theorem b6S {α:Type} (c:α→α→Int) (a:Nat):∀ (j:Nat) (l:List α),(dn c a j l).length=l.length
 | 0,l=>rfl
 | j+1,l=>by
  unfold dn
  split
  ·split
   ·rw [b6S c a j];simp [-bind_some]
   ·rfl
  ·rfl
def isr {α:Type} (c:α→α→Int) (a:Nat):Nat→Nat→List α→List α
 | _,0,l=>l
 | i,n+1,l=>isr c a (i+1) n (dn c a i l)
theorem b7L {α:Type} (c:α→α→Int) (a:Nat):∀ (n i:Nat) (l:List α),(isr c a i n l).length=l.length
 | 0,i,l=>rfl
 | n+1,i,l=>by
  unfold isr
  rw [b7L c a n,b6S]
theorem a8s {α:Type} (f:α→List D) (l:List α) (i:Nat) (x:α):(l.map f).set i (f x)=(l.set i x).map f:=by rw [List.map_set]
theorem c3x {h:Hp} {q k T z:Nat} {rows:List (List D)} {p:Str × Str} (hq:h[q]?=some (.row T z rows)) (hk:rows[k]?=some (fld p)):a0b tab h a0x (.ptr q k 0)=some (.agg (fld p)):=by
 rw [b4A,a0I hq,hk]
 rfl
theorem d2b (c:Str × Str→Str × Str→Int) (cmp:D) (hc:∀ x y g,a4H R cmp [.agg (fld x),.agg (fld y)] g=some (.int .i64 (c x y),g)) (ob N a:Nat) (hN:N≤1000000000) {β:Type} {K:Out→Option β} {Q:β→Prop}
  (l:List (Str × Str)) (hl:l.length=N) (j:Nat) (hj:j<N) (h:Hp) (ho:h[ob]?=some (.row a0x 2 (l.map fld))) (b:D)
  (k:∀ x y h',h'[ob]?=some (.row a0x 2 ((dn c a j l).map fld))→Same ob h h'→Wp (K (.ext 2,[x,y],h')) Q) :
  Wp ((a0P (a9z (.msl 2 ob 0 N) (.int .i64 a) cmp) [.int .i64 j,b] h).bind K) Q:=by
 generalize hV:dn c a j l=V at k
 refine Wp.loop (fun n ds g=>∃ b,∃ j:Nat,∃ l':List (Str × Str),n=j∧ds=[.int .i64 j,b]∧l'.length=N∧j<N∧g[ob]?=some (.row a0x 2 (l'.map fld))∧Same ob h g∧dn c a j l'=V)
  (fun r=>r.1 = .ext 2∧(∃ x y,r.2.1=[x,y])∧r.2.2[ob]?=some (.row a0x 2 (V.map fld))∧Same ob h r.2.2) j ⟨b,j,l,rfl,rfl,hl,hj,ho,.refl _ _,hV⟩ ?_ ?_
 ·clear ho hl hj hV l j
  rintro n ds g ⟨b,j,l,rfl,rfl,hl,hj,ho,sm,hV⟩
  simp only [a9z,a0g,a0q,bs,d7c,a0u]
  cases n with
  | zero =>
   have hq:¬ (a:Int)<((0:Nat):Int):=by omega
   have hV:l=V:=hV
   subst hV
   simp only [hq,decide_false,a0o,a1g,d7d,if_false,reduceCtorEq,bs,a0e,a0d]
   exact .some (.inr ⟨by simp,rfl,⟨_,_,rfl⟩,ho,sm⟩)
  | succ j =>
   have g1:l[j+1]?=some l[j+1]:=d7r (by omega)
   have g0:l[j]?=some l[j]:=d7r (by omega)
   unfold dn at hV
   rw [g1,g0] at hV
   simp only at hV
   generalize l[j+1]=x at g1 hV
   generalize l[j]=y at g0 hV
   by_cases ha:a<j+1
   ·have ha':(a:Int)<((j+1:Nat):Int):=by omega
    have hw:IntKind.wrap .i64 (((j+1:Nat):Int) - 1)=(j:Int):=by
     rw [wrap_i64 (by omega) (by omega)];omega
    have i1:(0:Int)≤((j+1:Nat):Int)∧((j+1:Nat):Int)<(N:Int):=by omega
    have i0:(0:Int)≤(j:Int)∧(j:Int)<(N:Int):=by omega
    have m1:(l.map fld)[j+1]?=some (fld x):=by rw [d7p,g1];rfl
    have m0:(l.map fld)[j]?=some (fld y):=by rw [d7p,g0];rfl
    simp only [ha',decide_true,a0o,a1g,if_true,a8J,i1,i0,and_self,Nat.zero_add,d7l,a0D,hw,bs,c3x ho m1,c3x ho m0,hc,a0n,a0e]
    by_cases hlt:c x y<0
    ·rw [if_pos ⟨ha,hlt⟩] at hV
     simp only [hlt,decide_true,a0d,if_true]
     refine a5J ho m1 (by rfl) (by simp [-bind_some, fld]) (by rfl) fun g2 p2 s2=>?_
     rw [show spl (fld x) 0 (a0B (.agg (fld y)))=fld y from id rfl,a8s] at p2
     have m2:((l.set (j+1) y).map fld)[j]?=some (fld y):=by
      rw [d7p,d7C (by omega),g0];rfl
     try simp only [bs,i0,and_self,if_true,Nat.zero_add,d7l]
     refine a5J p2 m2 (by rfl) (by simp [-bind_some, fld]) (by rfl) fun g3 p3 s3=>?_
     rw [show spl (fld y) 0 (a0B (.agg (fld x)))=fld x from id rfl,a8s] at p3
     try simp only [bs]
     exact .some (.inl ⟨rfl,j,by omega,_,j,_,rfl,rfl,by simpa using hl,by omega,p3,(sm.trans s2).trans s3,hV⟩)
    ·rw [if_neg (fun hh=>hlt hh.2)] at hV
     subst hV
     simp only [hlt,decide_false,a0d,d7d,if_false]
     exact .some (.inr ⟨by simp,rfl,⟨_,_,rfl⟩,ho,sm⟩)
   ·rw [if_neg (fun hh=>ha hh.1)] at hV
    subst hV
    have ha':¬ (a:Int)<((j+1:Nat):Int):=by omega
    simp only [ha',decide_false,a0o,a1g,d7d,if_false,reduceCtorEq,bs,a0e,a0d]
    exact .some (.inr ⟨by simp,rfl,⟨_,_,rfl⟩,ho,sm⟩)
 ·rintro ⟨x,ds,g⟩ ⟨rfl,⟨u,v,rfl⟩,h1,h2⟩
  exact k u v g h1 h2
theorem d2R (c:Str × Str→Str × Str→Int) (cmp:D) (hc:∀ x y g,a4H R cmp [.agg (fld x),.agg (fld y)] g=some (.int .i64 (c x y),g)) (ob N a b:Nat) (hN:N≤1000000000) (hab:a<b∨(a=b∧b≤N)) (hb:b≤N)
  (l:List (Str × Str)) (hl:l.length=N) (h:Hp) (ho:h[ob]?=some (.row a0x 2 (l.map fld))) :
  ∃ d h',R a7X [.msl 2 ob 0 N,.int .i64 a,.int .i64 b,cmp] h=some (d,h')∧h'[ob]?=some (.row a0x 2 ((isr c a (a+1) (b - (a+1)) l).map fld))∧Same ob h h':=by
 suffices Wp (R a7X [.msl 2 ob 0 N,.int .i64 a,.int .i64 b,cmp] h) (fun p=>p.2[ob]?=some (.row a0x 2 ((isr c a (a+1) (b - (a+1)) l).map fld))∧Same ob h p.2) by
  obtain ⟨⟨x,h'⟩,h1,h2⟩:=this
  exact ⟨x,h',h1,h2⟩
 rw [c6K]
 have hw:=wi_ a (by omega)
 simp only [c2x,bs,d7c,a0t,hw]
 generalize hV:isr c a (a+1) (b - (a+1)) l=V
 refine Wp.loop (fun n ds g=>∃ u v w,∃ i:Nat,∃ l':List (Str × Str),ds=[.int .i64 i,u,v,w]∧n=b - i∧l'.length=N∧g[ob]?=some (.row a0x 2 (l'.map fld))∧Same ob h g∧isr c a i (b - i) l'=V)
  (fun r=>r.1 = .ext 0∧r.2.2[ob]?=some (.row a0x 2 (V.map fld))∧Same ob h r.2.2) (b - (a+1)) ⟨_,_,_,a+1,l,rfl,rfl,hl,ho,.refl _ _,hV⟩ ?_ ?_
 ·rintro n ds g ⟨u,v,w,i,l',rfl,rfl,hl',ho',sm,hV⟩
  simp only [a9y,a0g,a0q,bs,d7c,a0n]
  refine Wp.dif ?_ ?_
  ·intro h0
   have h0:i<b:=by
    have:(i:Int)<(b:Int):=by simpa using h0
    omega
   have hb1:b - i=(b - (i+1))+1:=by omega
   rw [hb1] at hV
   unfold isr at hV
   have hw2:=wi_ i (by omega)
   refine d2b c cmp hc ob N a hN l' hl' i (by omega) g ho' _ fun x y g2 p2 s2=>?_
   simp only [a0r,a2p,a0s,bs,a0g,a0t,hw2]
   exact .some (.inl ⟨rfl,b - (i+1),by omega,_,_,_,i+1,_,rfl,rfl,by rw [b6S];exact hl',p2,sm.trans s2,hV⟩)
  ·intro h0
   have h0:¬ i<b:=by
    have:¬ (i:Int)<(b:Int):=by simpa using h0
    omega
   rw [show b - i=0 by omega] at hV
   have hV:l'=V:=hV
   subst hV
   exact .some (.inr ⟨by simp,rfl,ho',sm⟩)
 ·rintro ⟨x,ds,g⟩ ⟨rfl,h1,h2⟩
  simp only [a0r,a2S,bs]
  exact .some ⟨h1,h2⟩
theorem a9S:∀ (a b:Str),Lib.compareBytes a b<0↔Op.bytesLess a b=true
 | [],[]=>by simp [-bind_some, Lib.compareBytes,Op.bytesLess]
 | [],_::_=>by simp [-bind_some, Lib.compareBytes,Op.bytesLess]
 | _::_,[]=>by simp [-bind_some, Lib.compareBytes,Op.bytesLess]
 | x::a,y::b=>by
  have ih:=a9S a b
  simp only [Lib.compareBytes,Op.bytesLess]
  by_cases h1:x<y
  ·simp [-bind_some, h1]
  ·by_cases h2:y<x
   ·have h3:¬ x=y:=fun hh=>by subst hh;exact h1 h2
    simp [-bind_some, h1,h2,h3]
   ·have h3:x=y:=by
      apply UInt8.toNat_inj.1
      have:=mt UInt8.lt_iff_toNat_lt.2 h1
      have:=mt UInt8.lt_iff_toNat_lt.2 h2
      omega
    subst h3
    simp [-bind_some, h1,ih]
def cF (x y:Str × Str):Int:=Lib.compareBytes x.1 y.1
theorem d2O (a b:Str) (h:Hp):R b7r [.str a,.str b] h=some (.int .i64 (Lib.compareBytes a b),h):=by
 rw [d0a]
 simp only [c5m,bs,d0e,c5q,d6W,a0j]
theorem d2N (x y:Str × Str) (h:Hp):R a7W [.agg (fld x),.agg (fld y)] h=some (.int .i64 (cF x y),h):=by
 rw [c9Z]
 simp only [c5l,bs,a1M,a8X,a8Y,d2O,a0j,cF]
theorem c9k (x y:Str × Str) (h:Hp):a4H R (.fn (.func a7W) [] []) [.agg (fld x),.agg (fld y)] h=some (.int .i64 (cF x y),h):=by
 rw [a6M];exact d2N x y h
theorem ixA (cs:List D) (i:Int) (h0:0≤i) (h1:i<256) (hl:i.toNat<cs.length):a0c tab b5i (.fptr cs) (.int .u8 i)=some (.fptr (cs.drop i.toNat)):=by
 have:=c6Z (T:=tab) (t:=b5i) (n:=256) (z:=1) (i:=b9e) (j:=ti5) (id rfl) (id rfl) (id rfl) (id rfl) (by omega) (cs:=cs) (k := .u8) h0 h1 (by omega)
 rwa [Nat.mul_one] at this
theorem b4z:kinZ.length=256:=by decide
theorem b2x:kin.length=256:=by simp [-bind_some, kin,b4z]
theorem c1H (i:Nat) (hi:i<256):∃ z,kin.drop i = .int .u8 z::kin.drop (i+1)∧kinZ[i]?=some z:=by
 have hl:=b4z
 have hk:=b2x
 refine ⟨kinZ[i]'(by omega),?_,d7r (by omega)⟩
 rw [List.drop_eq_getElem_cons (by omega)]
 simp [-bind_some, kin]
def b7P (z:Int):Bool:=decide (IntKind.wrap .u8 (BitVec.ofInt IntKind.u8.bits z &&& BitVec.ofInt IntKind.u8.bits 2).toNat≠0)
def c7e (z:Int):Bool:=decide (IntKind.wrap .u8 (BitVec.ofInt IntKind.u8.bits z &&& BitVec.ofInt IntKind.u8.bits 3).toNat≠0)
theorem c7d:∀ i:Fin 256,(kinZ[i.val]?).map b7P=some (a4d i.val)∧(kinZ[i.val]?).map c7e=some (b5s i.val||a4d i.val):=by decide
theorem d2Q (c:UInt8) (h:Hp):R b7t [.int .u8 c.toNat] h=some (.bool (a4d c.toNat),h):=by
 have hc:c.toNat<256:=c.toNat_lt
 obtain ⟨z,hz,hg⟩:=c1H c.toNat hc
 have hk:=(c7d ⟨c.toNat,hc⟩).1
 simp only [hg,Option.map_some,Option.some.injEq] at hk
 have hl:=b2x
 rw [d0c]
 simp only [c5o,bs,ixA kin c.toNat (by omega) (by omega) (by rw [hl];simpa using hc),d7l,hz,ld5,b3L,a0w,a0j,← hk,b7P]
theorem c4g (c:UInt8) (h:Hp):R b7u [.int .u8 c.toNat] h=some (.bool (b0G c.toNat),h):=by
 have hc:c.toNat<256:=c.toNat_lt
 obtain ⟨z,hz,hg⟩:=c1H c.toNat hc
 have hk:=(c7d ⟨c.toNat,hc⟩).2
 simp only [hg,Option.map_some,Option.some.injEq] at hk
 have hl:=b2x
 rw [d0d]
 simp only [c7e] at hk
 simp only [c5p,bs,ixA kin c.toNat (by omega) (by omega) (by rw [hl];simpa using hc),d7l,hz,ld5,b3L,a0w,a0Q,b0G,hk]
 cases hq:(b5s c.toNat||a4d c.toNat) <;> simp [-bind_some]
theorem c7j (s:Str) (h:Hp) (ob:Nat) (hob:h[ob]?=some (.row ty5 1 (a1h s))) (hl:s.length≤9223372036854775807) {β:Type} (K:Out→Option β) (X:Bool→Option β) (hh:Hp)
   (hX:∀ r,K (.ret,.bool false::r,h)=X false) (hY:∀ r,K (.ext 0,r,h)=X true):∀ (suf pre:Str),s=pre++suf→∀ a b e f,
   (a0P (a5l (.msl 1 ob 0 s.length,hh) (.int .i64 s.length)) [a,b,.int .i64 pre.length,e,f] h).bind K=X (suf.all a5S):=by
 intro suf
 induction suf with
 | nil =>
  rintro pre rfl a b e f
  rw [a2c]
  simp [-bind_some, a5l,hY]
 | cons p suf ih =>
  rintro pre rfl a b e f
  have hw:IntKind.wrap .i64 ((pre.length:Int)+1)=(pre++[p]).length:=by
   rw [wrap_i64 (by omega) (by simp at hl;omega)];simp [-bind_some]
  have hlt:(pre.length:Int)<(pre++p::suf).length:=by simp;omega
  rw [a2c]
  generalize hL:pre++p::suf=L at *
  have hg:(a1h L)[pre.length]?=some [.int .u8 p.toNat]:=by rw [← hL];simp [-bind_some, a1h]
  have hld:a0b tab h ty5 (.ptr ob pre.length 0)=some (.int .u8 p.toNat):=by
   rw [c8P,a0I hob,hg];rfl
  have h0:(0:Int)≤(pre.length:Int)∧(pre.length:Int)<(L.length:Int):=⟨by omega,hlt⟩
  cases hp:b0G p.toNat
  ·by_cases h46:(p.toNat:Int)=46
   ·have:=ih (pre++[p]) (by simp [-bind_some, ← hL]) a (.int .u8 p.toNat) (.bool true) (.bool false)
    simp only [← hw] at this
    have h47:b0G 46=false:=rfl
    have hs:=c4g p h
    rw [hp] at hs
    have hpn:a5S p=true:=by simp [-bind_some, a5S,hp,h46]
    have hn:decide ((p.toNat:Int)≠46)=false:=by simp [-bind_some, h46]
    simp only [a5l,a0g,a0q,bs,a0n,hlt,decide_true,a0d,if_true,b5C,h0,and_self,Nat.zero_add,d7l,hld,hs,a1C,d7n,a0o,a0w,hn,a0e,d7d,if_false,a0t,List.all_cons,hpn,Bool.true_and]
    exact this
   ·have hs:=c4g p h
    rw [hp] at hs
    have hpn:a5S p=false:=by simp [-bind_some, a5S,hp,h46]
    have hn:decide ((p.toNat:Int)≠46)=true:=by simp [-bind_some, h46]
    simp only [a5l,a0g,a0q,bs,a0n,hlt,decide_true,a0d,if_true,b5C,h0,and_self,Nat.zero_add,d7l,hld,hs,a1C,d7n,a0o,a0w,hn,a0e,List.all_cons,hpn,Bool.false_and,hX]
  ·have:=ih (pre++[p]) (by simp [-bind_some, ← hL]) a (.int .u8 p.toNat) (.bool true) (.bool false)
   simp only [← hw] at this
   have hs:=c4g p h
   rw [hp] at hs
   have hpn:a5S p=true:=by simp [-bind_some, a5S,hp]
   simp only [a5l,a0g,a0q,bs,a0n,hlt,decide_true,a0d,if_true,b5C,h0,and_self,Nat.zero_add,d7l,hld,hs,a1C,d7m,a0o,d7d,if_false,reduceCtorEq,a0e,a0t,List.all_cons,hpn,Bool.true_and]
   exact this
theorem d2M (s:Str) (h:Hp):R b7q [.str s] h=some (.bool (a1P s),h):=by
 have sc:∀ (g:Hp) (v:Bool),h.length≤g.length→(∀ q,q<h.length→g[q]?=h[q]?)→scope h g (.bool v)=some (.bool v,h):=fun g v h1 h2=>a1n (by simp) (.bool _) h1 h2
 rw [c9Y]
 cases s with
 | nil =>
  simp only [b5m,bs,a2H,beq_self_eq_true,a0o,a1g,reduceCtorEq,if_false,a0e,if_true,a0d,a0j,d7e,sc h _ (Nat.le_refl _) (fun _ _=>rfl)]
  rfl
 | cons c r =>
  have hne:((c::r:Str)==[])=false:=by simp
  by_cases h32:(32:Int)<((c::r).length:Int)
  ·have hf:a1P (c::r)=false:=by
     have:¬ (c::r).length≤32:=by omega
     simp [-bind_some, a1P]
     intro hh;simp at this;omega
   simp only [b5m,bs,a2H,hne,a0o,a1g,if_true,a4W,a0u,h32,decide_true,reduceCtorEq,if_false,a0e,a0d,a0j,d7e,d7d,a1q,a5Q,sc h _ (Nat.le_refl _) (fun _ _=>rfl),hf]
  ·have hle:(c::r).length≤32:=by omega
   have hi0:=d3l (c::r) 0 c rfl
   have hi0:a4A tab ty9 (.str (c::r)) (.int .i64 0)=some (.int .u8 c.toNat):=hi0
   have hs:=d2Q c h
   have hwb:c2q ty5 h (.str (c::r))=some (.msl 1 h.length 0 (c::r).length,a0H h ty5 1 (a1h (c::r))):=if_pos (a6A (by omega) (by omega))
   have p1:=a4Z h ty5 1 (a1h (c::r))
   have hsc:∀ v,scope h (a0H h ty5 1 (a1h (c::r))) (.bool v)=some (.bool v,h):=fun v=>sc _ _ (by rw [a2C];omega) fun q hq=>a5a _ _ _ _ hq
   have go:∀ (b:Bool),(a4d c.toNat||decide ((c.toNat:Int)=95))=b→a1P (c::r)=(b&&(c::r).all a5S):=fun b hb=>by
    simp only [a1P,hle,decide_true,Bool.true_and,hb]
   cases hq:a4d c.toNat
   ·rw [hq] at hs
    by_cases h95:(c.toNat:Int)=95
    ·have hn95:decide ((c.toNat:Int)≠95)=false:=by simp [-bind_some, h95]
     rw [go true (by simp [-bind_some, hq,h95])]
     simp only [b5m,bs,d7c,a2H,hne,a0o,a1g,if_true,a4W,a0u,h32,decide_false,reduceCtorEq,if_false,a0e,a0d,d7d,hi0,hs,a1C,d7n,a0w,hn95,hwb,a7m]
     have:=c7j (c::r) (a0H h ty5 1 (a1h (c::r))) h.length p1 (by omega) (fun r_1=>(some ((a0T 0 r_1.1),[(nth 0 r_1.2.1),(nth 1 r_1.2.1),(nth 2 r_1.2.1),(nth 3 r_1.2.1),(nth 4 r_1.2.1)],r_1.2.2)).bind fun r_2=>a0Y r_2.1 (scope h r_2.2.2 (.bool true)) fun x=>a0Z x (scope h r_2.2.2 (a0k [nth 0 r_2.2.1]))) (fun b=>some (.bool b,h)) (a0H h ty5 1 (a1h (c::r))) (fun r=>by simp [-bind_some, hsc]) (fun r=>by simp [-bind_some, hsc]) (c::r) [] rfl (.bool false) .any .any .any
     simpa using this
    ·have hn95:decide ((c.toNat:Int)≠95)=true:=by simp [-bind_some, h95]
     rw [go false (by simp [-bind_some, hq,h95])]
     simp only [b5m,bs,a2H,hne,a0o,a1g,if_true,a4W,a0u,h32,decide_false,reduceCtorEq,if_false,a0e,a0d,d7d,hi0,hs,a1C,d7n,a0w,hn95,a0j,sc h _ (Nat.le_refl _) (fun _ _=>rfl),Bool.false_and]
   ·rw [hq] at hs
    rw [go true (by simp [-bind_some, hq])]
    simp only [b5m,bs,d7c,a2H,hne,a0o,a1g,if_true,a4W,a0u,h32,decide_false,reduceCtorEq,if_false,a0e,a0d,d7d,hi0,hs,a1C,d7m,hwb,a7m,a1q]
    have:=c7j (c::r) (a0H h ty5 1 (a1h (c::r))) h.length p1 (by omega) (fun r_1=>(some ((a0T 0 r_1.1),[(nth 0 r_1.2.1),(nth 1 r_1.2.1),(nth 2 r_1.2.1),(nth 3 r_1.2.1),(nth 4 r_1.2.1)],r_1.2.2)).bind fun r_2=>a0Y r_2.1 (scope h r_2.2.2 (.bool true)) fun x=>a0Z x (scope h r_2.2.2 (a0k [nth 0 r_2.2.1]))) (fun b=>some (.bool b,h)) (a0H h ty5 1 (a1h (c::r))) (fun r=>by simp [-bind_some, hsc]) (fun r=>by simp [-bind_some, hsc]) (c::r) [] rfl (.bool false) .any .any .any
    simpa using this
def RdF (h:Hp) (l:List (Str × Str)) (d:D):Prop:=SlOf 2 fld l d∨∃ ob,d = .msl 2 ob 0 l.length∧h[ob]?=some (.row a0x 2 (l.map fld))
theorem b0x {h:Hp} {l:List (Str × Str)} {d:D} (hd:RdF h l d):a0y tab a1e d=some (.int .i64 l.length):=by
 rcases hd with hd | ⟨ob,rfl,_⟩
 ·exact a2w hd
 ·exact c1K _ _ _ _
theorem b1N {h:Hp} {l:List (Str × Str)} {d:D} (hd:RdF h l d) (i:Nat) (p:Str × Str) (hp:l[i]?=some p):∃ q,a0c tab a1e d (.int .i64 i)=some q∧a0b tab h a0x q=some (.agg (fld p)) ∧
  ∃ q0,a0a tab a0x 0 q=some q0∧a0b tab h ty9 q0=some (.str p.1):=by
 have hi:=(d7s.1 hp).1
 rcases hd with hd | ⟨ob,rfl,ho⟩
 ·exact ⟨.fptr (fld p),by rw [a8K hd];simp [-bind_some, hp],b1g p h,.fptr (fld p),a8X p,a8Y p h⟩
 ·have hr:(l.map fld)[i]?=some (fld p):=by rw [d7p,hp];rfl
  have hh:(0:Int)≤(i:Int)∧(i:Int)<(l.length:Int):=by omega
  refine ⟨.ptr ob i 0,by rw [a8J];simp [-bind_some, hh],c3x ho hr,.ptr ob i 0,by rw [a6o],?_⟩
  rw [b2C,a0I ho,hr];rfl
theorem RdF.keep {h h':Hp} {l:List (Str × Str)} {d:D} (hd:RdF h l d) (hk:∀ (q T z:Nat) (rows:List (List D)),h[q]?=some (Ob.row T z rows)→h'[q]?=h[q]?):RdF h' l d:=by
 rcases hd with hd | ⟨ob,rfl,ho⟩
 ·exact .inl hd
 ·exact .inr ⟨ob,rfl,by rw [hk ob _ _ _ ho];exact ho⟩
theorem d3y (l:List (Str × Str)) (d:D) (h:Hp) (hd:SlOf 2 fld l d) (hl:l.length≤1000000):∃ d' h',R b7h [d] h=some (d',h')∧h.length≤h'.length∧(∀ q,q<h.length→h'[q]?=h[q]?) ∧
  ((l=[]∧SlOf 2 fld [] d')∨∃ ob,h.length≤ob∧d' = .msl 2 ob 0 l.length∧h'[ob]?=some (.row a0x 2 (l.map fld))):=by
 rw [c9C]
 rcases hd with ⟨rfl,rfl⟩ | ⟨b,rfl⟩
 ·exact ⟨.nils,h,by
    have hne:a0m tab .eql a1e .nils .nils=some (.bool true):=id rfl
    simp [-bind_some, c2s,hne],Nat.le_refl _,fun _ _=>rfl,.inl ⟨rfl,.nils _ _⟩⟩
 ·obtain ⟨x',h',e,hl',hq,ho⟩:=b9y (T:=tab) (t:=a1e) (i:=c8U) (j:=ti109) (h:=h) (id rfl) (id rfl) (id rfl) (by decide) (y := .sl 2 b (l.map fld)) (a1d _ _ _ _) (a6A (by have:ti109.by_=32:=rfl;rw [this,d7i];omega) (by rw [d7i];omega))
  have e':a0F tab h a1e a1e (.sl 2 true []) (.sl 2 b (l.map fld))=some (x',h'):=e
  have hne:a0m tab .eql a1e (.sl 2 b (l.map fld)) .nils=some (.bool false):=id rfl
  refine ⟨x',h',?_,hl',hq,?_⟩
  ·simp only [c2s,bs,hne,a0d,d7d,if_false,c6t,e',a0j]
  ·rcases ho with ⟨rfl,hn⟩ | ⟨rfl,hn⟩ | ⟨ob,h1,rfl,h2⟩
   ·have:l=[]:=by simpa using hn
    exact .inl ⟨this,.inr ⟨true,rfl⟩⟩
   ·have:l=[]:=by simpa using hn
    exact .inl ⟨this,.nils _ _⟩
   ·exact .inr ⟨ob,h1,by rw [d7i];rfl,h2⟩
def srt (l:List (Str × Str)):List (Str × Str):=isr cF 0 1 (l.length - 1) l
theorem b8Y (l:List (Str × Str)):(srt l).length=l.length:=b7L _ _ _ _ _
def a8E:List (Str × Str)→Bool
 | x::y::r=>y.1==x.1||a8E (y::r)
 | _=>false
def a1W (l:List (Str × Str)):Int × List (Str × Str):=if 32<l.length then (4,[]) else if l.all (fun p=>a1P p.1)=true then (if a8E (srt l)=true then (7,[]) else (0,srt l)) else (6,[])
theorem c7h (l:List (Str × Str)) (d:D) (h:Hp) (hd:SlOf 2 fld l d) (hl:l.length≤1000) {β:Type} {K:Out→Option β} {Q:β→Prop} (a b c e f:D)
  (k1:l.all (fun p=>a1P p.1)=true→∀ x y z w,Wp (K (.ext 0,[a,b,x,y,z,w],h)) Q) (k2:¬ l.all (fun p=>a1P p.1)=true→∀ x y z w,Wp (K (.ret,[.nils,.int .i64 6,x,y,z,w],h)) Q) :
  Wp ((a0P (a9u d (.int .i64 l.length)) [a,b,c,.int .i64 0,e,f] h).bind K) Q:=by
 generalize hV:l.all (fun p=>a1P p.1)=V at k1 k2
 refine Wp.loop (fun k ds g=>g=h∧∃ c e f,∃ i:Nat,ds=[a,b,c,.int .i64 i,e,f]∧k+i=l.length∧(l.drop i).all (fun p=>a1P p.1)=V)
   (fun x=>x.2.2=h∧((x.1 = .ext 0∧V=true∧∃ p q r s,x.2.1=[a,b,p,q,r,s])∨(x.1 = .ret∧V=false∧∃ p q r s,x.2.1=[.nils,.int .i64 6,p,q,r,s]))) l.length ⟨rfl,_,_,_,0,rfl,rfl,hV⟩ ?_ ?_
 ·rintro k ds g ⟨rfl,c,e,f,i,rfl,hk,hch⟩
  simp only [a9u,a0g,a0q,bs,d7c,a0n]
  refine Wp.dif ?_ ?_
  ·intro h0
   have h0:i<l.length:=dl_ h0
   have hg:l[i]?=some l[i]:=d7r h0
   have hw:=wi_ i (by omega)
   rw [List.drop_eq_getElem_cons h0] at hch
   generalize l[i]=x at hg hch
   have hbx:a3s 2 (.agg (fld x))=some (.fptr (fld x)):=a1T 2 _ rfl
   simp only [a8K hd,Int.natCast_nonneg,if_true,d7l,hg,Option.map_some,bs,b1g,hbx,a8X x,a8Y,d2M,a1C]
   simp only [List.all_cons] at hch
   cases hf:a1P x.1
   ·rw [hf] at hch
    simp only [d7n,a0d,if_true]
    exact .some (.inr ⟨by simp,rfl,.inr ⟨rfl,hch.symm,_,_,_,_,rfl⟩⟩)
   ·rw [hf] at hch
    simp only [d7m,a0d,d7d,if_false,a0t,bs,hw]
    exact .some (.inl ⟨rfl,k - 1,by omega,rfl,_,_,_,i+1,rfl,by omega,hch⟩)
  ·intro h0
   have h0:l.length≤i:=by
    have:¬ (i:Int)<l.length:=by simpa using h0
    omega
   rw [List.drop_of_length_le h0] at hch
   exact .some (.inr ⟨by simp,rfl,.inl ⟨rfl,hch.symm,_,_,_,_,rfl⟩⟩)
 ·rintro ⟨x,ds,g⟩ ⟨h2,h3⟩
  simp only at h2 h3
  subst h2
  rcases h3 with ⟨rfl,hv,p,q,r,s,rfl⟩ | ⟨rfl,hv,p,q,r,s,rfl⟩
  ·exact k1 hv _ _ _ _
  ·exact k2 (by rw [hv];simp [-bind_some]) _ _ _ _
theorem c7i (l:List (Str × Str)) (d:D) (h:Hp) (hd:RdF h l d) (hl:l.length≤1000) {β:Type} {K:Out→Option β} {Q:β→Prop} (a b c e:D)
  (k1:a8E l=false→∀ x y z,Wp (K (.ext 2,[a,b,x,y,z],h)) Q) (k2:a8E l=true→∀ x y z,Wp (K (.ret,[.nils,.int .i64 7,x,y,z],h)) Q) :
  Wp ((a0P (a9v d) [a,b,.int .i64 1,c,e] h).bind K) Q:=by
 generalize hV:a8E l=V at k1 k2
 refine Wp.loop (fun k ds g=>g=h∧∃ c e,∃ i:Nat,ds=[a,b,.int .i64 ((i+1:Nat):Int),c,e]∧k=l.length - i∧a8E (l.drop i)=V)
   (fun x=>x.2.2=h∧((x.1 = .ext 2∧V=false∧∃ p q r,x.2.1=[a,b,p,q,r])∨(x.1 = .ret∧V=true∧∃ p q r,x.2.1=[.nils,.int .i64 7,p,q,r]))) l.length ⟨rfl,_,_,0,rfl,rfl,hV⟩ ?_ ?_
 ·rintro k ds g ⟨rfl,c,e,i,rfl,hk,hch⟩
  simp only [a9v,a0g,a0q,bs,d7c,b0x hd,a0n]
  refine Wp.dif ?_ ?_
  ·intro h0
   have h0:i+1<l.length:=by
    have:((i+1:Nat):Int)<l.length:=by simpa using h0
    omega
   have g1:l[i+1]?=some l[i+1]:=d7r h0
   have g0:l[i]?=some l[i]:=d7r (by omega)
   have hw:IntKind.wrap .i64 (((i+1:Nat):Int)+1)=((i+1+1:Nat):Int):=by
    rw [wrap_i64 (by omega) (by omega)];omega
   have hw2:IntKind.wrap .i64 (((i+1:Nat):Int) - 1)=(i:Int):=by
    rw [wrap_i64 (by omega) (by omega)];omega
   rw [List.drop_eq_getElem_cons (show i<l.length by omega),List.drop_eq_getElem_cons h0] at hch
   unfold a8E at hch
   rw [← List.drop_eq_getElem_cons h0] at hch
   generalize l[i+1]=x at g1 hch
   generalize l[i]=y at g0 hch
   obtain ⟨q1,a1,_,r1,b1,c1⟩:=b1N hd (i+1) x g1
   obtain ⟨q0,a0,_,r0,b0,c0⟩:=b1N hd i y g0
   simp only [a1,a0,b1,b0,c1,c0,bs,a0D,hw2,a2H]
   cases hf:(x.1==y.1)
   ·rw [hf] at hch
    simp only [a0d,d7d,if_false,a0t,bs,hw]
    exact .some (.inl ⟨rfl,l.length - (i+1),by omega,rfl,_,_,i+1,rfl,rfl,hch⟩)
   ·rw [hf] at hch
    simp only [a0d,if_true]
    exact .some (.inr ⟨by simp,rfl,.inr ⟨rfl,hch.symm,_,_,_,rfl⟩⟩)
  ·intro h0
   have h0:l.length≤i+1:=by
    have:¬ ((i+1:Nat):Int)<l.length:=by simpa using h0
    omega
   have hv:V=false:=by
    rw [← hch]
    have:(l.drop i).length≤1:=by simp;omega
    match l.drop i,this with
    | [],_=>rfl
    | [x],_=>rfl
   exact .some (.inr ⟨by simp,rfl,.inl ⟨rfl,hv,_,_,_,rfl⟩⟩)
 ·rintro ⟨x,ds,g⟩ ⟨h2,h3⟩
  simp only at h2 h3
  subst h2
  rcases h3 with ⟨rfl,hv,p,q,r,rfl⟩ | ⟨rfl,hv,p,q,r,rfl⟩
  ·exact k1 hv _ _ _
  ·exact k2 hv _ _ _
theorem c8d (d cmp:D) (h:Hp) (hd:SlOf 2 fld [] d):∃ x,R b1l [d,cmp] h=some (x,h):=by
 have hl:a0y tab a1e d=some (.int .i64 0):=a2w hd
 have h65:∃ x,R a7X [d,.int .i64 0,.int .i64 0,cmp] h=some (x,h):=by
  rw [c6K]
  refine ⟨a0k [],?_⟩
  simp only [c2x,bs,d7c,a0t,show IntKind.wrap .i64 ((0:Int)+1)=1 from rfl]
  rw [a2c]
  simp [-bind_some, a9y]
 obtain ⟨x,h65⟩:=h65
 have h63:∃ x,R b4f [d,.int .i64 0,cmp] h=some (x,h):=by
  rw [c6J]
  refine ⟨a0k [],?_⟩
  simp only [c2w,bs,d7c]
  rw [a2c]
  have h20:¬ (20:Int)≤0:=by omega
  have h21:¬ (20:Int)<0:=by omega
  simp only [a9w,a0g,a0q,bs,a1S,h20,decide_false,a0d,d7d,if_false,a0r,a0s,h65]
  rw [a2c]
  simp only [a9x,a0g,a0q,bs,a0n,h21,decide_false,a0d,d7d,if_false,a0r,a2S]
 obtain ⟨y,h63⟩:=h63
 refine ⟨a0k [],?_⟩
 rw [c6I]
 simp only [c2v,bs,hl,h63]
theorem d2J (l r:List (Str × Str)) (d e:D) (h:Hp) (hd:RdF h l d) (he:RdF h r e) (hl:l.length≤1000):R b7o [d,e] h=some (.bool (decide (l=r)),h):=by
 apply Wp.val
 rw [c9V]
 simp only [c5i,bs,d7c,b0x hd,b0x he,a0w]
 by_cases hlen:(l.length:Int)=(r.length:Int)
 ·have hlen':l.length=r.length:=by omega
  simp only [hlen,ne_eq,not_true,decide_false,a0d,d7d,if_false]
  generalize hV:decide (l=r)=V
  refine Wp.loop (fun k ds g=>g=h∧∃ a b c f,∃ i:Nat,ds=[a,b,.int .i64 i,c,f]∧k+i=r.length∧decide (l.drop i=r.drop i)=V)
   (fun x=>x.2.2=h∧((x.1 = .ext 0∧V=true)∨(x.1 = .ret∧V=false∧nth 0 x.2.1 = .bool false))) r.length ⟨rfl,_,_,_,_,0,rfl,rfl,hV⟩ ?_ ?_
  ·rintro k ds g ⟨rfl,a,b,c,f,i,rfl,hk,hch⟩
   simp only [b3d,a0g,a0q,bs,d7c,a0n]
   refine Wp.dif ?_ ?_
   ·intro h0
    have h0:i<r.length:=dl_ h0
    have gl:l[i]?=some l[i]:=d7r (by omega)
    have gr:r[i]?=some r[i]:=d7r h0
    have hw:=wi_ i (by omega)
    rw [List.drop_eq_getElem_cons (show i<l.length by omega),List.drop_eq_getElem_cons h0] at hch
    generalize l[i]=x at gl hch
    generalize r[i]=y at gr hch
    obtain ⟨q1,a1,b1,_⟩:=b1N hd i x gl
    obtain ⟨q0,a0,b0,_⟩:=b1N he i y gr
    simp only [a1,a0,b1,b0,bs,b7f]
    by_cases hxy:x=y
    ·subst hxy
     simp only [ne_eq,not_true,decide_false,a0d,d7d,if_false,a0t,bs,hw]
     exact .some (.inl ⟨rfl,k - 1,by omega,rfl,_,_,_,_,i+1,rfl,by omega,by rw [← hch];simp [-bind_some]⟩)
    ·have hne:decide (x≠y)=true:=by simpa using hxy
     simp only [hne,a0d,if_true]
     exact .some (.inr ⟨by simp,rfl,.inr ⟨rfl,by rw [← hch];simp [-bind_some, hxy],rfl⟩⟩)
   ·intro h0
    have h0:r.length≤i:=by
     have:¬ (i:Int)<r.length:=by simpa using h0
     omega
    rw [List.drop_of_length_le h0,List.drop_of_length_le (by omega)] at hch
    exact .some (.inr ⟨by simp,rfl,.inl ⟨rfl,by rw [← hch];simp [-bind_some]⟩⟩)
  ·rintro ⟨x,ds,g⟩ ⟨h2,h3⟩
   simp only at h2 h3
   subst h2
   rcases h3 with ⟨rfl,hv⟩ | ⟨rfl,hv,hn⟩
   ·simp only [a0r,a0s,bs,a0j,hv]
    exact .some rfl
   ·simp only [a1O,a1N,a1L,a0g,bs,hn,a0j,hv]
    exact .some rfl
 ·have hne:decide ((l.length:Int)≠(r.length:Int))=true:=by simpa using hlen
  have hlr:decide (l=r)=false:=by
   simp [-bind_some];intro hh;subst hh;exact hlen rfl
  simp only [hne,a0d,if_true,a0j,hlr]
  exact .some rfl
theorem d2a (l:List (Str × Str)) (d:D) (fn:D) (pr:Str × Str→Bool) (h:Hp) (hd:RdF h l d) (hl:l.length≤9223372036854775807) (hf:∀ x,a4H R fn [.agg (fld x)] h=some (.bool (pr x),h)) {β:Type} (K:Out→Option β) (X:Int→Option β)
   (hX:∀ v r,K (.ret,.int .i64 v::r,h)=X v) (hY:∀ r,K (.ext 0,r,h)=X (-1)):∀ (suf pre:List (Str × Str)),l=pre++suf→∀ a b e f,
   (a0P (a6a d fn (.int .i64 l.length)) [a,b,.int .i64 pre.length,e,f] h).bind K=X (idx pr pre.length suf):=by
 intro suf
 induction suf with
 | nil =>
  rintro pre rfl a b e f
  rw [a2c]
  simp [-bind_some, a6a,hY,idx]
 | cons p suf ih =>
  rintro pre rfl a b e f
  have hw:IntKind.wrap .i64 ((pre.length:Int)+1)=(pre++[p]).length:=by
   rw [wrap_i64 (by omega) (by simp at hl;omega)];simp [-bind_some]
  have hlt:(pre.length:Int)<(pre++p::suf).length:=by simp;omega
  rw [a2c]
  generalize hL:pre++p::suf=L at *
  have hg:L[pre.length]?=some p:=by rw [← hL];exact b2u _ _ _
  obtain ⟨q,a1,b1,_⟩:=b1N hd _ _ hg
  by_cases hp:pr p=true
  ·simp [-bind_some, a6a,a1,b1,hlt,hf,hp,hX,idx]
  ·have:=ih (pre++[p]) (by simp [-bind_some, ← hL]) a (.int .i64 pre.length) (.bool true) (.bool (pr p))
   simp only [← hw] at this
   simp [-bind_some, a6a,a1,b1,hlt,hf,hp,idx]
   simp [-bind_some, hp] at this
   exact this
theorem d2P (l:List (Str × Str)) (d:D) (fn:D) (pr:Str × Str→Bool) (h:Hp) (hd:RdF h l d) (hl:l.length≤9223372036854775807) (hf:∀ x,a4H R fn [.agg (fld x)] h=some (.bool (pr x),h)) :
   R b7s [d,fn] h=some (.int .i64 (idx pr 0 l),h):=by
 rw [d0b]
 simp only [c5n,bs,b0x hd,d7c]
 rw [show (0:Int)=(([]:List (Str × Str)).length:Int) from rfl,d2a l d fn pr h hd hl hf _ (fun v=>some (.int .i64 v,h)) (fun v r=>by simp) (fun r=>by simp) l [] rfl]
 rfl
theorem d2L (p:Str × Str) (h:Hp):R b1k [.agg (fld p)] h=some (.bool (decide (2000<p.2.length)),h):=by
 rw [c9X]
 simp [-bind_some, c5k,fld]
 omega
theorem d2K (l:List (Str × Str)) (d:D) (h:Hp) (hd:RdF h l d) (hl:l.length≤9223372036854775807):R b7p [d,.fn (.func b1k) [] []] h=some (.bool (l.any fun p=>decide (2000<p.2.length)),h):=by
 rw [c9W]
 simp only [c5j,bs,d2P l d (.fn (.func b1k) [] []) (fun p=>decide (2000<p.2.length)) h hd hl (fun x=>by rw [a6M];exact d2L x h),a3x,a0j]
 rw [b2v]
theorem d2I (l:Lin) (h:Hp):R b1i [.agg (a1p l)] h=some (.bool (!(l.txt==[])),h):=by
 rw [c9S]
 simp [-bind_some, c5g,a1p]
theorem d2H (l:List Lin) (d:D) (h:Hp) (hd:SlOf 3 a1p l d) (hl:l.length≤9223372036854775807):R b7n [d,.fn (.func b1i) [] []] h=some (.bool (l.any fun p => !(p.txt==[])),h):=by
 rw [c9R]
 simp only [c5f,bs,d2E l d (.fn (.func b1i) [] []) (fun p => !(p.txt==[])) h hd hl (fun x=>by rw [a6M];exact d2I x h),a3x,a0j]
 rw [b2v]
def evE (e:Ev):Int :=
 if (!plB e || !(decide (0≤e.a5)&&decide (e.a5≤253402300799999)))=true then 2
 else if e.a6<1∨Int.tmod 5040 e.a6≠0 then 21
 else if a2m e 2000≠0 then a2m e 2000
 else if 32<e.s7.length∨32<e.s8.length then 3
 else if (a1W e.fs).1≠0 then (a1W e.fs).1
 else if (a1W e.fs).2≠e.fs then 19
 else if ((a1W e.fs).2.any fun p=>decide (2000<p.2.length))=true then 3 else 0
theorem b1V (l:List (Str × Str)):(a1W l).2.length≤l.length:=by
 unfold a1W
 split
 ·simp [-bind_some]
 ·split
  ·split
   ·simp [-bind_some]
   ·simp [-bind_some, b8Y]
  ·simp [-bind_some]
theorem c1e (l:List (Str × Str)):(a1W l).2.length≤32:=by
 by_cases h:32<l.length
 ·simp [-bind_some, a1W,h]
 ·have:=b1V l
  omega
theorem c7Y (e:Ev) (h:Hp) (hsrt:∀ p:Hp,∃ d' h',R b1j [e.fd] p=some (.tup [d',.int .i64 (a1W e.fs).1],h')∧p.length≤h'.length∧(∀ q,q<p.length→h'[q]?=p[q]?)∧((a1W e.fs).1=0→RdF h' (a1W e.fs).2 d')):R b1h [.agg (evr e)] h=some (.int .i64 (evE e),h):=by
 apply Wp.val
 have sc:∀ (g:Hp) (v:Int),h.length≤g.length→(∀ q,q<h.length→g[q]?=h[q]?)→scope h g (.int .i64 v)=some (.int .i64 v,h):=fun g v h1 h2=>a1n (by simp) (.int _ _) h1 h2
 have k1:=c4f e.a5 0 253402300799999 h
 rw [c9O]
 simp only [c5c,a1M,bs,d7c,evL,c8a,a0j]
 have q5:a0a tab a0E 5 (.fptr (evr e))=some (.fptr [.int .i64 e.a5,.int .i64 e.a6,.str e.s7,.str e.s8,e.fd]):=id rfl
 have q6:a0a tab a0E 6 (.fptr (evr e))=some (.fptr [.int .i64 e.a6,.str e.s7,.str e.s8,e.fd]):=id rfl
 have q7:a0a tab a0E 7 (.fptr (evr e))=some (.fptr [.str e.s7,.str e.s8,e.fd]):=id rfl
 have q8:a0a tab a0E 8 (.fptr (evr e))=some (.fptr [.str e.s8,e.fd]):=id rfl
 have q9:a0a tab a0E 9 (.fptr (evr e))=some (.fptr [e.fd]):=id rfl
 unfold evE
 generalize hb1:plB e=b1
 generalize hb2:(decide (0≤e.a5)&&decide (e.a5≤253402300799999))=b2 at k1 ⊢
 have first:∀ {β:Type} (f:D→D × Hp→D→Option β) (Q:β→Prop),(∀ x p t,p.2=h→t = .bool (!b1 || !b2)→Wp (f x p t) Q)→Wp ((dUn .not (.bool b1)).bind fun t9=>(gd t9 false (some (.fptr [.int .i64 e.a5,.int .i64 e.a6,.str e.s7,.str e.s8,e.fd]))).bind fun t11=>(gd t9 false (a0b tab h ty3 t11)).bind fun t12=>(gdW t9 false h (R a8Z [t12,.int .i64 0,.int .i64 253402300799999] h)).bind fun p13=>(gd t9 false (dUn .not p13.1)).bind fun t14=>(a0O t9 (.bool true) t14).bind fun t15=>f t9 p13 t15) Q:=fun f Q hk=>by
  cases b1
  ·simp only [a1C,d7n,bs,a0o,a1g,reduceCtorEq,if_false,a0e,if_true]
   exact hk _ _ _ rfl rfl
  ·simp only [a1C,d7m,bs,a0o,a1g,if_true,ld3,k1,a0e,d7d,if_false]
   exact hk _ _ _ rfl (by simp)
 simp only [q5,q6,q7,q8,q9]
 refine first _ _ fun x p t hp ht=>?_
 subst ht
 obtain ⟨px,p⟩:=p
 simp only at hp
 subst hp
 clear first
 simp only [a0d]
 by_cases c1:(!b1 || !b2)=true
 ·simp only [c1,if_true,sc _ _ (Nat.le_refl _) (fun _ _=>rfl)]
  exact .some rfl
 simp only [c1,if_false,d7d,ld3,ld9,b6m,bs,a0n,a4W,a0u,a3j,a0w]
 by_cases c2:e.a6<1
 ·simp only [c2,true_or,decide_true,if_true,a0o,reduceCtorEq,if_false,d7e,bs,a0e,a0d,sc _ _ (Nat.le_refl _) (fun _ _=>rfl)]
  exact .some rfl
 have c20:¬ e.a6=0:=by omega
 by_cases c3n:¬ Int.tmod 5040 e.a6=0
 ·have c3:=c3n
  simp only [c2,c20,c3,ne_eq,not_false_eq_true,or_true,decide_true,decide_false,if_true,a0o,if_false,d7d,bs,a0e,a0d,ld3,a3j,a0w,sc _ _ (Nat.le_refl _) (fun _ _=>rfl)]
  exact .some rfl
 have c3:Int.tmod 5040 e.a6=0:=Decidable.not_not.1 c3n
 simp only [c2,c20,c3,ne_eq,not_true,or_self,decide_false,if_true,a0o,if_false,d7d,bs,a0e,a0d,ld3,a3j,a0w,c8b]
 generalize hL:a2m e 2000=L
 by_cases c4n:¬ L=0
 ·have c4:=c4n
  simp only [c4,ne_eq,not_false_eq_true,decide_true,if_true,sc _ _ (Nat.le_refl _) (fun _ _=>rfl)]
  exact .some rfl
 have c4:L=0:=Decidable.not_not.1 c4n
 subst c4
 simp only [ne_eq,not_true,decide_false,d7d,if_false,if_true]
 by_cases c5:32<e.s7.length
 ·have c5':(32:Int)<(e.s7.length:Int):=by omega
  simp only [c5,c5',true_or,decide_true,if_true,a0o,reduceCtorEq,if_false,d7e,bs,a0e,a0d,sc _ _ (Nat.le_refl _) (fun _ _=>rfl)]
  exact .some rfl
 have c5':¬ (32:Int)<(e.s7.length:Int):=by omega
 by_cases c6:32<e.s8.length
 ·have c6':(32:Int)<(e.s8.length:Int):=by omega
  simp only [c5,c5',c6,c6',or_true,decide_true,decide_false,if_true,a0o,if_false,d7d,bs,ld9,a4W,a0u,a0e,sc _ _ (Nat.le_refl _) (fun _ _=>rfl)]
  exact .some rfl
 have c6':¬ (32:Int)<(e.s8.length:Int):=by omega
 obtain ⟨d',h',hs,hl',hb',hr'⟩:=hsrt p
 simp only [c5,c5',c6,c6',or_self,decide_false,if_true,a0o,if_false,d7d,bs,ld9,a4W,a0u,a0e,a0d,hs,a0J,d7f,d7g]
 have hsl:=c1e e.fs
 generalize hS:a1W e.fs=S at hs hr' hsl
 obtain ⟨v,s⟩:=S
 simp only at hr' hsl ⊢
 by_cases c7n:¬ v=0
 ·have c7:=c7n
  simp only [c7,ne_eq,not_false_eq_true,decide_true,if_true,sc _ _ hl' hb',a0d,a0w,bs]
  exact .some rfl
 have c7:v=0:=Decidable.not_not.1 c7n
 subst c7
 have hr:=hr' rfl
 have hfd:RdF h' e.fs e.fd := .inl e.hfd
 simp only [ne_eq,not_true,decide_false,d7d,if_false,a0d,a0w,d2J s e.fs d' e.fd h' hr hfd (by omega),bs,a1C,d2K s d' h' hr (by omega)]
 by_cases c8n:¬ s=e.fs
 ·have c8:=c8n
  simp only [c8,not_false_eq_true,decide_false,d7n,if_true,sc _ _ hl' hb',a0d,a0w,bs]
  exact .some rfl
 have c8:s=e.fs:=Decidable.not_not.1 c8n
 subst c8
 simp only [not_true,decide_true,d7m,if_false,d7d,sc _ _ hl' hb',a0d,a0w,bs]
 split
 ·exact .some rfl
 ·exact .some rfl
def itE (i:It):Int :=
 if i.r=[] then evE i.e
 else if 32<i.r.length then 3
 else if plB i.e=false then 2
 else if a2m i.e 60000=9∨a2m i.e 60000=4∨a2m i.e 60000=19 then a2m i.e 60000
 else if i.e.a5≠0∨i.e.a6≠0∨i.e.s7≠[]∨i.e.s8≠[]∨i.e.fs.length≠0∨(i.e.ls.any fun p => !(p.txt==[]))=true then 19 else 0
theorem c7X (i:It) (h:Hp) (hc:R b1h [.agg (evr i.e)] h=some (.int .i64 (evE i.e),h)):R a5E [.agg (itr i)] h=some (.int .i64 (itE i),h):=by
 have hbx:a3s 10 (.agg (evr i.e))=some (.fptr (evr i.e)):=a1T 10 _ rfl
 have q4:a0a tab a0E 4 (.fptr (evr i.e))=some (.fptr [i.e.ld,.int .i64 i.e.a5,.int .i64 i.e.a6,.str i.e.s7,.str i.e.s8,i.e.fd]):=id rfl
 have q5:a0a tab a0E 5 (.fptr (evr i.e))=some (.fptr [.int .i64 i.e.a5,.int .i64 i.e.a6,.str i.e.s7,.str i.e.s8,i.e.fd]):=id rfl
 have q6:a0a tab a0E 6 (.fptr (evr i.e))=some (.fptr [.int .i64 i.e.a6,.str i.e.s7,.str i.e.s8,i.e.fd]):=id rfl
 have q7:a0a tab a0E 7 (.fptr (evr i.e))=some (.fptr [.str i.e.s7,.str i.e.s8,i.e.fd]):=id rfl
 have q8:a0a tab a0E 8 (.fptr (evr i.e))=some (.fptr [.str i.e.s8,i.e.fd]):=id rfl
 have q9:a0a tab a0E 9 (.fptr (evr i.e))=some (.fptr [i.e.fd]):=id rfl
 rw [c9N]
 simp only [c5b,a1M,bs,c8L,c8M,c8N,evL,hbx,a2H,a0j]
 unfold itE
 by_cases c0:i.r=[]
 ·simp only [c0,beq_self_eq_true,a0d,if_true,hc,bs]
 have c0':(i.r==[])=false:=by simpa using c0
 simp only [c0,c0',a0d,d7d,if_false,a4W,bs,a0u]
 by_cases c1:32<i.r.length
 ·have c1':(32:Int)<(i.r.length:Int):=by omega
  simp only [c1,c1',decide_true,if_true]
 have c1':¬ (32:Int)<(i.r.length:Int):=by omega
 simp only [c1,c1',decide_false,d7d,if_false,c8a,bs,a1C]
 cases hb:plB i.e
 ·simp only [d7n,a0d,if_true]
 simp only [d7m,a0d,d7d,d7e,if_false,c8b,bs,a0Q]
 generalize a2m i.e 60000=L
 by_cases c2:L=9
 ·subst c2
  simp [-bind_some]
 by_cases c3:L=4
 ·subst c3
  simp [-bind_some]
 by_cases c4:L=19
 ·subst c4
  simp [-bind_some]
 simp only [c2,c3,c4,or_self,decide_false,a0o,if_true,bs,a0e,a0d,d7d,if_false,q5,q6,q7,q8,q9,q4,ld3,ld9,b6m,a9i,a0w]
 have hfl:(i.e.fs.length:Int)=0↔i.e.fs.length=0:=by omega
 have h49:=d2H i.e.ls i.e.ld h i.e.hld i.e.hll
 generalize (i.e.ls.any fun p => !(p.txt==[]))=bb at h49 ⊢
 by_cases d1n:¬ i.e.a5=0
 ·simp only [c2,c3,c4,a0Q,d1n,ne_eq,not_true,not_false_eq_true,true_or,or_true,false_or,or_false,decide_true,decide_false,a0o,a1g,a1q,a5Q,reduceCtorEq,if_true,if_false,d7d,d7e,bs,a0e,a0d,ld3,ld9,b6m,a9i,a0w,a2e,a2w i.e.hfd,hfl,h49,beq_self_eq_true,d7m,d7n,or_self]
 have d1:i.e.a5=0:=Decidable.not_not.1 d1n
 by_cases d2n:¬ i.e.a6=0
 ·simp only [c2,c3,c4,a0Q,d1,d2n,ne_eq,not_true,not_false_eq_true,true_or,or_true,false_or,or_false,decide_true,decide_false,a0o,a1g,a1q,a5Q,reduceCtorEq,if_true,if_false,d7d,d7e,bs,a0e,a0d,ld3,ld9,b6m,a9i,a0w,a2e,a2w i.e.hfd,hfl,h49,beq_self_eq_true,d7m,d7n,or_self]
 have d2:i.e.a6=0:=Decidable.not_not.1 d2n
 by_cases d3n:¬ i.e.s7=[]
 ·have d3b:(i.e.s7==[])=false:=by simpa using d3n
  simp only [c2,c3,c4,a0Q,d1,d2,d3n,d3b,ne_eq,not_true,not_false_eq_true,true_or,or_true,false_or,or_false,decide_true,decide_false,a0o,a1g,a1q,a5Q,reduceCtorEq,if_true,if_false,d7d,d7e,bs,a0e,a0d,ld3,ld9,b6m,a9i,a0w,a2e,a2w i.e.hfd,hfl,h49,beq_self_eq_true,d7m,d7n,or_self]
 have d3:i.e.s7=[]:=Decidable.not_not.1 d3n
 by_cases d4n:¬ i.e.s8=[]
 ·have d4b:(i.e.s8==[])=false:=by simpa using d4n
  simp only [c2,c3,c4,a0Q,d1,d2,d3,d4n,d4b,ne_eq,not_true,not_false_eq_true,true_or,or_true,false_or,or_false,decide_true,decide_false,a0o,a1g,a1q,a5Q,reduceCtorEq,if_true,if_false,d7d,d7e,bs,a0e,a0d,ld3,ld9,b6m,a9i,a0w,a2e,a2w i.e.hfd,hfl,h49,beq_self_eq_true,d7m,d7n,or_self]
 have d4:i.e.s8=[]:=Decidable.not_not.1 d4n
 by_cases d5n:¬ i.e.fs.length=0
 ·simp only [c2,c3,c4,a0Q,d1,d2,d3,d4,d5n,ne_eq,not_true,not_false_eq_true,true_or,or_true,false_or,or_false,decide_true,decide_false,a0o,a1g,a1q,a5Q,reduceCtorEq,if_true,if_false,d7d,d7e,bs,a0e,a0d,ld3,ld9,b6m,a9i,a0w,a2e,a2w i.e.hfd,hfl,h49,beq_self_eq_true,d7m,d7n,or_self]
 have d5:i.e.fs.length=0:=Decidable.not_not.1 d5n
 simp only [c2,c3,c4,a0Q,d1,d2,d3,d4,d5,ne_eq,not_true,not_false_eq_true,true_or,or_true,false_or,or_false,decide_true,decide_false,a0o,a1g,a1q,a5Q,reduceCtorEq,if_true,if_false,d7d,d7e,bs,a0e,a0d,ld3,ld9,b6m,a9i,a0w,a2e,a2w i.e.hfd,hfl,h49,beq_self_eq_true,d7m,d7n,or_self]
 cases bb <;> simp [-bind_some, h49]
theorem c7k {g:Hp} {q T z:Nat} {i:It} (hq:g[q]?=some (Ob.row T z [itr i])):a0b tab g a0L (.ptr q 0 0)=some (.agg (itr i)):=b7S hq rfl
theorem b3G:∀ (a b:Str),Lib.compareBytes a b = - Lib.compareBytes b a
 | [],[]=>rfl
 | [],_::_=>rfl
 | _::_,[]=>rfl
 | x::a,y::b=>by
  have ih:=b3G a b
  simp only [Lib.compareBytes]
  by_cases h1:x<y
  ·have h2:¬ y<x:=by
     have:=UInt8.lt_iff_toNat_lt.1 h1
     intro hh
     have:=UInt8.lt_iff_toNat_lt.1 hh
     omega
   simp [-bind_some, h1,h2]
  ·by_cases h2:y<x
   ·simp [-bind_some, h1,h2]
   ·simp [-bind_some, h1,h2,ih]
theorem c2C {l:List (Str × Str)} (h:Asc l):srt l=l:=by
 have hd:∀ j,dn cF 0 j l=l:=fun j=>by
  cases j with
  | zero=>rfl
  | succ j =>
   unfold dn
   split
   ·rename_i x y hx hy
    split
    ·rename_i hc
     exfalso
     have h1:=(h j y x hy hx).1
     have h2:=(a9S y.1 x.1).2 h1
     have h3:=b3G x.1 y.1
     have h4:=hc.2
     unfold cF at h4
     omega
    ·rfl
   ·rfl
 have hi:∀ n i,isr cF 0 i n l=l:=fun n=>by
  induction n with
  | zero=>intro i;rfl
  | succ n ih=>intro i;unfold isr;rw [hd];exact ih _
 exact hi _ _
theorem b6r:∀ {l:List (Str × Str)},Asc l→a8E l=false
 | [],_=>rfl
 | [_],_=>rfl
 | x::y::r,h=>by
  unfold a8E
  have h0:=(h 0 x y rfl rfl).2
  have h1:(y.1==x.1)=false:=by simp;exact fun hh=>h0 hh.symm
  rw [h1,Bool.false_or]
  exact b6r fun i p q hp hq=>h (i+1) p q hp hq
theorem b9A {l:List (Str × Str)} (h:Asc l) (hl:l.length≤32) (hn:∀ p∈l,a1P p.1=true):a1W l=(0,l):=by
 have h32:¬ 32<l.length:=by omega
 have ha:l.all (fun p=>a1P p.1)=true:=List.all_eq_true.2 hn
 simp only [a1W,h32,if_false,ha,if_true,c2C h,b6r h,d7d]
theorem b8d (to_ m:Int) (hm:200≤m) (ht:to_≤60000):∀ (ls:List Lin) (a:Int),0≤a→mch a ls to_→lnE to_ m a ls=0
 | [],a,_,_=>rfl
 | l::r,a,ha,h=>by
  obtain ⟨h1,h2,h3,h4,h5⟩:=h
  have hle:=a5G r _ _ h5
  have w1:IntKind.wrap .i64 (to_ - a)=to_ - a:=wrap_i64 (by omega) (by omega)
  have w2:IntKind.wrap .i64 (a+l.len)=a+l.len:=wrap_i64 (by omega) (by omega)
  unfold lnE
  rw [if_pos,if_neg (by omega),w2]
  ·exact b8d to_ m hm ht r _ (by omega) h5
  ·rw [w1]
   refine ⟨h1,by omega,by omega,fun hh=>?_⟩
   obtain ⟨hr,hlt⟩:=hh
   subst hr
   have h5:a+l.len=to_:=h5
   omega
theorem b7Y {e:Ev} (m:Int) (hm:200≤m) (h0:0≤e.a2) (ht:e.a3≤60000) (h1:1≤e.ls.length) (h40:e.ls.length≤40) (hc:mch e.a2 e.ls e.a3):a2m e m=0:=by
 have g0:¬ e.ls.length=0:=by omega
 have g1:¬ 40<e.ls.length:=by omega
 simp only [a2m,g0,g1,if_false]
 exact b8d _ _ hm ht _ _ h0 hc
theorem c7v {l:List (Str × Str)} (h:MF l):Asc l:=by
 have hp:lt98_17.Pairwise fun a b=>Op.bytesLess a b=true∧a≠b:=by decide
 have:=hp.sublist h.1
 rw [List.pairwise_iff_getElem] at this
 intro i p q h1 h2
 obtain ⟨g1,h1⟩:=d7s.1 h1
 obtain ⟨g2,h2⟩:=d7s.1 h2
 have:=this i (i+1) (by simpa using g1) (by simpa using g2) (by omega)
 simpa [-bind_some, h1,h2] using this
theorem c3G {l:List (Str × Str)} (h:MF l):a1W l=(0,l):=by
 have hl:l.length≤4:=by
  have:=h.1.length_le
  simpa using this
 refine b9A (c7v h) (by omega) fun p hp=>?_
 have hm:p.1∈lt98_17:=h.1.subset (d7z.2 ⟨p,hp,rfl⟩)
 exact (show ∀ s∈lt98_17,a1P s=true by decide) _ hm
theorem c7w {l:List (Str × Str)} (h:MF l):l.length≤4:=by
 have:=h.1.length_le
 simpa using this
structure EvK (e:Ev):Prop where
 h0:0≤e.a0
 h2:e.a0≤2
 f0:0≤e.a1
 f2:e.a1≤2
 a0:0≤e.a2
 b9:e.a3≤1000
 ch:mch e.a2 e.ls e.a3
 l1:1≤e.ls.length
 l3:e.ls.length≤3
 t0:0≤e.a5
 t9:e.a5≤255000
 wt:e.a6∈lt82_14
 tr:e.s7∈lt98_15
 st:e.s8∈lt98_16
 fs:MF e.fs
theorem EvM.k {e:Ev} (h:EvM e):EvK e:=⟨h.h0,h.h2,h.f0,h.f2,h.a0,by have:=a5G _ _ _ h.ch;have:=h.a9;have:=h.l3;omega,h.ch,h.l1,h.l3,h.t0,h.t9,h.wt,h.tr,h.st,h.fs⟩
theorem m10 (zs:List Int) (d:D) (n:Int) (h:Hp) (hd:a5w .u8 zs d) (hn:0≤n) (hn2:n≤400) (hz:∀ z∈zs,0≤z∧z<256) (hzl:zs.length≤9223372036854775807):∃ h',R c3a [d,.int .i64 n] h=some (.ptr h.length 0 0,h')∧CM h' h.length∧h'.length=h.length+1∧∀ q,q<h.length→h'[q]?=h[q]?:=by
 rw [e10]
 simp only [F10,bs,d7c,b1x hd,a0u]
 have fin:∀ d' zs',a5w .u8 zs' d'→zs'.length≤400→(∀ z∈zs',0≤z∧z<256)→∃ h',((a0M tab b1W [0] [d']).bind fun t13=>(b5j b1W 2 h t13).bind fun p14=>some (a0k [p14.1],p14.2))=some (.ptr h.length 0 0,h')∧CM h' h.length∧h'.length=h.length+1∧∀ q,q<h.length→h'[q]?=h[q]?:=fun d' zs' hg hl hz'=>by
  rw [c6s d' (b7K hg)]
  simp only [bs]
  rw [a3b b1W 2 h [d',.int .i64 0] rfl (by omega)]
  exact ⟨_,rfl,⟨d',zs',0,a4Z _ _ _ _,hg,hl,by omega,hz'⟩,a2C _ _ _ _,fun q hq=>a5a _ _ _ _ hq⟩
 by_cases hgt:n<(zs.length:Int)
 ·obtain ⟨d',hs,hg⟩:=c0w (T:=tab) (t:=a0N) (i:=ti22) (j:=ti5) (id rfl) (id rfl) (id rfl) (id rfl) hd (k2 := .i64) hn (Int.le_of_lt hgt)
  simp only [hgt,decide_true,a0d,if_true,hs,bs,a0s,a0g]
  exact fin d' _ hg (by simp;omega) fun z hz'=>hz z (List.mem_of_mem_take hz')
 ·simp only [hgt,decide_false,a0d,d7d,if_false,bs,a0s,a0g]
  exact fin d zs hd (by omega) hz
theorem b1D:∀ (ls:List Lin) (a b:Int),mch a ls b→mch a (ls.map b0P) b
 | [],a,b,h=>h
 | x::r,a,b,h=>⟨h.1,h.2.1,h.2.2.1,by simp [-bind_some, b0P],b1D r _ b h.2.2.2.2⟩
structure SkK (i:It):Prop where
 r:i.r∈lt98_35
 h0:0≤i.e.a0
 h2:i.e.a0≤2
 f0:0≤i.e.a1
 f2:i.e.a1≤2
 a0:0≤i.e.a2
 b9:i.e.a3≤1000
 ch:mch i.e.a2 i.e.ls i.e.a3
 l1:1≤i.e.ls.length
 l3:i.e.ls.length≤3
 tx:∀ l∈i.e.ls,l.txt=[]
 t0:i.e.a5=0
 w0:i.e.a6=0
 tr:i.e.s7=[]
 st:i.e.s8=[]
 fs:i.e.fs=[]
def ItK (i:It):Prop:=(i.r=[]∧EvK i.e)∨SkK i
theorem ItK.l3 {i:It} (h:ItK i):i.e.ls.length≤3:=by
 rcases h with ⟨_,h⟩ | h
 ·exact h.l3
 ·exact h.l3
theorem ItK.fs {i:It} (h:ItK i):i.e.fs.length≤4:=by
 rcases h with ⟨_,h⟩ | h
 ·exact c7w h.fs
 ·rw [h.fs];simp [-bind_some]
theorem ItK.ch {i:It} (h:ItK i):mch i.e.a2 i.e.ls i.e.a3∧0≤i.e.a2∧i.e.a3≤1000∧1≤i.e.ls.length:=by
 rcases h with ⟨_,h⟩ | h
 ·exact ⟨h.ch,h.a0,h.b9,h.l1⟩
 ·exact ⟨h.ch,h.a0,h.b9,h.l1⟩
theorem c7t {h:Hp} {o:Nat} (hc:CM h o):∃ i h',R a7V [.ptr o 0 0] h=some (.agg (itr i),h')∧CM h' o∧Same o h h'∧ItK i:=by
 suffices Wp (R a7V [.ptr o 0 0] h) (fun p=>∃ i,p.1 = .agg (itr i)∧CM p.2 o∧Same o h p.2∧ItK i) by
  obtain ⟨⟨x,h'⟩,h1,i,rfl,h2⟩:=this
  exact ⟨i,h',h1,h2⟩
 have ho:=hc.lt
 rw [c9M]
 simp only [c5a,bs,d7c]
 generalize hg0:a0H h a0L 11 [[.str [],.int .i64 0,.int .i64 0,.int .i64 0,.int .i64 0,.nils,.int .i64 0,.int .i64 0,.str [],.str [],.nils]]=g0
 have p0:g0[h.length]?=some (Ob.row a0L 11 [[.str [],.int .i64 0,.int .i64 0,.int .i64 0,.int .i64 0,.nils,.int .i64 0,.int .i64 0,.str [],.str [],.nils]]):=by rw [← hg0];exact a4Z _ _ _ _
 have S0:Sm h o g0:=(Sm.refl hc).app (by rw [← hg0,a2C];omega) fun q hq=>by rw [← hg0];exact a5a _ _ _ _ hq
 have hl0:g0.length=h.length+1:=by rw [← hg0];exact a2C _ _ _ _
 clear hg0
 obtain ⟨e,g1,e1,c1,s1,he⟩:=m12 S0.cd
 refine Wp.step e1 ?_;clear e1
 have hbx:a3s 10 (.agg (evr e))=some (.fptr (evr e)):=a1T 10 _ rfl
 simp only [bs,hbx]
 obtain ⟨v,g2,e2,c2,s2,v0,v1⟩:=m39 c1 4 (by omega) (by omega)
 refine Wp.step e2 ?_;clear e2
 have S2:=(S0.next c1 s1).next c2 s2
 have hl2:g2.length=h.length+1:=by have:=s1.1;have:=s2.1;omega
 replace p0:=(s2.2 h.length (by omega)).trans ((s1.2 h.length (by omega)).trans p0)
 clear S0 s1 s2 c1 hl0
 have hb2:a0M tab a0L [1] [.agg (evr e)]=some (.agg (itr ⟨[],e⟩)):=id rfl
 have fin:∀ (g:Hp) (j:It),Sm h o g→g[h.length]?=some (Ob.row a0L 11 [itr j])→ItK j→Wp ((a0b tab g a0L (.ptr h.length 0 0)).bind fun d=>scope h g (a0k [d])) (fun p:D × Hp=>∃ i,p.1 = .agg (itr i)∧CM p.2 o∧Same o h p.2∧ItK i):=fun g j S q hj=>by
  simp only [c7k q,bs,a0j]
  obtain ⟨h',hsc,hcd,hsm2⟩:=S.scope (d := .agg (itr j)) (d' := .agg (itr j)) (by
   rw [b0l,a3m fun d hd=>a4q h.length g 2 j d hd]) (a9f _ _)
  rw [hsc]
  exact .some ⟨j,rfl,hcd,hsm2,hj⟩
 simp only [a0n,bs]
 refine Wp.dif ?_ ?_
 ·intro _
  simp only [evL,bs,hb2]
  refine b2a p0 (by rfl) (by rfl) (by simp) (by rfl) fun g3 p3 sg=>?_
  replace p3:g3[h.length]?=some (Ob.row a0L 11 [itr ⟨[],e⟩]):=p3
  exact fin g3 _ (S2.app (Nat.le_of_eq sg.1.symm) fun q hq=>sg.2 q (by omega)) p3 (.inl ⟨rfl,he.k⟩)
 ·intro _
  have q0:a0a tab a0E 0 (.fptr (evr e))=some (.fptr (evr e)):=id rfl
  have q1:a0a tab a0E 1 (.fptr (evr e))=some (.fptr [.int .i64 e.a1,.int .i64 e.a2,.int .i64 e.a3,e.ld,.int .i64 e.a5,.int .i64 e.a6,.str e.s7,.str e.s8,e.fd]):=id rfl
  have q2:a0a tab a0E 2 (.fptr (evr e))=some (.fptr [.int .i64 e.a2,.int .i64 e.a3,e.ld,.int .i64 e.a5,.int .i64 e.a6,.str e.s7,.str e.s8,e.fd]):=id rfl
  have q3:a0a tab a0E 3 (.fptr (evr e))=some (.fptr [.int .i64 e.a3,e.ld,.int .i64 e.a5,.int .i64 e.a6,.str e.s7,.str e.s8,e.fd]):=id rfl
  have q4:a0a tab a0E 4 (.fptr (evr e))=some (.fptr [e.ld,.int .i64 e.a5,.int .i64 e.a6,.str e.s7,.str e.s8,e.fd]):=id rfl
  have l0:∀ g,a0b tab g ty3 (.fptr (evr e))=some (.int .i64 e.a0):=fun g=>id rfl
  simp only [q0,q1,q2,q3,q4,l0,ld3,bs,b0N]
  generalize hg3:a0H g2 a0E 10 [[.int .i64 0,.int .i64 0,.int .i64 0,.int .i64 0,.nils,.int .i64 0,.int .i64 0,.str [],.str [],.nils]]=g3
  have p3:g3[g2.length]?=some (Ob.row a0E 10 [[.int .i64 0,.int .i64 0,.int .i64 0,.int .i64 0,.nils,.int .i64 0,.int .i64 0,.str [],.str [],.nils]]):=by rw [← hg3];exact a4Z _ _ _ _
  have hb3:∀ q,q<h.length+1→g3[q]?=g2[q]?:=fun q hq=>by rw [← hg3];exact a5a _ _ _ _ (by omega)
  have hl3:g3.length=h.length+2:=by rw [← hg3,a2C];omega
  clear hg3
  rw [hl2] at p3 ⊢
  have S3:=S2.app (by omega) fun q hq=>hb3 q (by omega)
  replace p0:=(hb3 h.length (by omega)).trans p0
  refine b2X p3 (by rfl) (by rfl) (by simp) (by rfl) fun g4 p4 sg=>?_
  replace p4:g4[h.length+1]?=some (Ob.row a0E 10 [[.int .i64 e.a0,.int .i64 e.a1,.int .i64 e.a2,.int .i64 e.a3,.nils,.int .i64 0,.int .i64 0,.str [],.str [],.nils]]):=p4
  have S4:=S3.app (Nat.le_of_eq sg.1.symm) fun q hq=>sg.2 q (by omega)
  replace p0:=(sg.2 h.length (by omega)).trans p0
  have hl4:g4.length=h.length+2:=sg.1.trans hl3
  clear p3 hb3 S3 S2 sg hl3 c2 hl2
  simp only [bs,a9i,a2P e.hld]
  refine Wp.loop (fun k ds g=>∃ a b x,∃ n:Nat,ds=[a,.int .i64 n,b]∧k+n=e.ls.length∧Sm h o g∧h.length+2≤g.length∧g[h.length]?=some (Ob.row a0L 11 [[.str [],.int .i64 0,.int .i64 0,.int .i64 0,.int .i64 0,.nils,.int .i64 0,.int .i64 0,.str [],.str [],.nils]])
    ∧ g[h.length+1]?=some (Ob.row a0E 10 [[.int .i64 e.a0,.int .i64 e.a1,.int .i64 e.a2,.int .i64 e.a3,x,.int .i64 0,.int .i64 0,.str [],.str [],.nils]])∧Own g (h.length+2) a1o 3 (((e.ls.take n).map b0P).map a1p) x)
   (fun r=>r.1 = .ext 0∧∃ a b c x,r.2.1=[a,b,c]∧Sm h o r.2.2∧h.length+2≤r.2.2.length∧r.2.2[h.length]?=some (Ob.row a0L 11 [[.str [],.int .i64 0,.int .i64 0,.int .i64 0,.int .i64 0,.nils,.int .i64 0,.int .i64 0,.str [],.str [],.nils]])
    ∧ r.2.2[h.length+1]?=some (Ob.row a0E 10 [[.int .i64 e.a0,.int .i64 e.a1,.int .i64 e.a2,.int .i64 e.a3,x,.int .i64 0,.int .i64 0,.str [],.str [],.nils]])∧Own r.2.2 (h.length+2) a1o 3 ((e.ls.map b0P).map a1p) x) e.ls.length
   ⟨_,_,.nils,0,rfl,rfl,S4,by omega,p0,p4,Own.nils _ _ _ _⟩ ?_ ?_
  ·clear p0 p4 S4 hl4
   rintro k ds g ⟨a,b,x,n,rfl,hk,S,hgl,p0,p1,ow⟩
   have hel:=he.l3
   simp only [b3b,a0g,a0q,bs,d7c,a0n]
   refine Wp.dif ?_ ?_
   ·intro h0
    have h0:n<e.ls.length:=dl_ h0
    have hg:e.ls[n]?=some e.ls[n]:=d7r h0
    have hw:=wi_ n (by omega)
    have hts:(e.ls.take (n+1)).map b0P=(e.ls.take n).map b0P++[b0P e.ls[n]]:=by
     rw [d7o,hg,d7j];rfl
    generalize e.ls[n]=l at hg hts
    have r1:g.row (h.length+1) 0=some [.int .i64 e.a0,.int .i64 e.a1,.int .i64 e.a2,.int .i64 e.a3,x,.int .i64 0,.int .i64 0,.str [],.str [],.nils]:=a0I p1
    simp only [a3p,b2B,r1,Nat.zero_add,List.drop_succ_cons,List.drop_zero,List.head?_cons,q4,a9i,bs,a8e e.hld,Int.natCast_nonneg,if_true,d7l,hg,Option.map_some]
    simp only [a1p,c1y,c1z,ld3,bs,a9P,b6A]
    refine b2W hgl ow (a1d _ _ _ _) (by simp;omega) fun x' g' ow' len bel _ _=>?_
    have oc:=a0z (a1l ow')
    simp only [bs]
    refine b1Z ((bel (h.length+1) (by omega)).trans p1) (by rfl) (by rw [oc.1];rfl) (by simp) oc.2 fun g2 p2 t2=>?_
    rw [oc.1] at p2
    replace p2:g2[h.length+1]?=some (Ob.row a0E 10 [[.int .i64 e.a0,.int .i64 e.a1,.int .i64 e.a2,.int .i64 e.a3,x',.int .i64 0,.int .i64 0,.str [],.str [],.nils]]):=p2
    simp only [bs,a0t,hw]
    refine .some (.inl ⟨rfl,k - 1,by omega,_,_,x',n+1,rfl,by omega,(S.app len fun q hq=>bel q (by omega)).app (Nat.le_of_eq t2.1.symm) fun q hq=>t2.2 q (by omega),by show h.length+2≤g2.length;have:=t2.1;omega,(t2.2 h.length (by omega)).trans ((bel h.length (by omega)).trans p0),p2,?_⟩)
    rw [hts,d7j]
    exact ow'.keep fun q hq _=>t2.2 q (by omega)
   ·intro h0
    have h0:e.ls.length≤n:=by
     have:¬ (n:Int)<e.ls.length:=by simpa using h0
     omega
    rw [List.take_of_length_le h0] at ow
    exact .some (.inr ⟨by simp,rfl,_,_,_,x,rfl,S,hgl,p0,p1,ow⟩)
  ·clear p0 p4 S4 hl4 g4
   rintro ⟨ex,ds,g⟩ ⟨rfl,a,b,c,x,rfl,S,hgl,p0,p1,ow⟩
   simp only at S hgl p0 p1 ow
   simp only [a0r,a0s,bs,b5Z]
   refine a2X S.cd lt98_35 8 (by decide) (by decide) (by decide) fun u g2 c2 s2 hu _=>?_
   have S2:=S.next c2 s2
   have p12:=(s2.2 (h.length+1) (by omega)).trans p1
   replace p0:=(s2.2 h.length (by omega)).trans p0
   have ow2:=ow.same s2 (by omega)
   simp only [bs,c8O p12 rfl,c8O p1 rfl,b9G,a1H]
   refine b2a p0 (by rfl) (by rfl) (by simp) (by rfl) fun g3 p3 sg=>?_
   replace p3:g3[h.length]?=some (Ob.row a0L 11 [[.str u,.int .i64 e.a0,.int .i64 e.a1,.int .i64 e.a2,.int .i64 e.a3,x,.int .i64 0,.int .i64 0,.str [],.str [],.nils]]):=p3
   have S3:=S2.app (Nat.le_of_eq sg.1.symm) fun q hq=>sg.2 q (by omega)
   have ow3:=ow2.keep (h':=g3) fun q hq _=>sg.2 q (by omega)
   have hsl:=a2g (n0:=h.length) (n:=2) ow3 (by omega) (fun a _=>a5p _ g3 _ a)
   have hel:=he.l3
   simp only [b7S p3 rfl,bs,a0j]
   generalize hj:(⟨u,⟨e.a0,e.a1,e.a2,e.a3,e.ls.map b0P,frz h.length g3 3 x,0,0,[],[],[],.nils,SlOf.nils _ _,by simp,hsl,by simp;omega⟩⟩:It)=j
   have hK:SkK j:=by
    subst hj
    exact ⟨hu,he.h0,he.h2,he.f0,he.f2,he.a0,he.k.b9,b1D _ _ _ he.ch,by simpa using he.l1,by simpa using hel,fun l hl=>by
     simp at hl
     obtain ⟨l0,_,rfl⟩:=hl
     rfl,rfl,rfl,rfl,rfl,rfl⟩
   obtain ⟨h',hsc,hcd,hsm2⟩:=S3.scope (d := .agg [.str u,.int .i64 e.a0,.int .i64 e.a1,.int .i64 e.a2,.int .i64 e.a3,x,.int .i64 0,.int .i64 0,.str [],.str [],.nils]) (d' := .agg (itr j)) (by subst hj;simp [-bind_some, itr,evr]) (a9f _ _)
   rw [hsc]
   exact .some ⟨j,rfl,hcd,hsm2,.inr hK⟩
structure Tal where
 h:Int
 r:Str
 n:Int
theorem b0K:∀ a:Str,Op.bytesLess a a=false
 | []=>rfl
 | x::a=>by simp [-bind_some, Op.bytesLess,b0K a]
theorem b6s:∀ {a b c:Str},Op.bytesLess a b=true→Op.bytesLess b c=true→Op.bytesLess a c=true
 | _,[],_,h,_=>by cases ‹Str› <;> simp [-bind_some, Op.bytesLess] at h
 | _,_::_,[],_,h=>by simp [-bind_some, Op.bytesLess] at h
 | [],_::_,_::_,_,_=>rfl
 | x::a,y::b,z::c,h,k=>by
  simp only [Op.bytesLess,Bool.or_eq_true,decide_eq_true_eq,Bool.and_eq_true,beq_iff_eq] at h k ⊢
  rcases h with h | ⟨rfl,h⟩
  ·rcases k with k | ⟨rfl,k⟩
   ·exact .inl (UInt8.lt_trans h k)
   ·exact .inl h
  ·rcases k with k | ⟨rfl,k⟩
   ·exact .inl k
   ·exact .inr ⟨rfl,b6s h k⟩
theorem b0L:∀ {a b:Str},Op.bytesLess a b=false→a≠b→Op.bytesLess b a=true
 | [],[],_,h=>absurd rfl h
 | [],_::_,h,_=>by simp [-bind_some, Op.bytesLess] at h
 | _::_,[],_,_=>rfl
 | x::a,y::b,h,k=>by
  simp only [Op.bytesLess,Bool.or_eq_false_iff,decide_eq_false_iff_not,Bool.and_eq_false_iff,beq_eq_false_iff_ne] at h
  simp only [Op.bytesLess,Bool.or_eq_true,decide_eq_true_eq,Bool.and_eq_true,beq_iff_eq]
  by_cases hxy:x=y
  ·subst hxy
   refine .inr ⟨rfl,b0L (h.2.resolve_left fun hh=>hh rfl) fun hh=>k (by rw [hh])⟩
  ·left
   have h1:=mt UInt8.lt_iff_toNat_lt.2 h.1
   have h2:x.toNat≠y.toNat:=fun hh=>hxy (UInt8.toNat_inj.1 hh)
   exact UInt8.lt_iff_toNat_lt.2 (by omega)
def gr:List Ev→List Ev→Bool
 | [],_=>true
 | _::_,[]=>false
 | x::a,y::b=>if a6F x y=true then gr a b else gr (x::a) b
def sm (f:Tal→Int):List Tal→Int
 | []=>0
 | t::r=>f t+sm f r
theorem b2w (i:It):(D.agg (itr i)).okv=true:=by
 have h1:=a1v i.e.hld
 have h2:=a1v i.e.hfd
 have h3:(D.agg (itr i)) = .agg [.str i.r,.int .i64 i.e.a0,.int .i64 i.e.a1,.int .i64 i.e.a2,.int .i64 i.e.a3,i.e.ld,.int .i64 i.e.a5,.int .i64 i.e.a6,.str i.e.s7,.str i.e.s8,i.e.fd]:=rfl
 rw [h3]
 generalize i.e.ld=a at h1
 generalize i.e.fd=b at h2
 cases a <;> first | (cases b <;> first | rfl | (simp [-bind_some, D.one] at h2)) | (simp [-bind_some, D.one] at h1)
structure SOrd {α:Type} (c:α→α→Int) (S Pre:α→α→Prop):Prop where
 tr:∀ x y z,S x y→S y z→S x z
 lt:∀ x y,Pre x y→c y x<0→S y x
 ge:∀ x y,Pre x y→¬ c y x<0→S x y
theorem c1U {α:Type} {c:α→α→Int} {S Pre:α→α→Prop} (o:SOrd c S Pre) {A1 A2:List α} {x:α} (hA:(A1++A2).Pairwise S) (hp:∀ y∈A1++A2,Pre y x)
  (h2:A2=[]∨∃ y r,A2=y::r∧c x y<0) (h1:A1=[]∨∃ y r,A1=r++[y]∧¬ c x y<0):(A1++x::A2).Pairwise S:=by
 rw [List.pairwise_append] at hA ⊢
 obtain ⟨p1,p2,p3⟩:=hA
 have q1:∀ a∈A1,S a x:=by
  rcases h1 with rfl | ⟨y,r,rfl,hy⟩
  ·intro a ha;cases ha
  ·intro a ha
   have hyx:S y x:=o.ge y x (hp y (by simp)) hy
   rw [List.pairwise_append] at p1
   rcases d7y.1 ha with ha | ha
   ·exact o.tr _ _ _ (p1.2.2 a ha y (by simp)) hyx
   ·simp at ha;subst ha;exact hyx
 have q2:∀ b∈A2,S x b:=by
  rcases h2 with rfl | ⟨y,r,rfl,hy⟩
  ·intro a ha;cases ha
  ·intro b hb
   have hxy:S x y:=o.lt y x (hp y (by simp)) hy
   rw [List.pairwise_cons] at p2
   rcases d7x.1 hb with rfl | hb
   ·exact hxy
   ·exact o.tr _ _ _ hxy (p2.1 b hb)
 refine ⟨p1,List.pairwise_cons.2 ⟨q2,p2⟩,fun a ha b hb=>?_⟩
 rcases d7x.1 hb with rfl | hb
 ·exact q1 a ha
 ·exact p3 a ha b hb
theorem b6T {α:Type} (c:α→α→Int) (P:List α) (x:α):∀ (R:List α) (Q:List α),∃ A1 A2,R.reverse=A1++A2∧dn c P.length (P.length+R.length) (P++R.reverse++x::Q)=P++A1++x::A2++Q ∧
  (A2=[]∨∃ y r,A2=y::r∧c x y<0)∧(A1=[]∨∃ y r,A1=r++[y]∧¬ c x y<0)
 | [], Q=>⟨[],[],rfl,by
   cases P with
   | nil=>simp [-bind_some, dn]
   | cons p P =>
    simp only [d7t,d7u,Nat.add_zero,List.reverse_nil,List.append_nil]
    unfold dn
    split
    ·rw [if_neg (by omega)];simp [-bind_some]
    ·simp [-bind_some],.inl rfl,.inl rfl⟩
 | y::R,Q=>by
  have g1:(P++(y::R).reverse++x::Q)[P.length+R.length+1]?=some x:=by
   rw [List.getElem?_append_right (by simp;omega)]
   simp [-bind_some]
   try (have:P.length+R.length+1 - (P.length+(R.length+1))=0:=by omega
        rw [this];rfl)
  have g0:(P++(y::R).reverse++x::Q)[P.length+R.length]?=some y:=by
   rw [d7B (by simp),List.getElem?_append_right (by omega)]
   simp [-bind_some]
  rw [d7t,← Nat.add_assoc]
  unfold dn
  rw [g1,g0]
  simp only
  by_cases hc:c x y<0
  ·rw [if_pos ⟨by omega,hc⟩]
   have hs:((P++(y::R).reverse++x::Q).set (P.length+R.length+1) y).set (P.length+R.length) x=P++R.reverse++x::(y::Q):=by
    have e1:P++(y::R).reverse++x::Q=(P++R.reverse)++y::x::Q:=by simp
    rw [e1]
    have l1:(P++R.reverse).length=P.length+R.length:=by simp
    rw [List.set_append_right _ _ (by omega),List.set_append_right _ _ (by omega),l1]
    have:P.length+R.length+1 - (P.length+R.length)=1:=by omega
    rw [this,Nat.sub_self]
    rfl
   rw [hs]
   obtain ⟨A1,A2,h1,h2,h3,h4⟩:=b6T c P x R (y::Q)
   refine ⟨A1,A2++[y],by simp [-bind_some, h1],by rw [h2];simp [-bind_some],?_,h4⟩
   rcases h3 with rfl | ⟨u,r,rfl,hu⟩
   ·exact .inr ⟨y,[],rfl,hc⟩
   ·exact .inr ⟨u,r++[y],rfl,hu⟩
  ·rw [if_neg (fun hh=>hc hh.2)]
   exact ⟨(y::R).reverse,[],by simp,by simp,.inl rfl,.inr ⟨y,R.reverse,by simp,hc⟩⟩
theorem c6G {α:Type} (c:α→α→Int) (P A Q:List α) (x:α):∃ A1 A2,A=A1++A2∧dn c P.length (P.length+A.length) (P++A++x::Q)=P++A1++x::A2++Q ∧
  (A2=[]∨∃ y r,A2=y::r∧c x y<0)∧(A1=[]∨∃ y r,A1=r++[y]∧¬ c x y<0):=by
 have:=b6T c P x A.reverse Q
 simpa using this
theorem b7M {α:Type} {c:α→α→Int} {S Pre:α→α→Prop} (o:SOrd c S Pre) (P Q:List α):∀ (B A:List α),A.Pairwise S→(∀ x∈A,∀ y∈B,Pre x y)→B.Pairwise Pre →
  ∃ C,isr c P.length (P.length+A.length) B.length (P++A++B++Q)=P++C++Q∧C.Perm (A++B)∧C.Pairwise S
 | [],A,hA,_,_=>⟨A,by simp [-bind_some, isr],by simp,hA⟩
 | x::B,A,hA,hp,hB=>by
  rw [List.pairwise_cons] at hB
  obtain ⟨A1,A2,rfl,h2,h3,h4⟩:=c6G c P A (B++Q) x
  have hA':(A1++x::A2).Pairwise S:=c1U o hA (fun y hy=>hp y hy x (by simp)) h3 h4
  have e1:P++(A1++A2)++x::B++Q=P++(A1++A2)++x::(B++Q):=by simp
  have hpm:(A1++x::A2).Perm (x::(A1++A2)):=List.perm_middle
  obtain ⟨C,q1,q2,q3⟩:=b7M o P Q B (A1++x::A2) hA' (fun u hu v hv=>by
   rcases d7x.1 (hpm.mem_iff.1 hu) with rfl | hu
   ·exact hB.1 v hv
   ·exact hp u hu v (by simp [-bind_some, hv])) hB.2
  refine ⟨C,?_,q2.trans ?_,q3⟩
  ·rw [d7t]
   unfold isr
   rw [e1,h2,← q1]
   have e2:P.length+(A1++A2).length+1=P.length+(A1++x::A2).length:=by simp;omega
   have e3:P++A1++x::A2++(B++Q)=P++(A1++x::A2)++B++Q:=by simp
   rw [e2,e3]
  ·have:((A1++x::A2)++B).Perm ((x::(A1++A2))++B):=hpm.append_right B
   refine this.trans ?_
   simpa using (List.perm_middle (l₁:=A1++A2) (l₂:=B) (a:=x)).symm
inductive Blk {α:Type} (S Pre:α→α→Prop) (k:Nat):List α→Prop
 | last (A:List α) (hl:A.length≤k) (hs:A.Pairwise S):Blk S Pre k A
 | cons (A Y:List α) (hl:A.length=k) (hs:A.Pairwise S) (hp:∀ x∈A,∀ y∈Y,Pre x y) (hY:Blk S Pre k Y):Blk S Pre k (A++Y)
theorem Blk.all {α:Type} {S Pre:α→α→Prop} {k:Nat} {l:List α} (h:Blk S Pre k l) (hl:l.length≤k):l.Pairwise S:=by
 cases h with
 | last _ _ hs=>exact hs
 | cons A Y hA hs hp hY =>
  have:Y=[]:=by
   simp at hl
   exact List.length_eq_zero_iff.1 (by omega)
  subst this
  simpa using hs
theorem Blk.fst {α:Type} {S Pre:α→α→Prop} {k:Nat} {l:List α} (h:Blk S Pre k l) (hl:k≤l.length):∃ A Y,l=A++Y∧A.length=k∧A.Pairwise S∧(∀ x∈A,∀ y∈Y,Pre x y)∧Blk S Pre k Y:=by
 cases h with
 | last _ h1 hs=>exact ⟨l,[],by simp,by omega,hs,by simp,.last [] (by simp) List.Pairwise.nil⟩
 | cons A Y hA hs hp hY=>exact ⟨A,Y,rfl,hA,hs,hp,hY⟩
def CtxB {α:Type} (S Pre:α→α→Prop) (k:Nat) (X Y:List α):Prop:=∀ Z:List α,Z.Perm Y→Blk S Pre k Z→Blk S Pre k (X++Z)
theorem CtxB.nil {α:Type} {S Pre:α→α→Prop} {k:Nat} {Y:List α}:CtxB S Pre k [] Y:=fun Z _ h=>h
theorem CtxB.step {α:Type} {S Pre:α→α→Prop} {k:Nat} {X A Y C:List α} (h:CtxB S Pre k X (A++Y)) (hC:C.Perm A) (hl:C.length=k) (hs:C.Pairwise S) (hp:∀ x∈A,∀ y∈Y,Pre x y):CtxB S Pre k (X++C) Y:=fun Z hZ hb=>by
 rw [List.append_assoc]
 exact h (C++Z) (hC.append hZ) (.cons C Z hl hs (fun x hx y hy=>hp x (hC.mem_iff.1 hx) y (hZ.mem_iff.1 hy)) hb)
theorem CtxB.done {α:Type} {S Pre:α→α→Prop} {k:Nat} {X Y Z:List α} (h:CtxB S Pre k X Y) (hZ:Z.Perm Y) (hl:Z.length≤k) (hs:Z.Pairwise S):Blk S Pre k (X++Z):=h Z hZ (.last Z hl hs)
end Go.Proofs.YtjmndhbabkjebaaGreatDoor

/- Laws, on plain data, about functions that the statement reaches. -/
import Derived.Test.YthaajlepgblimaaGreatDoorT9
set_option linter.unusedSimpArgs false
set_option linter.unusedVariables false
set_option linter.unnecessarySimpa false
set_option maxRecDepth 100000
namespace Go.Proofs.YthaajlepgblimaaGreatDoor
open Go.Eng Go.Pi
open Option (bind_some)
abbrev Str:=List UInt8
def fld (p:Str × Str):List D:=[.str p.1,.str p.2]
structure Lin where
 off:Int
 len:Int
 txt:Str
 deriving DecidableEq
def a1D (l:Lin):List D:=[.int .i64 l.off,.int .i64 l.len,.str l.txt]
structure Ev where
 a0:Int
 a1:Int
 a2:Int
 a3:Int
 ls:List Lin
 ld:D
 a5:Int
 a6:Int
 s7:Str
 s8:Str
 fs:List (Str × Str)
 fd:D
 hfd:SlOf 2 fld fs fd
 hl:fs.length≤9223372036854775807
 hld:SlOf 3 a1D ls ld
 hll:ls.length≤9223372036854775807
def evr (e:Ev):List D:=[.int .i64 e.a0,.int .i64 e.a1,.int .i64 e.a2,.int .i64 e.a3,e.ld,.int .i64 e.a5,.int .i64 e.a6,.str e.s7,.str e.s8,e.fd]
structure It where
 r:Str
 e:Ev
def itr (i:It):List D := .str i.r::evr i.e
theorem a4y (n0:Nat) (h:Hp) (n:Nat) (p:Str × Str):∀ d∈fld p,frz n0 h n d=d:=by simp [-bind_some, fld]
theorem b4b (n:Nat) (p:Str × Str):∀ d∈fld p,Ok n d:=by
 intro d hd
 simp [-bind_some, fld] at hd
 rcases hd with rfl | rfl <;> constructor
theorem a3c (n0:Nat) (h:Hp) (n:Nat) (p:Lin):∀ d∈a1D p,frz n0 h n d=d:=by simp [-bind_some, a1D]
theorem b2z (n:Nat) (p:Lin):∀ d∈a1D p,Ok n d:=by
 intro d hd
 simp [-bind_some, a1D] at hd
 rcases hd with rfl | rfl | rfl <;> constructor
theorem b2g (n0:Nat) (h:Hp) (n:Nat) (e:Ev):∀ d∈evr e,frz n0 h (n+1) d=d:=by
 intro d hd
 simp [-bind_some, evr] at hd
 rcases hd with rfl | rfl | rfl | rfl | rfl | rfl | rfl | rfl | rfl | rfl
 all_goals first | exact a1P e.hld (fun a _=>a3c _ _ _ a) | exact a1P e.hfd (fun a _=>a4y _ _ _ a) | simp [-bind_some]
theorem b3S (n:Nat) (e:Ev):∀ d∈evr e,Ok n d:=by
 intro d hd
 simp [-bind_some, evr] at hd
 rcases hd with rfl | rfl | rfl | rfl | rfl | rfl | rfl | rfl | rfl | rfl
 all_goals first | exact a1b e.hld (fun a _=>b2z _ a) | exact a1b e.hfd (fun a _=>b4b _ a) | constructor
theorem a6n (n:Nat) (i:It):Ok n (.agg (itr i)):=by
 refine .agg _ fun d hd=>?_
 simp [-bind_some, itr,evr] at hd
 rcases hd with rfl | rfl | rfl | rfl | rfl | rfl | rfl | rfl | rfl | rfl | rfl
 all_goals first | exact a1b i.e.hld (fun a _=>b2z _ a) | exact a1b i.e.hfd (fun a _=>b4b _ a) | constructor
theorem a9V (n0:Nat) (h:Hp) (n:Nat) (i:It):∀ d∈itr i,frz n0 h (n+1) d=d:=by
 intro d hd
 rcases e0D.1 hd with rfl | hd
 ·simp [-bind_some]
 ·exact b2g n0 h n i.e d hd
theorem b2s (n:Nat) (i:It):∀ d∈itr i,Ok n d:=by
 intro d hd
 rcases e0D.1 hd with rfl | hd
 ·exact .str _
 ·exact b3S n i.e d hd
theorem evL (e:Ev) (h:Hp):a0c tab h a0y (.fptr (evr e))=some (.agg (evr e)):=id rfl
theorem c5B (i:It):a0a tab a0z 1 (.fptr (itr i))=some (.fptr (evr i.e)):=id rfl
theorem c5A (i:It):a0a tab a0z 0 (.fptr (itr i))=some (.fptr (itr i)):=id rfl
theorem c5C (i:It) (h:Hp):a0c tab h ty9 (.fptr (itr i))=some (.str i.r):=id rfl
theorem b2w (i:It) (h:Hp):a0c tab h a0z (.fptr (itr i))=some (.agg (itr i)):=id rfl
theorem b0G (i:It):a5U 11 (.agg (itr i))=some (.fptr (itr i)):=a3y 11 _ rfl
theorem d7g (i:It):a0W tab a0S 1 [0] [.agg (itr i)]=some (.sl 11 true [itr i]):=id rfl
theorem e0a (i:It) (h:Hp):((a0a tab a0z 1 (.fptr (itr i))).bind fun p=>(a0a tab a0y 3 p).bind fun q=>a0c tab h ty3 q)=some (.int .i64 i.e.a3):=by simp [-bind_some, itr,evr]
theorem b8T {h:Hp} {n e z n' e' z' q:Nat} {rows rows':List (List D)} {d d':D} (a:Own h n e z rows d) (b:Own h n' e' z' rows' d') (hne:e≠e') (hd:d.inOb q):¬ d'.inOb q:=by
 rintro ⟨z2,m2,rfl⟩
 obtain ⟨z1,m1,rfl⟩:=hd
 rcases a with ⟨ha,_⟩ | ⟨o1,_,ha,ga⟩
 ·cases ha
 rcases b with ⟨hb,_⟩ | ⟨o2,_,hb,gb⟩
 ·cases hb
 injection ha with _ ha
 injection hb with _ hb
 subst ha;subst hb
 rw [ga] at gb
 injection gb with gb
 injection gb with gb
 exact hne gb
theorem a9Y (l:Lin) (h:Hp):a0c tab h a1Z (.fptr (a1D l))=some (.agg (a1D l)):=id rfl
theorem b0Y (l:Str × Str) (h:Hp):a0c tab h a0T (.fptr (fld l))=some (.agg (fld l)):=id rfl
theorem b7l (a b:Str × Str):a0i tab .neq a0T (.agg (fld a)) (.agg (fld b))=some (.bool (decide (a≠b))):=by
 obtain ⟨a0,a1⟩:=a
 obtain ⟨b0,b1⟩:=b
 simp [-bind_some, fld]
 by_cases h0:a0=b0 <;> by_cases h1:a1=b1 <;> simp [-bind_some, h0,h1]
def byr (z:Int):List D:=[.int .u8 z]
theorem a5s (n0:Nat) (h:Hp) (n:Nat) (z:Int):∀ d∈byr z,frz n0 h n d=d:=by simp [-bind_some, byr]
theorem a7C (n:Nat) (z:Int):∀ d∈byr z,Ok n d:=by
 intro d hd
 simp [-bind_some, byr] at hd
 subst hd
 constructor
theorem b3E (z:Int) (h:Hp):a0c tab h ty5 (.fptr (byr z))=some (.int .u8 z):=id rfl
def a2A (n:Int):List Int:=[IntKind.wrap .u8 (n.fdiv (2 ^ 24)),IntKind.wrap .u8 (n.fdiv (2 ^ 16)),IntKind.wrap .u8 (n.fdiv (2 ^ 8)),IntKind.wrap .u8 n]
theorem c4O (n:Int) (h:Hp):R a7S [.int .u32 n] h=some (.sl 1 true ((a2A n).map byr),h):=by
 rw [d1v]
 simp only [c6c,bs,a2E,show ¬ (24:Int)<0 by omega,show ¬ (16:Int)<0 by omega,show ¬ (8:Int)<0 by omega,if_false,c7L,c7A,a0j]
 rfl
theorem d5q (v:Int) (n0:Nat):∀ (k:Nat),k≤4→∀ (h:Hp) (rows:List (List D)) (d a:D),n0≤h.length→Own h n0 ty5 1 rows d→rows.length+k≤1000000000→∃ d' h' b,a0J (a3Y (.int .u64 v)) [d,.int .i64 ((k:Int) - 1),a] h=some (.ext 0,[d',b,.bool false],h') ∧
  Own h' n0 ty5 1 (rows++(((a2A v).drop (4 - k)).map byr)) d'∧h.length≤h'.length∧(∀ q,q<h.length→¬ d.inOb q→h'[q]?=h[q]?)∧∀ q,d'.inOb q→d.inOb q∨h.length≤q:=by
 intro k
 induction k with
 | zero =>
  intro _ h rows d a hn ow hr
  rw [a1r]
  refine ⟨d,h,_,by simp [-bind_some, a3Y];rfl,?_,Nat.le_refl _,fun _ _ _=>rfl,fun q hq => .inl hq⟩
  simpa [-bind_some, a2A] using ow
 | succ k ih =>
  intro hk h rows d a hn ow hr
  have hg:(0:Int)≤((k+1:Nat):Int) - 1:=by omega
  have hw1:IntKind.wrap .i64 (8*(((k+1:Nat):Int) - 1))=8*(k:Int):=by rw [wrap_i64 (by omega) (by omega)];omega
  have hw2:IntKind.wrap .i64 (((k+1:Nat):Int) - 1 - 1)=(k:Int) - 1:=by rw [wrap_i64 (by omega) (by omega)];omega
  have h8:¬ (8*(k:Int))<0:=by omega
  have hby:(a2A v).drop (4 - (k+1))=IntKind.wrap .u8 (v.fdiv (2 ^ (min (8*(k:Int)).toNat IntKind.u64.bits)))::(a2A v).drop (4 - k):=by
   have hk4:k=0∨k=1∨k=2∨k=3:=by omega
   rcases hk4 with rfl | rfl | rfl | rfl
   ·simp [-bind_some, a2A,IntKind.bits]
   all_goals rfl
  have key:=@b2Q h n0 hn rows d (.sl 1 true [byr (IntKind.wrap .u8 (v.fdiv (2 ^ (min (8*(k:Int)).toNat IntKind.u64.bits))))]) ow _ (a1e _ _ _ _) (by simp;omega) _ (fun r=>some r)
   (fun r=>Own r.2 n0 ty5 1 (rows++[byr (IntKind.wrap .u8 (v.fdiv (2 ^ (min (8*(k:Int)).toNat IntKind.u64.bits))))]) r.1∧h.length≤r.2.length∧(∀ q,q<h.length→¬ d.inOb q→r.2[q]?=h[q]?)∧∀ q,r.1.inOb q→d.inOb q∨h.length≤q) (fun x' h' a b _ c e => .some ⟨a,b,c,e⟩)
  obtain ⟨⟨x',g⟩,e1,ow1,len,bel,fre⟩:=key
  replace len:h.length≤g.length:=len
  replace bel:∀ q,q<h.length→¬ d.inOb q→g[q]?=h[q]?:=bel
  replace fre:∀ q,x'.inOb q→d.inOb q∨h.length≤q:=fre
  have e1':a0q tab h a0L a0L d (.sl 1 true [byr (IntKind.wrap .u8 (v.fdiv (2 ^ (min (8*(k:Int)).toNat IntKind.u64.bits))))])=some (x',g):=by
   cases hq:a0q tab h a0L a0L d (.sl 1 true [byr (IntKind.wrap .u8 (v.fdiv (2 ^ (min (8*(k:Int)).toNat IntKind.u64.bits))))]) with
   | none=>rw [hq] at e1;cases e1
   | some r=>rw [hq] at e1;exact e1
  obtain ⟨d',h',b,e2,ow2,len2,bel2,fre2⟩:=ih (by omega) g _ x' (.bool true) (Nat.le_trans hn len) ow1 (by simp;omega)
  refine ⟨d',h',b,?_,?_,Nat.le_trans len len2,fun q hq hd=>(bel2 q (by omega) fun hx=>by rcases fre q hx with h1 | h1 <;> first | exact hd h1 | omega).trans (bel q hq hd),fun q hq=>?_⟩
  ·rw [a1r]
   simp only [a3Y,a0e,a0m,bs,a2Y,decide_eq_true hg,a0d,if_true,a4R,hw1,a2E,h8,if_false,a7l,b3D,show ∀ z,([[D.int .u8 z]]:List (List D))=[byr z] from fun _=>rfl,e1',a0N,hw2]
   exact e2
  ·rw [hby,e0p]
   simpa using ow2
  ·rcases fre2 q hq with h1 | h1
   ·exact fre q h1
   ·right;omega
theorem c9w (v:Int) (n0:Nat) (h:Hp) (rows:List (List D)) (d:D) (hn:n0≤h.length) (ow:Own h n0 ty5 1 rows d) (hr:rows.length≤999999000):∃ d' h',R a4z [d,.int .u64 v,.int .i64 4] h=some (d',h')∧Own h' n0 ty5 1 (rows++(a2A v).map byr) d'∧h.length≤h'.length∧(∀ q,q<h.length→¬ d.inOb q→h'[q]?=h[q]?)∧∀ q,d'.inOb q→d.inOb q∨h.length≤q:=by
 obtain ⟨d',h',b,e1,o1,o2,o3⟩:=d5q v n0 4 (by omega) h rows d .any hn ow (by omega)
 refine ⟨d',h',?_,by simpa using o1,o2,o3⟩
 rw [c7P]
 have hw:IntKind.wrap .i64 ((4:Int) - 1)=((4:Nat):Int) - 1:=by rw [wrap_i64 (by omega) (by omega)];rfl
 simp only [c3q,bs,a0N,hw,e0h,e1,a0l,a0k,a0e,a0j]
def stp (c:Int):Int:=if c % 2=1 then IntKind.wrap .u32 (BitVec.ofInt IntKind.u32.bits (c.fdiv 2) ^^^ BitVec.ofInt IntKind.u32.bits 3988292384).toNat else c.fdiv 2
def U32 (c:Int):Prop:=0≤c∧c<4294967296
theorem a3C {n:Int} (h0:0≤n) (h1:n<4294967296):IntKind.wrap .u32 n=n:=by
 unfold IntKind.wrap
 simp [-bind_some, IntKind.signed,IntKind.bits,IntKind.min,IntKind.max]
 omega
theorem a8w (x:BitVec IntKind.u32.bits):U32 (x.toNat:Int):=by
 have:=x.isLt
 have h2:(2:Nat) ^ IntKind.u32.bits=4294967296:=by decide
 constructor <;> omega
theorem a5G (x:BitVec IntKind.u32.bits):IntKind.wrap .u32 (x.toNat:Int)=x.toNat:=a3C (a8w x).1 (a8w x).2
theorem b4L {c:Int} (h:U32 c):U32 (c.fdiv 2):=by
 rw [Int.fdiv_eq_ediv_of_nonneg _ (by omega)]
 unfold U32 at *
 omega
theorem c5b {c:Int} (h:U32 c):U32 (stp c):=by
 unfold stp
 split
 ·rw [a5G];exact a8w _
 ·exact b4L h
theorem c2K {c:Int} (h:U32 c):((BitVec.ofInt IntKind.u32.bits c).toNat:Int)=c:=by
 rw [BitVec.toNat_ofInt]
 have h2:((2 ^ IntKind.u32.bits:Nat):Int)=4294967296:=by decide
 rw [h2,Int.emod_eq_of_lt h.1 h.2]
 exact Int.toNat_of_nonneg h.1
theorem d7e {c:Int} (h:U32 c):IntKind.wrap .u32 (BitVec.ofInt IntKind.u32.bits c &&& BitVec.ofInt IntKind.u32.bits 1).toNat=c % 2:=by
 rw [a5G,BitVec.toNat_and]
 have h1:(BitVec.ofInt IntKind.u32.bits 1).toNat=1:=by decide
 rw [h1,Nat.and_one_is_mod]
 have:=c2K h
 omega
theorem pw1:(2:Int) ^ (min (Int.toNat 1) IntKind.u32.bits)=2:=by decide
theorem c1F {c:Int} (h:U32 c):IntKind.wrap .u32 (BitVec.ofInt IntKind.u32.bits (c.fdiv 2) ^^^ BitVec.ofInt IntKind.u32.bits (IntKind.wrap .u32 (BitVec.ofInt IntKind.u32.bits 3988292384 &&& BitVec.ofInt IntKind.u32.bits (IntKind.wrap .u32 (0 - c % 2))).toNat)).toNat=stp c:=by
 have h2:c % 2=0∨c % 2=1:=by omega
 unfold stp
 rcases h2 with h2 | h2
 ·rw [h2]
  have h3:IntKind.wrap .u32 (BitVec.ofInt IntKind.u32.bits 3988292384 &&& BitVec.ofInt IntKind.u32.bits (IntKind.wrap .u32 (0 - 0))).toNat=0:=by decide
  rw [h3]
  have h4:BitVec.ofInt IntKind.u32.bits 0=0#_:=by decide
  simp only [h4,BitVec.xor_zero]
  rw [a5G,c2K (b4L h)]
  simp [-bind_some]
 ·rw [h2]
  have h3:IntKind.wrap .u32 (BitVec.ofInt IntKind.u32.bits 3988292384 &&& BitVec.ofInt IntKind.u32.bits (IntKind.wrap .u32 (0 - 1))).toNat=3988292384:=by decide
  rw [h3]
  simp [-bind_some]
def b1N:Nat→Int→Int
 | 0,c=>c
 | n+1,c=>b1N n (stp c)
theorem b0l:∀ (n:Nat) {c:Int},U32 c→U32 (b1N n c)
 | 0,c,h=>h
 | n+1,c,h=>b0l n (c5b h)
theorem a6q:∀ (n:Nat) (c:Int),b1N (n+1) c=stp (b1N n c)
 | 0,c=>rfl
 | n+1,c=>by
  rw [b1N,a6q n (stp c)]
  rfl
def byt (c z:Int):Int:=b1N 8 (IntKind.wrap .u32 (BitVec.ofInt IntKind.u32.bits c ^^^ BitVec.ofInt IntKind.u32.bits (IntKind.wrap .u32 z)).toNat)
def b5X:Int→List Int→Int
 | c,[]=>c
 | c,z::r=>b5X (byt c z) r
def crc (l:List Int):Int:=IntKind.wrap .u32 (BitVec.ofInt IntKind.u32.bits (if IntKind.u32.signed then -1 else IntKind.u32.max) ^^^ BitVec.ofInt IntKind.u32.bits (b5X 4294967295 l)).toNat
theorem b6F (l:List Int):U32 (crc l):=by unfold crc;rw [a5G];exact a8w _
theorem d5s (h:Hp) {β:Type} {K:Out→Option β} {Q:β→Prop} (c:Int) (hc:U32 c) (a:D) (cont:∀ a b,Wp (K (.ext 2,[.int .u32 (b1N 8 c),a,b],h)) Q):Wp ((a0J a9d [.int .u32 c,.int .i64 0,a] h).bind K) Q:=by
 refine Wp.loop (fun k ds g=>g=h∧∃ a,∃ i:Nat,ds=[.int .u32 (b1N i c),.int .i64 i,a]∧k+i=8) (fun r=>r.1 = .ext 2∧r.2.2=h∧∃ a b,r.2.1=[.int .u32 (b1N 8 c),a,b]) 8 ⟨rfl,_,0,rfl,rfl⟩ ?_ ?_
 ·rintro k ds g ⟨rfl,a,i,rfl,hk⟩
  have hu:=b0l i hc
  simp only [a9d,a0e,a0m,bs,e0h,a0o]
  refine Wp.dif ?_ ?_
  ·intro h0
   have h0:i<8:=dl_ h0
   have hw:=wi_ i (by omega)
   simp only [a2E,show ¬ (1:Int)<0 by omega,if_false,pw1,a7m,bs,c3Q,d7e hu,a7n,c1F hu,a0r,hw,← a6q]
   exact .some (.inl ⟨rfl,k - 1,by omega,rfl,_,i+1,rfl,by omega⟩)
  ·intro h0
   have h0:i=8:=by
    have:¬ (i:Int)<8:=by simpa using h0
    omega
   subst h0
   exact .some (.inr ⟨by simp,rfl,rfl,_,_,rfl⟩)
 ·rintro ⟨x,ds,g⟩ ⟨rfl,rfl,a,b,rfl⟩
  exact cont a b
theorem d5r (h:Hp) {β:Type} {K:Out→Option β} {Q:β→Prop} (c:Int) (hc:U32 c) (a e:D) (cont:∀ a b e,Wp (K (.ext 2,[.int .u32 (b1N 8 c),a,b,e],h)) Q):Wp ((a0J a9c [.int .u32 c,.int .i64 0,a,e] h).bind K) Q:=by
 refine Wp.loop (fun k ds g=>g=h∧∃ a e,∃ i:Nat,ds=[.int .u32 (b1N i c),.int .i64 i,a,e]∧k+i=8) (fun r=>r.1 = .ext 2∧r.2.2=h∧∃ a b e,r.2.1=[.int .u32 (b1N 8 c),a,b,e]) 8 ⟨rfl,_,_,0,rfl,rfl⟩ ?_ ?_
 ·rintro k ds g ⟨rfl,a,e,i,rfl,hk⟩
  have hu:=b0l i hc
  simp only [a9c,a0e,a0m,bs,e0h,a0o]
  refine Wp.dif ?_ ?_
  ·intro h0
   have h0:i<8:=dl_ h0
   have hw:=wi_ i (by omega)
   simp only [a7m,bs,d7e hu,a0P]
   refine Wp.join (P:=fun r=>r=(.nrm,[.int .u32 (b1N (i+1) c)],g)) ?_ ?_ ?_
   ·intro h1
    have h1:b1N i c % 2=1:=by simpa using h1
    simp only [a2E,show ¬ (1:Int)<0 by omega,if_false,pw1,bs,a7n]
    refine .some ?_
    rw [a6q]
    simp [-bind_some, stp,h1]
   ·intro h1
    have h1:¬ b1N i c % 2=1:=by simpa using h1
    simp only [a2E,show ¬ (1:Int)<0 by omega,if_false,pw1,bs]
    refine .some ?_
    rw [a6q]
    simp [-bind_some, stp,h1]
   ·rintro _ rfl
    simp only [a1u,a0k,a0e,bs,a0r,hw]
    exact .some (.inl ⟨rfl,k - 1,by omega,rfl,_,_,i+1,rfl,by omega⟩)
  ·intro h0
   have h0:i=8:=by
    have:¬ (i:Int)<8:=by simpa using h0
    omega
   subst h0
   exact .some (.inr ⟨by simp,rfl,rfl,_,_,_,rfl⟩)
 ·rintro ⟨x,ds,g⟩ ⟨rfl,rfl,a,b,e,rfl⟩
  exact cont a b e
theorem a7E:∀ (l:List Int) (c z:Int),b5X c (l++[z])=byt (b5X c l) z
 | [],c,z=>rfl
 | x::r,c,z=>a7E r (byt c x) z
theorem d5Q (l:List Int) (d:D) (h:Hp) (hd:SlOf 1 byr l d∨∃ n0 e,Own h n0 e 1 (l.map byr) d) (hl:l.length≤9223372036854775807):R b7w [d] h=some (.int .u32 (crc l),h):=by
 apply Wp.val
 have hlen:a0t tab a0L d=some (.int .i64 l.length):=by
  rcases hd with hd | ⟨n0,e,hd⟩
  ·exact a1z hd
  ·rw [c8R hd];simp [-bind_some]
 have hix:∀ (i:Nat) (z:Int),l[i]?=some z→∃ p,a0b tab a0L d (.int .i64 i)=some p∧a0c tab h ty5 p=some (.int .u8 z):=by
  intro i z hg
  rcases hd with hd | ⟨n0,e,hd⟩
  ·exact ⟨.fptr (byr z),by rw [a5z hd];simp [-bind_some, hg],b3E _ _⟩
  ·have hi:=(e0y.1 hg).1
   obtain ⟨ob,h1,rfl,hgo⟩:=a5m hd (i:=i) (by simpa using hi)
   exact ⟨.ptr ob i 0,by simp [-bind_some, hi],by rw [d5B,a0F hgo];simp [-bind_some, hg,byr]⟩
 rw [d1y]
 simp only [c6f,bs,e0h]
 refine Wp.loop (fun k ds g=>g=h∧∃ b c e f,∃ i:Nat,ds=[.int .u32 (b5X 4294967295 (l.take i)),.int .i64 i,b,c,e,f]∧k+i=l.length) (fun r=>r.1 = .ext 0∧r.2.2=h∧nth 0 r.2.1 = .int .u32 (b5X 4294967295 l)) l.length ⟨rfl,_,_,_,_,0,rfl,rfl⟩ ?_ ?_
 ·rintro k ds g ⟨rfl,b,c,e,f,i,rfl,hk⟩
  simp only [b3d,a0e,a0m,bs,e0h,hlen,a0o]
  refine Wp.dif ?_ ?_
  ·intro h0
   have h0:i<l.length:=dl_ h0
   have hg:l[i]?=some l[i]:=e0x h0
   have htk:l.take (i+1)=l.take i++[l[i]]:=by rw [e0u,hg];rfl
   generalize l[i]=z at hg htk
   have hw:=wi_ i (by omega)
   obtain ⟨p,hp1,hp2⟩:=hix i z hg
   simp only [hp1,hp2,bs,b6J,a7n]
   have hst:b1N 8 (IntKind.wrap .u32 (BitVec.ofInt IntKind.u32.bits (b5X 4294967295 (l.take i)) ^^^ BitVec.ofInt IntKind.u32.bits (IntKind.wrap .u32 z)).toNat)=b5X 4294967295 (l.take (i+1)):=by rw [htk,a7E];rfl
   refine d5r g _ (by rw [a5G];exact a8w _) _ _ fun a b e=>?_
   simp only [a0l,a1u,a0k,a0e,a0m,bs,a0r,hw,hst]
   exact .some (.inl ⟨rfl,k - 1,by omega,rfl,_,_,_,_,i+1,rfl,by omega⟩)
  ·intro h0
   have h0:i=l.length:=by
    have:¬ (i:Int)<l.length:=by simpa using h0
    omega
   subst h0
   exact .some (.inr ⟨by simp,rfl,rfl,by simp⟩)
 ·rintro ⟨x,ds,g⟩ ⟨rfl,rfl,hx⟩
  replace hx:nth 0 ds=_:=hx
  simp only [a0l,a0k,a0e,bs,hx,b6P,a0j]
  exact .some rfl
theorem b2O:tab a0L=some ti22:=id rfl
theorem b9F:tab ty5=some ti5:=id rfl
theorem c9U:tab ty3=some ti3:=id rfl
theorem b0q:ti22.td = .sl ty5:=id rfl
theorem c9V:ti3.td = .int .i64:=id rfl
theorem b5n:ti5.sz=1:=id rfl
theorem c9W:ti5.by_=1:=id rfl
theorem c7z:Nat.blt 0 1=true:=id rfl
def zby:List D:=[.int .u8 0]
theorem d5R (n:Int) (h:Hp) (h0:0≤n) (h1:n≤1000000000):R b7x [.nils,.int .i64 n] h=if n=0 then some (.nils,h) else some (.msl 1 h.length 0 0,a0C h ty5 1 (List.replicate n.toNat zby)):=by
 have hc:b6L tab a0L .nils=some (.int .i64 0):=id rfl
 have hs:a0D tab a0L false true false [.nils,.int .i64 0]=some .nils:=id rfl
 have hn:¬ n<0:=by omega
 have hw0:IntKind.wrap .i64 0=0:=wrap_i64 (by omega) (by omega)
 have hw1:IntKind.wrap .i64 n=n:=wrap_i64 (by omega) (by omega)
 rw [d1z]
 by_cases hz:n=0
 ·subst hz
  simp [-bind_some, c3r,hc,hw0]
 ·have hp:0<n:=by omega
  have hl:lim n.toNat 1=true:=a2n (by omega) (by omega)
  have hl2:lim n.toNat ti5.by_=true:=hl
  obtain ⟨m,hm⟩:∃ m,n.toNat=m+1:=⟨n.toNat - 1,by omega⟩
  have ha:a0q tab h a0L ty3 .nils (.int .i64 n)=some (.msl 1 h.length 0 n.toNat,a0C h ty5 1 (List.replicate n.toNat zby)):=by
   have hd:a6t h ti3 ti5 (.int .i64 n)=some (List.replicate n.toNat zby):=by
    simp only [a6t,c9V,h0,hl2,true_and,if_true]
    rfl
   unfold a0q
   simp only [b2O,c9U,b0q,b9F,hd,b5n,c7z]
   rw [hm,List.replicate_succ]
   have hl3:lim (m+1) ti5.by_=true:=by rw [← hm];exact hl2
   simp only [e0z,List.length_replicate,hl3,if_true]
  have hs2:a0D tab a0L false true false [.msl 1 h.length 0 n.toNat,.int .i64 0]=some (.msl 1 h.length 0 0):=by
   simp [-bind_some, a0D,a2G,a2b,b2O,b0q,b9F,b5n]
   omega
  simp [-bind_some, c3r,hc,hw0,hw1,hp,hn,hz,hs,ha,hs2]
theorem a1Q {n:Int} (h0:0≤n) (h1:n<18446744073709551616):IntKind.wrap .u64 n=n:=by
 unfold IntKind.wrap
 simp [-bind_some, IntKind.signed,IntKind.bits,IntKind.min,IntKind.max]
 omega
theorem b5e {h:Hp} {n0 e z:Nat} {rows:List (List D)} {d:D} (hd:Own h n0 e z rows d):a1a h z d=some rows:=by
 rcases hd with ⟨rfl,rfl⟩ | ⟨o,_,rfl,hg⟩
 ·rfl
 ·simp [-bind_some, a1a,hg]
def a7r (j p:List Int):Int:=if p.length=0∨8388608<p.length then 3 else if 67108864<j.length+8+p.length then 16 else 0
def a8O (j p:List Int):List Int:=if a7r j p=0 then j++a2A p.length++a2A (crc (a2A p.length++p))++p else []
theorem a2K (n:Int):(a2A n).length=4:=rfl
theorem d5P (j p:List Int) (dj dp:D) (h:Hp) (hj:SlOf 1 byr j dj) (hp:SlOf 1 byr p dp) (hjl:j.length≤100000000) (hpl:p.length≤1000000000):∃ d',R b7v [dj,dp] h=some (.tup [d',.int .i64 (a7r j p)],h)∧SlOf 1 byr (a8O j p) d':=by
 rw [d1u]
 have w1:=wrap_i64 (n:=(j.length:Int)+8) (by omega) (by omega)
 have w2:=wrap_i64 (n:=(j.length:Int)+8+p.length) (by omega) (by omega)
 have hsn:∀ n:Int,scope h h (.tup [.nils,.int .i64 n])=some (.tup [.nils,.int .i64 n],h):=fun n=>a0M (by simp) (.tup _ fun d hd=>by simp at hd;rcases hd with rfl | rfl <;> constructor) (Nat.le_refl _) fun _ _=>rfl
 by_cases h0:p.length=0
 ·have he:a7r j p=3:=by simp [-bind_some, a7r,h0]
  exact ⟨.nils,by simp [-bind_some, b5q,a1z hp,h0,he,hsn],.inl ⟨rfl,by simp [-bind_some, a8O,he]⟩⟩
 have hpn:¬ p=[]:=by intro hh;subst hh;simp at h0
 by_cases h1:8388608<p.length
 ·have he:a7r j p=3:=by simp [-bind_some, a7r,h0,h1]
  have h1':(8388608:Int)<p.length:=by omega
  have h0':¬ (p.length:Int)=0:=by omega
  exact ⟨.nils,by simp [-bind_some, b5q,a1z hp,hpn,h1',he,hsn],.inl ⟨rfl,by simp [-bind_some, a8O,he]⟩⟩
 have h1':¬ (8388608:Int)<p.length:=by omega
 have h0':¬ (p.length:Int)=0:=by omega
 by_cases h2:67108864<j.length+8+p.length
 ·have he:a7r j p=16:=by simp [-bind_some, a7r,h0,h1,h2]
  have h2':(67108864:Int)<j.length+8+p.length:=by omega
  exact ⟨.nils,by simp [-bind_some, b5q,a1z hp,a1z hj,hpn,h1',w1,w2,h2',he,hsn],.inl ⟨rfl,by simp [-bind_some, a8O,he]⟩⟩
 have h2':¬ (67108864:Int)<j.length+8+p.length:=by omega
 have he:a7r j p=0:=by simp [-bind_some, a7r,h0,h1,h2]
 suffices Wp (b5q dj dp h) (fun r=>∃ d',r=(.tup [d',.int .i64 0],h)∧SlOf 1 byr (a8O j p) d') by
  obtain ⟨r,e1,d',rfl,h3⟩:=this
  exact ⟨d',by rw [he];exact e1,h3⟩
 have hw:IntKind.wrap .u64 (p.length:Int)=p.length:=a1Q (by omega) (by omega)
 simp only [b5q,bs,a1z hp,a1z hj,a0P,a0x,a0r,w1,w2,h0',h1',h2',decide_false,a0v,if_true,a0g,e0i,if_false,a0d,a2D,hw]
 obtain ⟨d1,g1,e1,o1,len1,keep1,fre1⟩:=c9w p.length h.length h [] .nils (Nat.le_refl _) (Own.nils _ _ _ _) (by simp)
 refine Wp.step e1 ?_
 simp only [bs]
 have ni:∀ q,¬ D.nils.inOb q:=fun q ⟨_,_,hh⟩=>by cases hh
 rw [List.nil_append] at o1
 refine b2Q len1 (Own.nils _ _ _ _) (b5e o1) (by simp [-bind_some, a2K]) fun x2 g2 o2 len2 bel2 keep2 fre2=>?_
 simp only [bs]
 rw [List.nil_append] at o2
 have o1':=o1.keep (h':=g2) fun q hq hin=>keep2 q (o1.lt hin).2 (ni q)
 refine b2Q (by omega) o2 (a2l _ hp) (by simp [-bind_some, a2K];omega) fun x3 g3 o3 len3 bel3 keep3 fre3=>?_
 simp only [bs]
 have o1'':=o1'.keep (h':=g3) fun q hq hin=>keep3 q (o1'.lt hin).2 fun hx=>by
  rcases fre2 q hx with hh | hh
  ·exact ni q hh
  ·have:=(o1.lt hin).2;omega
 rw [← e0o] at o3
 rw [d5Q (a2A p.length++p) x3 g3 (.inr ⟨_,_,o3⟩) (by simp [-bind_some, a2K];omega)]
 simp only [bs]
 refine b2Q (n0:=h.length) (by omega) (Own.nils _ _ _ _) (a2l _ hj) (by simp;omega) fun x4 g4 o4 len4 bel4 keep4 fre4=>?_
 have hcu:=b6F (a2A p.length++p)
 have hw2:IntKind.wrap .u64 (crc (a2A p.length++p))=crc (a2A p.length++p):=a1Q hcu.1 (by have:=hcu.2;omega)
 simp only [bs,b0O,hw2]
 rw [List.nil_append] at o4
 have o1c:=o1''.keep (h':=g4) fun q hq hin=>keep4 q (o1''.lt hin).2 (ni q)
 obtain ⟨d5,g5,e5,o5,len5,keep5,fre5⟩:=c9w (crc (a2A p.length++p)) h.length g4 _ d1 (by omega) o1c (by simp [-bind_some, a2K])
 refine Wp.step e5 ?_
 simp only [bs]
 have o4':=o4.keep (h':=g5) fun q hq hin=>keep5 q (o4.lt hin).2 fun hx=>by
  rcases fre4 q hin with hh | hh
  ·exact ni q hh
  ·have:=(o1''.lt hx).2;omega
 refine b2Q (by omega) o4' (b5e o5) (by simp [-bind_some, a2K];omega) fun x6 g6 o6 len6 bel6 keep6 fre6=>?_
 simp only [bs]
 refine b2Q (by omega) o6 (a2l _ hp) (by simp [-bind_some, a2K];omega) fun x7 g7 o7 len7 bel7 keep7 fre7=>?_
 simp only [bs,a1d]
 have hrows:List.map byr j++List.map byr (a2A p.length)++List.map byr (a2A (crc (a2A p.length++p)))++List.map byr p=List.map byr (a8O j p):=by
  simp [-bind_some, a8O,he]
 have o8:Own g7 h.length ty5 1 (List.map byr (a8O j p)) x7:=by
  rw [← hrows]
  simpa using o7
 have hsl:=a1R (n0:=h.length) (n:=2) o8 (Nat.le_refl _) (fun a _=>a5s _ g7 _ a)
 rw [a0M (d' := .tup [frz h.length g7 3 x7,.int .i64 0]) (by simp) (.tup _ fun d hd=>by
  simp at hd
  rcases hd with rfl | rfl
  ·exact a1b hsl fun a _=>a7C _ a
  ·constructor) (by omega) (fun q hq=>by
  rw [bel7 q hq,bel6 q hq,keep5 q (by omega) (fun hx=>by have:=(o1c.lt hx).1;omega),bel4 q hq,bel3 q hq,bel2 q hq,keep1 q hq (ni q)])]
 exact .some ⟨_,rfl,hsl⟩
theorem s95 (l r:List (Str × Str)) (d e:D) (h:Hp) (hd:SlOf 2 fld l d) (he:SlOf 2 fld r e) (hl:l.length≤9223372036854775807):R d4e [d,e] h=some (.bool (decide (l=r)),h):=by
 apply Wp.val
 rw [e95]
 simp only [F95,bs,e0h,a2r hd,a2r he,a0A]
 refine Wp.dif ?_ ?_
 ·intro hn
  have hn:l.length≠r.length:=by
   have:¬ (l.length:Int)=r.length:=by simpa using hn
   omega
  have hne:l≠r:=fun hh=>hn (by rw [hh])
  simp only [bs,a0j]
  exact .some (by simp [-bind_some, hne])
 ·intro hn
  have hn:l.length=r.length:=by
   have:(l.length:Int)=r.length:=by simpa using hn
   omega
  refine Wp.loop (fun k ds g=>g=h∧∃ a b c,∃ i:Nat,ds=[a,.int .i64 i,b,c]∧k+i=l.length∧l.take i=r.take i)
   (fun x=>x.2.2=h∧((x.1 = .ret∧nth 0 x.2.1 = .bool false∧l≠r)∨(x.1 = .ext 0∧l=r))) l.length ⟨rfl,_,_,_,0,rfl,rfl,rfl⟩ ?_ ?_
  ·rintro k ds g ⟨rfl,a,b,c,i,rfl,hk,hi⟩
   simp only [c1S,a0e,a0m,bs,e0h,a2r hd,a0o]
   refine Wp.dif ?_ ?_
   ·intro h0
    have h0:i<l.length:=dl_ h0
    have hg:l[i]?=some l[i]:=e0x h0
    have hg2:r[i]?=some (r[i]'(by omega)):=e0x (by omega)
    have hw:=wi_ i (by omega)
    generalize l[i]=x at hg
    generalize r[i]'(by omega)=y at hg2
    simp only [a7a hd,a7a he,Int.natCast_nonneg,if_true,e0r,hg,hg2,Option.map_some,bs,b0Y,b7l]
    refine Wp.dif ?_ ?_
    ·intro hxy
     have hxy:x≠y:=by simpa using hxy
     try simp only [bs]
     refine .some (.inr ⟨by simp,rfl,.inl ⟨rfl,rfl,fun hh=>?_⟩⟩)
     subst hh
     rw [hg] at hg2
     injection hg2 with hg2
     exact hxy hg2
    ·intro hxy
     have hxy:x=y:=by simpa using hxy
     subst hxy
     simp only [a0r,bs,hw]
     refine .some (.inl ⟨rfl,k - 1,by omega,rfl,_,_,_,i+1,rfl,by omega,?_⟩)
     rw [e0u,e0u,hi,hg,hg2]
   ·intro h0
    have h0:i=l.length:=by
     have:¬ (i:Int)<l.length:=by simpa using h0
     omega
    refine .some (.inr ⟨by simp,rfl,.inr ⟨rfl,?_⟩⟩)
    have h1:l.take i=l:=List.take_of_length_le (by omega)
    have h2:r.take i=r:=List.take_of_length_le (by omega)
    rw [← h1,← h2,hi]
  ·rintro ⟨x,ds,g⟩ ⟨rfl,⟨rfl,hx,hne⟩ | ⟨rfl,hll⟩⟩
   ·replace hx:nth 0 ds = .bool false:=hx
    simp only [a2t,a2m,a2H,a0e,bs,hx,a0j]
    exact .some (by simp [-bind_some, hne])
   ·simp only [a0l,a0k,bs,a0j]
    exact .some (by simp [-bind_some, hll])
def c4V (a b:Ev):Bool:=decide (a.a0=b.a0)&&(decide (a.a1=b.a1)&&(decide (a.a2=b.a2)&&(decide (a.a3=b.a3)&&(decide (a.a5=b.a5)&&(decide (a.a6=b.a6)&&(decide (a.s7=b.s7)&&(decide (a.s8=b.s8)&&(decide (a.ls=b.ls)&&decide (a.fs=b.fs)))))))))
def c9R (i j:It):Bool:=decide (i.r=j.r)&&c4V i.e j.e
def idx {α:Type} (pr:α→Bool):Nat→List α→Int
 | _,[] => -1
 | k,x::r=>if pr x=true then k else idx pr (k+1) r
theorem b2p {α:Type} (pr:α→Bool):∀ (l:List α) (k:Nat),decide (0≤idx pr k l)=l.any pr
 | [],k=>by simp [-bind_some, idx]
 | x::r,k=>by
  unfold idx
  by_cases h:pr x=true
  ·simp [-bind_some, h]
  ·simp [-bind_some, h,b2p pr r]
theorem b1s {zs:List Int} {d:D} (hd:a5O .u8 zs d):a0t tab a0L d=some (.int .i64 zs.length):=by
 rcases hd with ⟨rfl,rfl⟩ | rfl
 ·rfl
 ·simp [-bind_some, b4N]
theorem s57 (o pos:Nat) (zs:List Int) (d:D) (h:Hp) (ho:h[o]?=some (.row a5e 2 [[d,.int .i64 pos]])) (hd:a5O .u8 zs d):R d0r [.ptr o 0 0] h=some (.bool (decide (pos<zs.length)),h):=by
 rw [e57]
 simp [-bind_some, F57,Hp.row,ho,b1s hd]
theorem c1a {zs:List Int} {d:D} (hd:a5O .u8 zs d) (i:Nat) (z:Int) (hz:zs[i]?=some z):a0b tab a0L d (.int .i64 i)=some (.fptr [.int .u8 z]):=by
 rcases hd with ⟨rfl,rfl⟩ | rfl
 ·cases hz
 ·simp [-bind_some, b4N,hz]
theorem b5T (h:Hp) (o k f:Nat) (v:D):a0p tab h ty3 (.ptr o k f) v=pSt 1 h (.ptr o k f) v:=rfl
theorem s24 (o pos:Nat) (zs:List Int) (d:D) (n z:Int) (h:Hp) (ho:h[o]?=some (.row a5e 2 [[d,.int .i64 pos]])) (hd:a5O .u8 zs d) (hn:1≤n) (hn2:n≤1000000000) (hz:zs[pos]?=some z) (hz0:0≤z) (hz1:z<256) (hl:zs.length≤1000) :
  R a5H [.ptr o 0 0,.int .i64 n] h=some (.int .i64 (z*n / 256),h.set o (.row a5e 2 [[d,.int .i64 ((pos+1:Nat):Int)]])):=by
 have hp:pos<zs.length:=(e0y.1 hz).1
 have hn':¬ n<1:=by omega
 have hw:IntKind.wrap .i64 ((pos:Int)+1)=(pos:Int)+1:=wrap_i64 (by omega) (by omega)
 have hzw:IntKind.wrap .i64 z=z:=wrap_i64 (by omega) (by omega)
 rw [e24]
 simp [-bind_some, F24,s57 o pos zs d h ho hd,hp,hn',Hp.row,ho,c1a hd pos z hz,hw,hzw,b5T,pSt,D.okv,a0B,D.one,spl]
 have h0:0≤z*n:=Int.mul_nonneg hz0 (by omega)
 have h1:z*n≤255*1000000000:=Int.mul_le_mul (by omega) hn2 (by omega) (by omega)
 have e1:IntKind.wrap .i64 (z*n)=z*n:=wrap_i64 (by omega) (by omega)
 rw [e1,Int.tdiv_eq_ediv_of_nonneg h0,wrap_i64 (by omega) (by omega)]
def CO (h:Hp) (o:Nat) (rest:List Int):Prop:=∃ (d:D) (zs:List Int) (pos:Nat),h[o]?=some (.row a5e 2 [[d,.int .i64 pos]])∧a5O .u8 zs d∧zs.length≤1000∧rest=zs.drop pos∧∀ z∈zs,0≤z∧z<256
def nx (n:Int):List Int→Int × List Int
 | []=>(0,[])
 | z::r=>if n<1 then (0,z::r) else (z*n / 256,r)
theorem c4y {h:Hp} {o:Nat} {rest:List Int} (hc:CO h o rest):R d0r [.ptr o 0 0] h=some (.bool (decide (rest≠[])),h):=by
 obtain ⟨d,zs,pos,ho,hd,hl,rfl,hz⟩:=hc
 rw [s57 o pos zs d h ho hd]
 have:(pos<zs.length)↔zs.drop pos≠[]:=by
  rw [ne_eq,List.drop_eq_nil_iff];omega
 congr 3
 exact decide_eq_decide.2 this
theorem c4H {h:Hp} {o:Nat} {rest:List Int} (hc:CO h o rest) (n:Int) (hn2:n≤1000000000):∃ h',R a5H [.ptr o 0 0,.int .i64 n] h=some (.int .i64 (nx n rest).1,h')∧CO h' o (nx n rest).2∧Same o h h':=by
 have hl:=c4y hc
 cases hr:rest with
 | nil =>
  subst hr
  refine ⟨h,?_,hc,.refl _ _⟩
  rw [e24]
  simp [-bind_some, F24,hl,nx]
 | cons z r =>
  by_cases hn:n<1
  ·refine ⟨h,?_,by simpa [-bind_some, nx,hn,hr] using hc,.refl _ _⟩
   rw [e24]
   simp [-bind_some, F24,hl,nx,hn,hr]
  ·obtain ⟨d,zs,pos,ho,hd,hl4,hrest,hz⟩:=hc
   have hzp:zs[pos]?=some z:=by
    have:(zs.drop pos)[0]?=some z:=by rw [← hrest,hr];rfl
    simpa using this
   have hm:=hz z (e0w hzp)
   have holt:o<h.length:=(e0y.1 ho).1
   refine ⟨_,(s24 o pos zs d n z h ho hd (by omega) hn2 hzp hm.1 hm.2 hl4).trans (by rw [show (nx n (z::r)).1=z*n / 256 by simp [-bind_some, nx,hn]]),?_,?_⟩
   ·refine ⟨d,zs,pos+1,by simp [-bind_some, holt],hd,hl4,?_,hz⟩
    have:(zs.drop pos).drop 1=r:=by rw [← hrest,hr];rfl
    simpa [-bind_some, nx,hn] using this.symm
   ·exact ⟨by simp,fun q hq=>by rw [e0I (by omega)]⟩
theorem b5a (n:Int) (rest:List Int) (h:∀ z∈rest,0≤z∧z<256):0≤(nx n rest).1∧(1≤n→(nx n rest).1<n):=by
 cases rest with
 | nil=>simp [-bind_some, nx];omega
 | cons z r =>
  have:=h z (by simp)
  unfold nx
  by_cases hn:n<1
  ·simp [-bind_some, hn];omega
  ·simp only [hn,if_false]
   have h0:0≤z*n:=Int.mul_nonneg this.1 (by omega)
   have h1:z*n≤255*n:=Int.mul_le_mul_of_nonneg_right (by omega) (by omega)
   constructor
   ·omega
   ·intro _;omega
def CD (h:Hp) (o:Nat):Prop:=∃ rest,CO h o rest
theorem CD.keep {h h':Hp} {o:Nat} (hc:CD h o) (he:h'[o]?=h[o]?):CD h' o:=by
 obtain ⟨rest,d,zs,pos,ho,hr⟩:=hc
 exact ⟨rest,d,zs,pos,by rw [he];exact ho,hr⟩
theorem CD.lt {h:Hp} {o:Nat} (hc:CD h o):o<h.length:=by
 obtain ⟨rest,d,zs,pos,ho,hr⟩:=hc
 exact (e0y.1 ho).1
theorem CD.ok {h:Hp} {o:Nat} (hc:CD h o) (n:Nat):∀ T sz rows,h[o]?=some (.row T sz rows)→∀ row∈rows,∀ d∈row,Ok n d:=by
 obtain ⟨rest,d,zs,pos,ho,hd,_⟩:=hc
 intro T sz rows hr row hrow x hx
 rw [ho] at hr
 injection hr with hr
 injection hr with _ _ hr
 subst hr
 simp at hrow
 subst hrow
 simp at hx
 rcases hx with rfl | rfl
 ·exact b7T hd n
 ·exact .int _ _
theorem a2h {h:Hp} {o:Nat} (hc:CD h o) (n:Int) (hn:1≤n) (hn2:n≤1000000000):∃ v h',R a5H [.ptr o 0 0,.int .i64 n] h=some (.int .i64 v,h')∧CD h' o∧Same o h h'∧0≤v∧v<n:=by
 obtain ⟨rest,hc⟩:=hc
 obtain ⟨h',h1,h2,h3⟩:=c4H hc n hn2
 have hb:∀ z∈rest,0≤z∧z<256:=by
  obtain ⟨d,zs,pos,ho,hd,hl,rfl,hz⟩:=hc
  exact fun z hz'=>hz z (List.mem_of_mem_drop hz')
 exact ⟨_,h',h1,⟨_,h2⟩,h3,(b5a n rest hb).1,(b5a n rest hb).2 hn⟩
theorem d7h {h:Hp} {o:Nat} (hc:CD h o):∃ s h',R c0V [.ptr o 0 0] h=some (.str s,h')∧CD h' o∧Same o h h'∧s.length≤7:=by
 obtain ⟨v,h',h1,h2,h3,h4,h5⟩:=a2h hc 14 (by omega) (by omega)
 obtain ⟨s,hs,hg⟩:=a5D lt98_10 v h4 h5
 refine ⟨s,h',?_,h2,h3,?_⟩
 ·rw [d7E];simp [-bind_some, d7b,h1,h4,hg]
 ·exact (show ∀ s∈lt98_10,s.length≤7 by decide) s hs
theorem d33 {h:Hp} {o:Nat} (hc:CD h o):∃ s h',R d3X [.ptr o 0 0] h=some (.str s,h')∧CD h' o∧Same o h h'∧s.length≤19:=by
 obtain ⟨v,h',h1,h2,h3,h4,h5⟩:=a2h hc 11 (by omega) (by omega)
 obtain ⟨s,hs,hg⟩:=a5D lt98_1 v h4 h5
 refine ⟨s,h',?_,h2,h3,?_⟩
 ·rw [e33];simp [-bind_some, F33,h1,h4,hg]
 ·exact (show ∀ s∈lt98_1,s.length≤19 by decide) s hs
theorem d97 {h:Hp} {o:Nat} (hc:CD h o):∃ n h',R d0x [.ptr o 0 0] h=some (.int .i64 n,h')∧CD h' o∧Same o h h'∧1≤n∧n≤5040∧Int.tmod 5040 n=0:=by
 obtain ⟨v,h',h1,h2,h3,h4,h5⟩:=a2h hc 6 (by omega) (by omega)
 obtain ⟨s,hs,hg⟩:=a5D lt82_8 v h4 h5
 refine ⟨s,h',?_,h2,h3,?_⟩
 ·rw [e97];simp [-bind_some, F97,h1,h4,hg]
 ·exact (show ∀ s∈lt82_8,1≤s∧s≤5040∧Int.tmod 5040 s=0 by decide) s hs
theorem d35 {h:Hp} {o:Nat} (hc:CD h o):∃ n h',R d0q [.ptr o 0 0] h=some (.int .i64 n,h')∧CD h' o∧Same o h h'∧0≤n∧n≤253402300799999:=by
 obtain ⟨v,h',h1,h2,h3,h4,h5⟩:=a2h hc 4 (by omega) (by omega)
 rw [e35]
 by_cases v0:v=0
 ·obtain ⟨u,g',g1,g2,g3,g4,g5⟩:=a2h h2 40 (by omega) (by omega)
  refine ⟨u*86400000,g',?_,g2,h3.trans g3,by omega,by omega⟩
  simp [-bind_some, F35,h1,v0,g1,wrap_i64 (n:=u*86400000) (by omega) (by omega)]
 ·by_cases v1:v=1
  ·obtain ⟨u,g',g1,g2,g3,g4,g5⟩:=a2h h2 3 (by omega) (by omega)
   refine ⟨253402300799999 - u*86400000,g',?_,g2,h3.trans g3,by omega,by omega⟩
   simp [-bind_some, F35,h1,v0,v1,g1,wrap_i64 (n:=u*86400000) (by omega) (by omega),wrap_i64 (n:=253402300799999 - u*86400000) (by omega) (by omega)]
  ·obtain ⟨u,g',g1,g2,g3,g4,g5⟩:=a2h h2 60 (by omega) (by omega)
   refine ⟨1000+u,g',?_,g2,h3.trans g3,by omega,by omega⟩
   simp [-bind_some, F35,h1,v0,v1,g1,wrap_i64 (n:=1000+u) (by omega) (by omega)]
structure St (h0:Hp) (o:Nat) (g:Hp):Prop where
 lt:o<h0.length
 cd:CD g o
 gr:Grow h0.length o h0 g
theorem St.refl {h:Hp} {o:Nat} (hc:CD h o):St h o h:=⟨hc.lt,hc,.refl _ _ _⟩
theorem St.next {h0 g g':Hp} {o:Nat} (s:St h0 o g) (hc:CD g' o) (hs:Same o g g'):St h0 o g':=⟨s.lt,hc,s.gr.trans hs.grow⟩
theorem St.app {h0 g g':Hp} {o:Nat} (s:St h0 o g) (hl:g.length≤g'.length) (hb:∀ q,q<h0.length→g'[q]?=g[q]?):St h0 o g':=⟨s.lt,s.cd.keep (hb o s.lt),s.gr.trans ⟨hl,fun q hq _=>hb q hq⟩⟩
theorem St.le {h0 g:Hp} {o:Nat} (s:St h0 o g):h0.length≤g.length:=s.gr.1
theorem St.scope {h0 g:Hp} {o:Nat} (s:St h0 o g) {d d':D} (hd:frz h0.length g 4 d=d') (hok:Ok h0.length d'):∃ h',scope h0 g d=some (d',h')∧CD h' o∧Same o h0 h':=by
 obtain ⟨h1,h2,h3⟩:=b5R hd hok s.gr (s.cd.ok h0.length)
 exact ⟨_,h1,s.cd.keep (h3 o s.lt),h2⟩
theorem d44 (zs:List Int) (d:D) (n:Int) (h:Hp) (hd:a5O .u8 zs d) (hn:0≤n) (hn2:n≤1000) (hz:∀ z∈zs,0≤z∧z<256):∃ h',R d3Y [d,.int .i64 n] h=some (.ptr h.length 0 0,h')∧CD h' h.length∧h'.length=h.length+1:=by
 rw [e44]
 have hm:∃ m:Int,b9S (.int .i64 zs.length) (.int .i64 n)=some (.int .i64 m)∧0≤m∧m≤zs.length∧m≤1000:=by
  rw [b3O]
  split
  ·exact ⟨_,rfl,by omega,by omega,by omega⟩
  ·exact ⟨_,rfl,by omega,by omega,by omega⟩
 obtain ⟨m,hm,h0,h1,h2⟩:=hm
 obtain ⟨d',hs,hg⟩:=c0Z (T:=tab) (t:=a0L) (i:=ti22) (j:=ti5) (id rfl) (id rfl) (id rfl) (id rfl) hd (k2 := .i64) h0 h1
 simp only [F44,bs,b1s hd,hm,hs,c3I d' (b7U hg)]
 rw [a3l a5e 2 h [d',.int .i64 0] rfl (by omega)]
 refine ⟨_,rfl,⟨_,d',zs.take m.toNat,0,by simp [-bind_some, a0C],hg,?_,rfl,fun z hz'=>hz z (List.mem_of_mem_take hz')⟩,by simp [-bind_some, a0C]⟩
 simp [-bind_some];omega
theorem d96 {h:Hp} {o:Nat} (hc:CD h o):∃ s h',R d0w [.ptr o 0 0] h=some (.str s,h')∧CD h' o∧Same o h h'∧s.length≤34:=by
 suffices Wp (R d0w [.ptr o 0 0] h) (fun p=>∃ s,p.1 = .str s∧CD p.2 o∧Same o h p.2∧s.length≤34) by
  obtain ⟨⟨x,h'⟩,h1,s,rfl,h2⟩:=this
  exact ⟨s,h',h1,h2⟩
 rw [e96]
 simp only [F96,bs,e0h]
 obtain ⟨s,h1,e1,c1,s1,b1⟩:=d7h hc
 refine Wp.step e1 ?_
 simp only [bs]
 obtain ⟨v,h2,e2,c2,s2,v0,v1⟩:=a2h c1 4 (by omega) (by omega)
 refine Wp.step e2 ?_
 simp only [bs]
 refine Wp.loop (fun k ds g=>∃ s a,ds=[.str s,.int .i64 k,a]∧CD g o∧Same o h g∧k≤3∧s.length+9*k≤34) (fun r=>r.1 = .ext 0∧∃ s a b,r.2.1=[.str s,a,b]∧CD r.2.2 o∧Same o h r.2.2∧s.length≤34) v.toNat ⟨s,.any,by rw [Int.toNat_of_nonneg v0],c2,s1.trans s2,by omega,by omega⟩ ?_ ?_
 ·rintro k ds g ⟨s,a,rfl,cg,sg,hk,hs⟩
  simp only [c1T,a0e,a0m,bs,a0x]
  refine Wp.dif ?_ ?_
  ·intro h0
   have h0:0<(k:Int):=by simpa using h0
   simp only [b8C,bs]
   obtain ⟨v,h2,e2,c2,s2,v0,v1⟩:=a2h cg 5 (by omega) (by omega)
   obtain ⟨u,hu,hg⟩:=a5D lt98_7 v v0 v1
   have hul:=(show ∀ s∈lt98_7,s.length≤2 by decide) u hu
   refine Wp.step e2 ?_
   simp only [c8s,v0,if_true,e0v,hg,Option.map_some,bs,ld9]
   obtain ⟨w,h3,e3,c3,s3,b3⟩:=d7h c2
   refine Wp.step e3 ?_
   rw [b0P _ _ _ _ (by omega)]
   simp only [bs]
   rw [b0P _ _ _ _ (by simp;omega)]
   have hk1:IntKind.wrap .i64 ((k:Int) - 1)=((k - 1:Nat):Int):=by
    rw [wrap_i64 (by omega) (by omega)];omega
   simp only [bs,a0N,a1v,hk1]
   exact .some (.inl ⟨rfl,k - 1,by omega,s++(u++w),_,rfl,c3,(sg.trans s2).trans s3,by omega,by simp;omega⟩)
  ·intro _
   exact .some (.inr ⟨by simp,rfl,s,_,_,rfl,cg,sg,by omega⟩)
 ·rintro ⟨x,ds,g⟩ ⟨rfl,s,a,b,rfl,cg,sg,hs⟩
  simp only [a0l,a0k,a0e,bs,a0j]
  exact .some ⟨s,rfl,cg,sg,hs⟩
def d0j (l:List (Str × Str)):Prop:=(l.map (·.1)).Sublist lt98_9∧∀ p∈l,p.2.length≤19
theorem d98 {h:Hp} {o:Nat} (hc:CD h o):∃ x h',R c8e [.ptr o 0 0] h=some (x,h')∧CD h' o∧Same o h h'∧∃ l,SlOf 2 fld l x∧d0j l:=by
 suffices Wp (R c8e [.ptr o 0 0] h) (fun p=>CD p.2 o∧Same o h p.2∧∃ l,SlOf 2 fld l p.1∧d0j l) by
  obtain ⟨⟨x,h'⟩,h1,h2⟩:=this
  exact ⟨x,h',h1,h2⟩
 rw [e98]
 simp only [F98,bs,e0h,b8D]
 refine Wp.loop (fun k ds g=>∃ x a b,∃ (i:Nat) (l:List (Str × Str)),ds=[x,.int .i64 i,a,b]∧St h o g∧k+i=4∧Own g h.length a0T 2 (l.map fld) x∧(l.map (·.1)).Sublist (lt98_9.take i)∧∀ p∈l,p.2.length≤19)
  (fun r=>r.1 = .ext 0∧∃ x a b c l,r.2.1=[x,a,b,c]∧St h o r.2.2∧Own r.2.2 h.length a0T 2 (l.map fld) x∧d0j l) 4 ⟨.nils,.any,.any,0,[],rfl,.refl hc,rfl,Own.nils _ _ _ _,by simp,by simp⟩ ?_ ?_
 ·rintro k ds g ⟨x,a,b,i,l,rfl,S,hk,ow,hsub,hv⟩
  have hw:IntKind.wrap .i64 ((i:Int)+1)=(i+1:Nat):=by
   rw [wrap_i64 (by omega) (by omega)];omega
  simp only [c1U,a0e,a0m,bs,d5D,e0n,b5M,a0o]
  refine Wp.dif ?_ ?_
  ·intro h0
   have h0:i<4:=dl_ h0
   obtain ⟨v,h1,e1,c1,s1,v0,v1⟩:=a2h S.cd 3 (by omega) (by omega)
   have S1:=S.next c1 s1
   replace ow:=ow.same s1 hc.lt
   refine Wp.step e1 ?_
   simp only [a0P,bs]
   refine Wp.join (P:=fun r=>∃ x g,∃ l:List (Str × Str),r=(.nrm,[x],g)∧St h o g∧Own g h.length a0T 2 (l.map fld) x∧(l.map (·.1)).Sublist (lt98_9.take (i+1))∧∀ p∈l,p.2.length≤19) ?_ ?_ ?_
   ·intro _
    have hg:lt98_9[i]?=some lt98_9[i]:=e0x h0
    simp only [c8s,Int.natCast_nonneg,if_true,e0r,e0v,hg,Option.map_some,bs,ld9]
    obtain ⟨u,h2,e2,c2,s2,hu⟩:=d33 S1.cd
    have S2:=S1.next c2 s2
    replace ow:=ow.same s2 hc.lt
    refine Wp.step e2 ?_
    simp only [bs,b6q,c7E]
    have hll:l.length≤4:=by
     have:=hsub.length_le
     simp at this
     omega
    refine c5m S2.le ow (a1e _ _ _ _) (by simp;omega) fun x' g' ow len bel _ _=>?_
    simp only [bs,a1v]
    refine .some ⟨x',g',l++[(lt98_9[i],u)],rfl,S2.app len bel,by rw [e0o];exact ow,?_,?_⟩
    ·rw [e0u,hg,e0o]
     exact hsub.append (List.Sublist.refl _)
    ·intro p hp
     rcases e0E.1 hp with hp | hp
     ·exact hv p hp
     ·simp at hp;subst hp;exact hu
   ·intro _
    refine .some ⟨_,_,l,rfl,S1,ow,hsub.trans ?_,hv⟩
    rw [e0u]
    exact List.sublist_append_left _ _
   ·rintro _ ⟨x,g,l,rfl,S,ow,hsub,hv⟩
    simp only [a1u,a0k,a0e,a0r,bs,hw]
    exact .some (.inl ⟨rfl,k - 1,by omega,x,_,_,i+1,l,rfl,S,by omega,ow,hsub,hv⟩)
  ·intro h0
   have h0:¬ i<4:=by
    have:¬ (i:Int)<4:=by simpa using h0
    omega
   refine .some (.inr ⟨by simp,rfl,x,_,_,_,l,rfl,S,ow,hsub.trans (List.take_sublist _ _),hv⟩)
 ·rintro ⟨x,ds,g⟩ ⟨rfl,x,a,b,c,l,rfl,S,ow,hl⟩
  simp only [a0l,a0k,a0e,bs,a0j]
  have hsl:=a1R (n:=3) ow (Nat.le_refl _) (fun a _=>a4y _ g _ a)
  obtain ⟨h',hs,hcd,hsm⟩:=S.scope rfl (a1b hsl fun a _=>b4b _ a)
  exact ⟨_,hs,hcd,hsm,l,hsl,hl⟩
def chain:Int→List Lin→Int→Prop
 | a,[],b=>a=b
 | a,l::r,b=>l.off=a∧1≤l.len∧l.len≤36∧l.txt.length+1≤l.len∧chain (a+l.len) r b
theorem a8B:∀ (ls:List Lin) (a b:Int) (l:Lin),chain a ls b→l.off=b→1≤l.len→l.len≤36→l.txt.length+1≤l.len→chain a (ls++[l]) (b+l.len)
 | [],a,b,l,h,h1,h2,h3,h4=>by
  simp only [chain] at h
  subst h
  exact ⟨h1,h2,h3,h4,rfl⟩
 | x::r,a,b,l,h,h1,h2,h3,h4=>⟨h.1,h.2.1,h.2.2.1,h.2.2.2.1,a8B r _ b l h.2.2.2.2 h1 h2 h3 h4⟩
def a5q (l:Lin):Lin:={ l with txt:=[] }
theorem a5t:∀ (ls:List Lin) (a b:Int),chain a ls b→chain a (ls.map a5q) b
 | [],a,b,h=>h
 | x::r,a,b,h=>⟨h.1,h.2.1,h.2.2.1,by simp [-bind_some, a5q];exact h.2.1,a5t r _ b h.2.2.2.2⟩
theorem a2C:∀ (ls:List Lin) (a b:Int),chain a ls b→a+ls.length≤b∧b≤a+36*ls.length
 | [],a,b,h=>by simp [-bind_some, chain] at h;simp [-bind_some];omega
 | x::r,a,b,h=>by
  have:=a2C r _ b h.2.2.2.2
  have:=h.2.1
  have:=h.2.2.1
  simp only [e0z]
  omega
structure ItOK (hst fil frm:Int) (i:It):Prop where
 host:i.e.a0=hst
 file:i.e.a1=fil
 fr:i.e.a2=frm
 ch:chain frm i.e.ls i.e.a3
 n1:1≤i.e.ls.length
 n3:i.e.ls.length≤3
 ev:i.r=[]→0≤i.e.a5∧i.e.a5≤253402300799999∧1≤i.e.a6∧i.e.a6≤5040∧i.e.s7∈lt98_5∧i.e.s8∈lt98_6∧d0j i.e.fs∧∀ l∈i.e.ls,l.len≤l.txt.length+2
 wt:i.r=[]→Int.tmod 5040 i.e.a6=0
 sk:i.r≠[]→i.r∈lt98_4∧i.e.a5=0∧i.e.a6=0∧i.e.s7=[]∧i.e.s8=[]∧i.e.fs=[]∧∀ l∈i.e.ls,l.txt=[]
theorem b1M (ls:List Lin) (i:Nat) (hi:i<ls.length):(((ls.take i).map a5q++ls.drop i).map a1D).set i (a1D (a5q ls[i]))=((ls.take (i+1)).map a5q++ls.drop (i+1)).map a1D:=by
 rw [List.drop_eq_getElem_cons hi,e0u,e0x hi]
 simp only [e0o,e0p,Option.toList_some,e0q]
 rw [List.set_append_right _ _ (by simp;omega)]
 simp [-bind_some, Nat.min_eq_left (Nat.le_of_lt hi)]
theorem b1r (ls:List Lin) (i:Nat) (hi:i<ls.length):(((ls.take i).map a5q++ls.drop i).map a1D)[i]?=some (a1D ls[i]):=by
 rw [List.drop_eq_getElem_cons hi,e0v,List.getElem?_append_right (by simp;omega)]
 simp [-bind_some, Nat.min_eq_left (Nat.le_of_lt hi)]
 exact ⟨_,e0x hi,rfl⟩
theorem d5A {h:Hp} {q T z:Nat} {cs:List D} (hq:h[q]?=some (.row T z [cs])) (hl:cs.length=10):a0c tab h a0y (.ptr q 0 0)=some (.agg cs):=by
 rw [b8j,a0F hq]
 simp [-bind_some, a8u,hl]
 exact List.take_of_length_le (by omega)
theorem a4E {h:Hp} {q T z:Nat} {cs:List D} (hq:h[q]?=some (.row T z [cs])) (hl:cs.length=11):a0c tab h a0z (.ptr q 0 0)=some (.agg cs):=by
 rw [b2y,a0F hq]
 simp [-bind_some, a8u,hl]
 exact List.take_of_length_le (by omega)
theorem b8y:∀ s∈lt98_4,s≠[]:=by decide
theorem d84 {h:Hp} {o:Nat} (hc:CD h o) (host file fr:Int) (hf0:0≤fr) (hf1:fr≤1000000000):∃ i h',R d0u [.ptr o 0 0,.int .i64 host,.int .i64 file,.int .i64 fr] h=some (.agg (itr i),h')∧CD h' o∧Same o h h'∧ItOK host file fr i:=by
 suffices Wp (R d0u [.ptr o 0 0,.int .i64 host,.int .i64 file,.int .i64 fr] h) (fun p=>∃ i,p.1 = .agg (itr i)∧CD p.2 o∧Same o h p.2∧ItOK host file fr i) by
  obtain ⟨⟨x,h'⟩,h1,i,rfl,h2⟩:=this
  exact ⟨i,h',h1,h2⟩
 have ho:=hc.lt
 rw [e84]
 simp only [F84,bs,e0h,b5v]
 generalize hg0:a0C (a0C h a0z 11 [[.str [],.int .i64 0,.int .i64 0,.int .i64 0,.int .i64 0,.nils,.int .i64 0,.int .i64 0,.str [],.str [],.nils]]) a0y 10 [[.int .i64 0,.int .i64 0,.int .i64 0,.int .i64 0,.nils,.int .i64 0,.int .i64 0,.str [],.str [],.nils]]=g0
 have S0:St h o g0:=(St.refl hc).app (by simp [-bind_some, ← hg0,a0C]) (fun q hq=>by simp only [← hg0,a0C];rw [e0H (by simp;omega),e0H hq])
 have p8:g0[h.length]?=some (.row a0z 11 [[.str [],.int .i64 0,.int .i64 0,.int .i64 0,.int .i64 0,.nils,.int .i64 0,.int .i64 0,.str [],.str [],.nils]]):=by
  simp only [← hg0,a0C];rw [e0H (by simp),List.getElem?_append_right (Nat.le_refl _)];simp [-bind_some]
 have p9:g0[h.length+1]?=some (.row a0y 10 [[.int .i64 0,.int .i64 0,.int .i64 0,.int .i64 0,.nils,.int .i64 0,.int .i64 0,.str [],.str [],.nils]]):=by
  simp only [← hg0,a0C];rw [List.getElem?_append_right (by simp)];simp [-bind_some]
 have hl9:(a0C h a0z 11 [[.str [],.int .i64 0,.int .i64 0,.int .i64 0,.int .i64 0,.nils,.int .i64 0,.int .i64 0,.str [],.str [],.nils]]).length=h.length+1:=by simp [-bind_some, a0C]
 rw [hl9]
 clear hl9 hg0
 have sm:∀ {a b:Hp},Same (h.length+1) a b→Grow h.length o a b:=fun s=>⟨Nat.le_of_eq s.1.symm,fun q hq _=>s.2 q (by omega)⟩
 refine c1L p9 (by rfl) (by rfl) (by simp) (by rfl) fun g1 q9 sg=>?_
 replace q9:g1[h.length+1]?=some (.row a0y 10 [[.int .i64 host,.int .i64 file,.int .i64 fr,.int .i64 0,.nils,.int .i64 0,.int .i64 0,.str [],.str [],.nils]]):=q9
 replace p8:=(sg.2 h.length (by omega)).trans p8
 have S1:St h o g1:=S0.app (Nat.le_of_eq sg.1.symm) fun q hq=>sg.2 q (by omega)
 clear p9 sg S0
 obtain ⟨v,h1,e1,c1,s1,v0,v1⟩:=a2h S1.cd 3 (by omega) (by omega)
 replace q9:=(s1.2 (h.length+1) (by omega)).trans q9
 replace p8:=(s1.2 h.length (by omega)).trans p8
 have S2:=S1.next c1 s1
 refine Wp.step e1 ?_
 simp only [a0r,bs]
 rw [wrap_i64 (n:=1+v) (by omega) (by omega)]
 refine Wp.loop (fun k ds g=>∃ po:Int,∃ a b c x,∃ ls:List Lin,ds=[.int .i64 po,.int .i64 k,a,b,c]∧St h o g∧g[h.length]?=some (.row a0z 11 [[.str [],.int .i64 0,.int .i64 0,.int .i64 0,.int .i64 0,.nils,.int .i64 0,.int .i64 0,.str [],.str [],.nils]])
   ∧ g[h.length+1]?=some (.row a0y 10 [[.int .i64 host,.int .i64 file,.int .i64 fr,.int .i64 0,x,.int .i64 0,.int .i64 0,.str [],.str [],.nils]])∧Own g (h.length+2) a1Z 3 (ls.map a1D) x∧chain fr ls po∧ls.length+k=(1+v).toNat∧∀ l∈ls,l.len≤l.txt.length+2)
  (fun r=>r.1 = .ext 0∧∃ po:Int,∃ a b c d x,∃ ls:List Lin,r.2.1=[.int .i64 po,a,b,c,d]∧St h o r.2.2∧r.2.2[h.length]?=some (.row a0z 11 [[.str [],.int .i64 0,.int .i64 0,.int .i64 0,.int .i64 0,.nils,.int .i64 0,.int .i64 0,.str [],.str [],.nils]])
   ∧ r.2.2[h.length+1]?=some (.row a0y 10 [[.int .i64 host,.int .i64 file,.int .i64 fr,.int .i64 0,x,.int .i64 0,.int .i64 0,.str [],.str [],.nils]])∧Own r.2.2 (h.length+2) a1Z 3 (ls.map a1D) x∧chain fr ls po∧1≤ls.length∧ls.length≤3∧∀ l∈ls,l.len≤l.txt.length+2)
  (1+v).toNat ⟨fr,.any,.any,.any,.nils,[],by rw [Int.toNat_of_nonneg (by omega)],S2,p8,q9,Own.nils _ _ _ _,rfl,by simp,by simp⟩ ?_ ?_
 ·clear e1 S1 S2 q9 p8 c1 s1
  rintro k ds g ⟨po,a,b,c,x,ls,rfl,S,p8,p9,ow,hch,hk,htx⟩
  simp only [c1P,a0e,a0m,bs,a0x]
  refine Wp.dif ?_ ?_
  ·intro h0
   have h0:0<(k:Int):=by simpa using h0
   obtain ⟨t,g1,e1,c1,s1,ht⟩:=d96 S.cd
   have S1:=S.next c1 s1
   refine Wp.step e1 ?_
   simp only [a5I,a0r,bs]
   obtain ⟨u,g2,e2,c2,s2,u0,u1⟩:=a2h c1 2 (by omega) (by omega)
   have S2:=S1.next c2 s2
   have s12:=s1.trans s2
   replace p9:=(s12.2 (h.length+1) (by omega)).trans p9
   replace p8:=(s12.2 h.length (by omega)).trans p8
   replace ow:=ow.same s12 (by omega)
   refine Wp.step e2 ?_
   have w1:=wrap_i64 (n:=(t.length:Int)+1) (by omega) (by omega)
   have w2:=wrap_i64 (n:=(t.length:Int)+1+u) (by omega) (by omega)
   simp only [bs,e0h,a0r,w1,w2,a2c,a7b,a0F p9,e0k,bs,Nat.zero_add,List.drop_succ_cons,List.drop_zero,List.head?_cons,b5w,c7C]
   have hlt:h.length+1<g2.length:=(e0y.1 p9).1
   have hcl:=a2C _ _ _ hch
   refine b5W (by omega) ow (a1e _ _ _ _) (by simp;omega) fun x' g3 ow3 len bel keep _=>?_
   have S3:=S2.app len fun q hq=>bel q (by omega)
   replace p9:=(bel (h.length+1) (by omega)).trans p9
   replace p8:=(bel h.length (by omega)).trans p8
   simp only [bs]
   refine b2T p9 (by rfl) (by cases x' <;> first | rfl | (have:=a2f ow3;simp [-bind_some, D.one] at this)) (by simp) (by cases x' <;> first | rfl | (have:=a2f ow3;simp [-bind_some, D.one] at this)) fun g4 p9' sg=>?_
   have hc1:a0B x'=[x']:=by cases x' <;> first | rfl | (have:=a2f ow3;simp [-bind_some, D.one] at this)
   rw [hc1] at p9'
   replace p9:g4[h.length+1]?=some (.row a0y 10 [[.int .i64 host,.int .i64 file,.int .i64 fr,.int .i64 0,x',.int .i64 0,.int .i64 0,.str [],.str [],.nils]]):=p9'
   replace p8:=(sg.2 h.length (by omega)).trans p8
   have S4:St h o g4:=S3.app (Nat.le_of_eq sg.1.symm) fun q hq=>sg.2 q (by omega)
   have ow4:=ow3.keep (h':=g4) fun q hq _=>sg.2 q (by omega)
   have w3:=wrap_i64 (n:=po+((t.length:Int)+1+u)) (by omega) (by omega)
   have hk1:IntKind.wrap .i64 ((k:Int) - 1)=((k - 1:Nat):Int):=by
    rw [wrap_i64 (by omega) (by omega)];omega
   simp only [a0r,bs,a0N,w3,hk1]
   refine .some (.inl ⟨rfl,k - 1,by omega,_,_,_,_,x',ls++[⟨po,(t.length:Int)+1+u,t⟩],rfl,S4,p8,p9,by rw [e0o];exact ow4,a8B _ _ _ _ hch rfl (by simp;omega) (by simp;omega) (by simp;omega),by simp;omega,?_⟩)
   intro l hl
   rcases e0E.1 hl with hl | hl
   ·exact htx l hl
   ·simp at hl;subst hl;simp [-bind_some];omega
  ·intro h0
   have h0:¬ 0<(k:Int):=by simpa using h0
   exact .some (.inr ⟨by simp,rfl,_,_,_,_,_,x,ls,rfl,S,p8,p9,ow,hch,by omega,by omega,htx⟩)
 ·clear e1 S1 S2 q9 p8 c1 s1
  rintro ⟨ex,ds,g⟩ ⟨rfl,po,a,b,c,d,x,ls,rfl,S,p8,p9,ow,hch,hl1,hl3,htx⟩
  simp only [a0l,a0k,a0e,bs,a7O]
  refine b9O p9 (by rfl) (by rfl) (by simp) (by rfl) fun g1 p9' sg=>?_
  replace p9:g1[h.length+1]?=some (.row a0y 10 [[.int .i64 host,.int .i64 file,.int .i64 fr,.int .i64 po,x,.int .i64 0,.int .i64 0,.str [],.str [],.nils]]):=p9'
  replace p8:=(sg.2 h.length (by omega)).trans p8
  have S1:St h o g1:=S.app (Nat.le_of_eq sg.1.symm) fun q hq=>sg.2 q (by omega)
  have ow1:=ow.keep (h':=g1) fun q hq _=>sg.2 q (by omega)
  clear S sg p9' ow
  obtain ⟨v,g2,e2,c2,s2,v0,v1⟩:=a2h S1.cd 5 (by omega) (by omega)
  replace p9:=(s2.2 (h.length+1) (by omega)).trans p9
  replace p8:=(s2.2 h.length (by omega)).trans p8
  have S2:=S1.next c2 s2
  have ow2:=ow1.same s2 (by omega)
  refine Wp.step e2 ?_
  simp only [a0P,bs]
  refine Wp.dif ?_ ?_
  ·intro _
   refine Wp.loop (fun k ds g=>∃ b,∃ i:Nat,ds=[.int .i64 i,b]∧St h o g∧g[h.length]?=some (.row a0z 11 [[.str [],.int .i64 0,.int .i64 0,.int .i64 0,.int .i64 0,.nils,.int .i64 0,.int .i64 0,.str [],.str [],.nils]])
    ∧ g[h.length+1]?=some (.row a0y 10 [[.int .i64 host,.int .i64 file,.int .i64 fr,.int .i64 po,x,.int .i64 0,.int .i64 0,.str [],.str [],.nils]])∧Own g (h.length+2) a1Z 3 (((ls.take i).map a5q++ls.drop i).map a1D) x∧k+i=ls.length)
    (fun r=>r.1 = .ext 2∧∃ a b,r.2.1=[a,b]∧St h o r.2.2∧r.2.2[h.length]?=some (.row a0z 11 [[.str [],.int .i64 0,.int .i64 0,.int .i64 0,.int .i64 0,.nils,.int .i64 0,.int .i64 0,.str [],.str [],.nils]])
    ∧ r.2.2[h.length+1]?=some (.row a0y 10 [[.int .i64 host,.int .i64 file,.int .i64 fr,.int .i64 po,x,.int .i64 0,.int .i64 0,.str [],.str [],.nils]])∧Own r.2.2 (h.length+2) a1Z 3 ((ls.map a5q).map a1D) x) ls.length ⟨.any,0,rfl,S2,p8,p9,by simpa using ow2,rfl⟩ ?_ ?_
   ·clear S1 ow1 e2 c2 s2 S2 p8 p9 ow2
    rintro k ds g ⟨b,i,rfl,S,p8,p9,ow,hk⟩
    have hlen:(((ls.take i).map a5q++ls.drop i).map a1D).length=ls.length:=by simp;omega
    have hlo:=c2D ow
    rw [hlen] at hlo
    simp only [c1Q,a0e,a0m,bs,e0h,a2c,a7b,a0F p9,e0k,Nat.zero_add,List.drop_succ_cons,List.drop_zero,List.head?_cons,hlo,a0o]
    refine Wp.dif ?_ ?_
    ·intro h0
     have hi:i<ls.length:=by
      have:(i:Int)<ls.length:=by simpa using h0
      omega
     obtain ⟨ob,hob,rfl,hgo⟩:=a5m ow (i:=i) (by rw [hlen];exact hi)
     rw [hlen] at *
     have hil:(i:Int)<ls.length:=by omega
     have hw:=wi_ i (by omega)
     simp only [c1g,Int.natCast_nonneg,hil,and_self,if_true,Nat.zero_add,e0r,bs,a3h]
     refine d0f hgo (b1r ls i hi) (by rfl) (by simp [-bind_some, a1D]) (by rfl) fun g1 hg1 sg=>?_
     have hset:(((ls.take i).map a5q++ls.drop i).map a1D).set i (spl (a1D ls[i]) 2 (a0B (.str [])))=((ls.take (i+1)).map a5q++ls.drop (i+1)).map a1D:=b1M ls i hi
     rw [hset] at hg1
     simp only [a0r,bs,hw]
     refine .some (.inl ⟨rfl,k - 1,by omega,_,i+1,rfl,S.app (Nat.le_of_eq sg.1.symm) fun q hq=>sg.2 q (by omega),(sg.2 _ (by omega)).trans p8,(sg.2 _ (by omega)).trans p9,?_,by omega⟩)
     refine .inr ⟨ob,hob,?_,hg1⟩
     congr 1
     simp [-bind_some];omega
    ·intro h0
     have hi:i=ls.length:=by
      have:¬ (i:Int)<ls.length:=by simpa using h0
      omega
     subst hi
     refine .some (.inr ⟨by simp,rfl,_,_,rfl,S,p8,p9,by simpa using ow⟩)
   ·clear S1 ow1 e2 c2 s2 S2 p8 p9 ow2
    rintro ⟨ex,ds,g⟩ ⟨rfl,a,b,rfl,S,p8,p9,ow⟩
    simp only [a0l,a0k,a0e,bs,b8z]
    obtain ⟨v,g1,e1,c1,s1,v0,v1⟩:=a2h S.cd 3 (by omega) (by omega)
    obtain ⟨s,hs,hg⟩:=a5D lt98_4 v v0 v1
    have p9':=(s1.2 (h.length+1) (by omega)).trans p9
    replace p8:=(s1.2 h.length (by omega)).trans p8
    have S1:=S.next c1 s1
    have ow1:=ow.same s1 (by omega)
    refine Wp.step e1 ?_
    simp only [c8s,v0,if_true,e0v,hg,Option.map_some,bs,ld9,d5A p9' rfl,d5A p9 rfl,c0i,a1v]
    refine a6K p8 (by rfl) (by rfl) (by simp) (by rfl) fun g2 q8 sg=>?_
    replace q8:g2[h.length]?=some (.row a0z 11 [[.str s,.int .i64 host,.int .i64 file,.int .i64 fr,.int .i64 po,x,.int .i64 0,.int .i64 0,.str [],.str [],.nils]]):=q8
    have S2:St h o g2:=S1.app (Nat.le_of_eq sg.1.symm) fun q hq=>sg.2 q (by omega)
    have ow2:=ow1.keep (h':=g2) fun q hq _=>sg.2 q (by omega)
    simp only [a4E q8 rfl,bs,a0j]
    have hsl:=a1R (n0:=h.length) (n:=2) ow2 (by omega) (fun a _=>a3c _ g2 _ a)
    have hsl2:=b8y s hs
    obtain ⟨h',hsc,hcd,hsm⟩:=S2.scope (d := .agg [.str s,.int .i64 host,.int .i64 file,.int .i64 fr,.int .i64 po,x,.int .i64 0,.int .i64 0,.str [],.str [],.nils]) (d' := .agg (itr ⟨s,⟨host,file,fr,po,ls.map a5q,frz h.length g2 3 x,0,0,[],[],[],.nils,SlOf.nils _ _,by simp,hsl,by simp;omega⟩⟩)) (by simp [-bind_some, itr,evr]) (a6n _ _)
    rw [hsc]
    refine .some ⟨_,rfl,hcd,hsm,⟨rfl,rfl,rfl,a5t _ _ _ hch,by simpa using hl1,by simpa using hl3,fun h0=>absurd h0 hsl2,fun h0=>absurd h0 hsl2,fun _=>⟨hs,rfl,rfl,rfl,rfl,rfl,?_⟩⟩⟩
    intro l hl
    simp at hl
    obtain ⟨l0,_,rfl⟩:=hl
    rfl
  ·intro _
   clear e2 v0 v1
   obtain ⟨tm,g3,e3,c3,s3,t0,t1⟩:=d35 c2
   refine Wp.step e3 ?_
   simp only [bs]
   obtain ⟨wt,g4,e4,c4,s4,w0,w1,w2⟩:=d97 c3
   refine Wp.step e4 ?_
   have s3x4:=s3.trans s4
   replace p9:=(s3x4.2 (h.length+1) (by omega)).trans p9
   replace p8:=(s3x4.2 h.length (by omega)).trans p8
   have S4:=S2.next c4 s3x4
   have ow4:=ow2.same s3x4 (by omega)
   clear e3 e4 S1 S2 c3 s3 c2 s2 s4 s3x4 ow1 ow2 c4
   simp only [bs,b2h,b2i,b2j,b2k,a4a,Nat.zero_add]
   refine b9O p9 (by rfl) (by rfl) (by simp) (by rfl) fun g5 p9' sg=>?_
   refine b9O p9' (by rfl) (by rfl) (by simp [-bind_some, spl,a0B]) (by rfl) fun g6 p9'' sg2=>?_
   replace sg:=sg.trans sg2
   replace p9:g6[h.length+1]?=some (.row a0y 10 [[.int .i64 host,.int .i64 file,.int .i64 fr,.int .i64 po,x,.int .i64 tm,.int .i64 wt,.str [],.str [],.nils]]):=p9''
   replace p8:=(sg.2 h.length (by omega)).trans p8
   have S6:St h o g6:=S4.app (Nat.le_of_eq sg.1.symm) fun q hq=>sg.2 q (by omega)
   have ow6:=ow4.keep (h':=g6) fun q hq _=>sg.2 q (by omega)
   clear p9' p9'' sg sg2 S4 ow4
   simp only [b8A,bs]
   obtain ⟨v,g7,e7,c7,s7,v0,v1⟩:=a2h S6.cd 4 (by omega) (by omega)
   obtain ⟨tr,htr,hg⟩:=a5D lt98_5 v v0 v1
   refine Wp.step e7 ?_
   simp only [c8s,v0,if_true,e0v,hg,Option.map_some,bs,ld9,b8B]
   obtain ⟨v,g8,e8,c8,s8,v0,v1⟩:=a2h c7 2 (by omega) (by omega)
   obtain ⟨sm',hsm,hg⟩:=a5D lt98_6 v v0 v1
   refine Wp.step e8 ?_
   simp only [c8s,v0,if_true,e0v,hg,Option.map_some,bs,ld9,a1v]
   have s7x8:=s7.trans s8
   replace p9:=(s7x8.2 (h.length+1) (by omega)).trans p9
   replace p8:=(s7x8.2 h.length (by omega)).trans p8
   have S8:=S6.next c8 s7x8
   have ow8:=ow6.same s7x8 (by omega)
   clear e7 e8 S6 c7 s7 s8 s7x8 ow6 c8
   refine d0f p9 (by rfl) (by rfl) (by simp) (by rfl) fun g9 p9' sg=>?_
   refine d0f p9' (by rfl) (by rfl) (by simp [-bind_some, spl,a0B]) (by rfl) fun g10 p9'' sg2=>?_
   replace sg:=sg.trans sg2
   replace p9:g10[h.length+1]?=some (.row a0y 10 [[.int .i64 host,.int .i64 file,.int .i64 fr,.int .i64 po,x,.int .i64 tm,.int .i64 wt,.str tr,.str sm',.nils]]):=p9''
   replace p8:=(sg.2 h.length (by omega)).trans p8
   have S10:St h o g10:=S8.app (Nat.le_of_eq sg.1.symm) fun q hq=>sg.2 q (by omega)
   have ow10:=ow8.keep (h':=g10) fun q hq _=>sg.2 q (by omega)
   clear p9' p9'' sg sg2 S8 ow8
   obtain ⟨y,g11,e11,c11,s11,fs,hy,hfs⟩:=d98 S10.cd
   refine Wp.step e11 ?_
   replace p9:=(s11.2 (h.length+1) (by omega)).trans p9
   replace p8:=(s11.2 h.length (by omega)).trans p8
   have S11:=S10.next c11 s11
   have ow11:=ow10.same s11 (by omega)
   have oc:=a0O (a0X hy)
   refine c1K p9 (by rfl) (by rw [oc.1];rfl) (by simp) oc.2 fun g12 p9' sg=>?_
   rw [oc.1] at p9'
   replace p9:g12[h.length+1]?=some (.row a0y 10 [[.int .i64 host,.int .i64 file,.int .i64 fr,.int .i64 po,x,.int .i64 tm,.int .i64 wt,.str tr,.str sm',y]]):=p9'
   replace p8:=(sg.2 h.length (by omega)).trans p8
   have S12:St h o g12:=S11.app (Nat.le_of_eq sg.1.symm) fun q hq=>sg.2 q (by omega)
   have ow12:=ow11.keep (h':=g12) fun q hq _=>sg.2 q (by omega)
   clear e11 S11 ow11 S10 ow10 s11 c11 sg p9'
   simp only [d5A p9 rfl,bs,c7y]
   refine a6K p8 (by rfl) (by rfl) (by simp) (by rfl) fun g2 q8 sg=>?_
   replace q8:g2[h.length]?=some (.row a0z 11 [[.str [],.int .i64 host,.int .i64 file,.int .i64 fr,.int .i64 po,x,.int .i64 tm,.int .i64 wt,.str tr,.str sm',y]]):=q8
   have S2:St h o g2:=S12.app (Nat.le_of_eq sg.1.symm) fun q hq=>sg.2 q (by omega)
   have ow2:=ow12.keep (h':=g2) fun q hq _=>sg.2 q (by omega)
   simp only [a4E q8 rfl,bs,a0j]
   have hsl:=a1R (n0:=h.length) (n:=2) ow2 (by omega) (fun a _=>a3c _ g2 _ a)
   have hfl:fs.length≤4:=by
    have:=hfs.1.length_le
    simpa using this
   have hfy:frz h.length g2 3 y=y:=a1P hy (fun a _=>a4y _ g2 _ a)
   obtain ⟨h',hsc,hcd,hsm2⟩:=S2.scope (d := .agg [.str [],.int .i64 host,.int .i64 file,.int .i64 fr,.int .i64 po,x,.int .i64 tm,.int .i64 wt,.str tr,.str sm',y]) (d' := .agg (itr ⟨[],⟨host,file,fr,po,ls,frz h.length g2 3 x,tm,wt,tr,sm',fs,y,hy,by omega,hsl,by omega⟩⟩)) (by simp [-bind_some, itr,evr,hfy]) (a6n _ _)
   rw [hsc]
   exact .some ⟨_,rfl,hcd,hsm2,⟨rfl,rfl,rfl,hch,hl1,hl3,fun _=>⟨t0,t1,w0,w1,htr,hsm,hfs,htx⟩,fun _=>w2,fun h0=>absurd rfl h0⟩⟩
def a2S (a b:Ev):Bool:=if a.a5=b.a5 then (if a.a0=b.a0 then (if a.a1=b.a1 then decide (a.a2<b.a2) else decide (a.a1<b.a1)) else decide (a.a0<b.a0)) else decide (a.a5<b.a5)
theorem s85 (a b:Ev) (h:Hp):R d4a [.agg (evr a),.agg (evr b)] h=some (.bool (a2S a b),h):=by
 rw [e85]
 by_cases h5:a.a5=b.a5
 ·by_cases h0:a.a0=b.a0
  ·by_cases h1:a.a1=b.a1
   ·simp [-bind_some, F85,evr,a2S,h5,h0,h1]
   ·simp [-bind_some, F85,evr,a2S,h5,h0,h1]
  ·simp [-bind_some, F85,evr,a2S,h5,h0]
 ·simp [-bind_some, F85,evr,a2S,h5]
def a9U (hst fil:Int):Int→List It→Int→Prop
 | a,[],b=>a=b
 | a,i::r,b=>ItOK hst fil a i∧a9U hst fil i.e.a3 r b
theorem a8N (hst fil:Int):∀ (l:List It) (a b:Int) (i:It),a9U hst fil a l b→ItOK hst fil b i→a9U hst fil a (l++[i]) i.e.a3
 | [],a,b,i,h,hi=>by
  simp only [a9U] at h
  subst h
  exact ⟨hi,rfl⟩
 | x::r,a,b,i,h,hi=>⟨h.1,a8N hst fil r _ b i h.2 hi⟩
def FilesOK (host most:Int) (P:List It→D→Prop) (ps:List (List It × D)):Prop:=∀ (f:Nat) p,ps[f]?=some p→P p.1 p.2∧p.1.length≤most∧∃ po,a9U host (5+f) 0 p.1 po
theorem FilesOK.mono {host most:Int} {P P':List It→D→Prop} {ps:List (List It × D)} (h:FilesOK host most P ps) (k:∀ a b,P a b→P' a b):FilesOK host most P' ps:=fun f p hp=>⟨k _ _ (h f p hp).1,(h f p hp).2⟩
theorem l71 {o N:Nat} (host most f:Int) (n0:Nat) (ho:o<n0) (hN:n0≤N) (ds0:List D) (hds0:nth 1 ds0 = .int .i64 f) (hf0:0≤f) (hf1:f≤1000) {β:Type} {K:Out→Option β} {Q:β→Prop} (g:Hp) (n:Nat) (hn:n≤1000) (a b:D) (hc:CD g o) (hNg:N≤g.length)
  (k:∀ g' its po x a b c,Own g' N a0z 11 (its.map itr) x→CD g' o→Grow N o g g'→a9U host (5+f) 0 its po→its.length=n→Wp (K (.ext 2,[x,.int .i64 po,a,b,c],g')) Q) :
  Wp ((a0J (b6b (.ptr o 0 0) (.int .i64 host) ds0) [.nils,.int .i64 0,.int .i64 n,a,b] g).bind K) Q:=by
 refine Wp.loop (fun k ds g'=>∃ x po a b,∃ its:List It,ds=[x,.int .i64 po,.int .i64 k,a,b]∧Own g' N a0z 11 (its.map itr) x∧CD g' o∧Grow N o g g'∧a9U host (5+f) 0 its po∧0≤po∧po≤108*its.length∧its.length+k=n)
  (fun r=>r.1 = .ext 2∧∃ x po a b c,∃ its:List It,r.2.1=[x,.int .i64 po,a,b,c]∧Own r.2.2 N a0z 11 (its.map itr) x∧CD r.2.2 o∧Grow N o g r.2.2∧a9U host (5+f) 0 its po∧its.length=n)
  n ⟨.nils,0,a,b,[],rfl,Own.nils _ _ _ _,hc,.refl _ _ _,rfl,by omega,by simp,by simp⟩ ?_ ?_
 ·rintro k ds g' ⟨x,po,a,b,its,rfl,ow,hc',hg,hit,hp0,hp1,hk⟩
  simp only [b6b,a0e,a0m,bs,a0x,hds0,a0r,wrap_i64 (n:=5+f) (by omega) (by omega)]
  refine Wp.dif ?_ ?_
  ·intro h0
   have h0:0<(k:Int):=by simpa using h0
   obtain ⟨i,g1,e1,c1,s1,hi⟩:=d84 hc' host (5+f) po hp0 (by omega)
   have hcl:=a2C _ _ _ hi.ch
   have hn3:=hi.n3
   have hn1:=hi.n1
   have ow1:=ow.same s1 (by omega)
   refine Wp.step e1 ?_
   simp only [b0G,bs,b2w,d7g]
   refine b9K (by have:=hg.1;have:=s1.1;omega) ow1 (a1e _ _ _ _) (by simp;omega) fun x' g2 ow2 len bel _ _=>?_
   have hto:=e0a i g2
   cases hfa:a0a tab a0z 1 (.fptr (itr i)) with
   | none=>rw [hfa] at hto;cases hto
   | some p =>
    rw [hfa] at hto
    simp only [bs] at hto
    cases hfb:a0a tab a0y 3 p with
    | none=>rw [hfb] at hto;cases hto
    | some q =>
     rw [hfb] at hto
     simp only [bs] at hto
     have hk1:IntKind.wrap .i64 ((k:Int) - 1)=((k - 1:Nat):Int):=by
      rw [wrap_i64 (by omega) (by omega)];omega
     simp only [bs,hfa,hfb,hto,a0N,hk1]
     refine .some (.inl ⟨rfl,k - 1,by omega,x',i.e.a3,_,_,its++[i],rfl,by rw [e0o];exact ow2,c1.keep (bel o (by omega)),(hg.trans s1.grow).trans ⟨len,fun q hq _=>bel q hq⟩,a8N _ _ _ _ _ _ hit hi,by omega,by simp;omega,by simp;omega⟩)
  ·intro h0
   have h0:¬ 0<(k:Int):=by simpa using h0
   exact .some (.inr ⟨by simp,rfl,x,po,_,_,_,its,rfl,ow,hc',hg,hit,by omega⟩)
 ·rintro ⟨ex,ds,g'⟩ ⟨rfl,x,po,a,b,c,its,rfl,ow,hc',hg,hit,hn⟩
  exact k g' its po x a b c ow hc' hg hit hn
theorem d7C {h:Hp} {o:Nat} (hc:CD h o) (host most:Int) (hm0:0≤most) (hm1:most≤100):∃ x h',R d0t [.ptr o 0 0,.int .i64 host,.int .i64 most] h=some (x,h')∧CD h' o∧Same o h h'∧∃ ps:List (List It × D),SlOf 1 (fun p=>[p.2]) ps x∧ps.length≤3∧1≤ps.length∧FilesOK host most (SlOf 11 itr) ps:=by
 suffices Wp (R d0t [.ptr o 0 0,.int .i64 host,.int .i64 most] h) (fun p=>CD p.2 o∧Same o h p.2∧∃ ps:List (List It × D),SlOf 1 (fun p=>[p.2]) ps p.1∧ps.length≤3∧1≤ps.length∧FilesOK host most (SlOf 11 itr) ps) by
  obtain ⟨⟨x,h'⟩,h1,h2⟩:=this
  exact ⟨x,h',h1,h2⟩
 have ho:=hc.lt
 rw [e71]
 simp only [F71,bs,e0h]
 refine Wp.loop (fun k ds g=>∃ x a b c d e f',∃ f:Nat,∃ ps:List (List It × D),ds=[x,.int .i64 f,a,b,c,d,e,f']∧St h o g∧Own g h.length a0S 1 (ps.map fun p=>[p.2]) x∧ps.length=f∧k+f=3∧FilesOK host most (fun l d=>Own g h.length a0z 11 (l.map itr) d) ps)
  (fun r=>r.1 = .ext 0∧∃ x a b c d e f' h',∃ ps:List (List It × D),r.2.1=[x,a,b,c,d,e,f',h']∧St h o r.2.2∧Own r.2.2 h.length a0S 1 (ps.map fun p=>[p.2]) x∧ps.length≤3∧1≤ps.length∧FilesOK host most (fun l d=>Own r.2.2 h.length a0z 11 (l.map itr) d) ps)
  3 ⟨.nils,.any,.any,.any,.any,.any,.any,0,[],rfl,.refl hc,Own.nils _ _ _ _,rfl,rfl,fun f p hp=>by simp at hp⟩ ?_ ?_
 ·rintro k ds g ⟨x,a,b,c,d,e,f',f,ps,rfl,S,ow,hpf,hk,hps⟩
  simp only [c1O,a0e,a0m,bs,e0h]
  obtain ⟨v,g1,e1,c1,s1,v0,v1⟩:=a2h S.cd 3 (by omega) (by omega)
  have S1:=S.next c1 s1
  have ow1:=ow.same s1 ho
  have hps1:FilesOK host most (fun l d=>Own g1 h.length a0z 11 (l.map itr) d) ps:=hps.mono fun _ _ w=>w.same s1 ho
  refine Wp.step e1 ?_
  simp only [a2u,bs]
  refine Wp.dif ?_ ?_
  ·intro h0
   have h0:(f:Int)≤v:=by simpa using h0
   simp only [a0r,bs,wrap_i64 (n:=most+1) (by omega) (by omega)]
   obtain ⟨n,g2,e2,c2,s2,n0,n1⟩:=a2h c1 (most+1) (by omega) (by omega)
   have S2:=S1.next c2 s2
   have ow2:=ow1.same s2 ho
   have hps2:FilesOK host most (fun l d=>Own g2 h.length a0z 11 (l.map itr) d) ps:=hps1.mono fun _ _ w=>w.same s2 ho
   refine Wp.step e2 ?_
   simp only [bs]
   rw [← Int.toNat_of_nonneg n0]
   refine l71 (N:=g2.length) host most f h.length ho S2.le _ (by rfl) (by omega) (by omega) g2 n.toNat (by omega) _ _ c2 (Nat.le_refl _) ?_
   intro g3 its po y a' b' c' owy c3 gr hit hlen
   have bel:∀ q,q<g2.length→q≠o→g3[q]?=g2[q]?:=gr.2
   have S3:St h o g3:=⟨ho,c3,S2.gr.trans ⟨gr.1,fun q hq hn=>bel q (by have:=S2.le;omega) hn⟩⟩
   have ow3:Own g3 h.length a0S 1 (ps.map fun p=>[p.2]) x:=ow2.keep fun q hq hin=>bel q (ow2.lt hin).2 (by omega)
   have hps3:FilesOK host most (fun l d=>Own g3 h.length a0z 11 (l.map itr) d) ps:=hps2.mono fun _ _ w=>w.keep fun q hq hin=>bel q (w.lt hin).2 (by omega)
   have owy':Own g3 h.length a0z 11 (its.map itr) y:=owy.from S2.le
   simp only [a0l,a0k,a0e,a0m,bs,c3L y (a2f owy)]
   have hw:=wi_ f (by omega)
   refine d0a S3.le ow3 (a1e _ _ _ _) (by simp;omega) fun x' g4 ow4 len bel4 keep4 _=>?_
   simp only [bs,hw]
   have kp:∀ (l:List It) (d:D),Own g3 h.length a0z 11 (l.map itr) d→Own g4 h.length a0z 11 (l.map itr) d:=fun l d w=>w.keep fun q hq hin=>keep4 q (w.lt hin).2 (b8T w ow3 (by decide) hin)
   refine .some (.inl ⟨rfl,k - 1,by omega,x',_,_,_,_,_,_,f+1,ps++[(its,y)],rfl,S3.app len bel4,by rw [e0o];exact ow4,by simp;omega,by omega,fun j p hp=>?_⟩)
   rcases Nat.lt_or_ge j ps.length with hj | hj
   ·rw [e0H hj] at hp
    exact ⟨kp _ _ (hps3 j p hp).1,(hps3 j p hp).2⟩
   ·rw [List.getElem?_append_right hj] at hp
    have hj0:j - ps.length=0:=by
     have:=(e0y.1 hp).1
     simpa using this
    rw [hj0] at hp
    simp at hp
    subst hp
    have hjf:j=f:=by omega
    subst hjf
    exact ⟨kp _ _ owy',by simp only;omega,po,hit⟩
  ·intro h0
   have h0:¬ (f:Int)≤v:=by simpa using h0
   exact .some (.inr ⟨by simp,rfl,x,_,_,_,_,_,_,_,ps,rfl,S1,ow1,by omega,by omega,hps1⟩)
 ·rintro ⟨ex,ds,g⟩ ⟨rfl,x,a,b,c,d,e,f',h',ps,rfl,S,ow,hpl,hpl1,hps⟩
  simp only [a0l,a0k,a0e,bs,a0j]
  have hfz:SlOf 1 (fun p:List It × D=>[p.2]) (ps.map fun p=>(p.1,frz h.length g 3 p.2)) (frz h.length g 4 x):=by
   rcases ow with ⟨rfl,hr⟩ | ⟨ob,hob,rfl,hgo⟩
   ·have:ps=[]:=by simpa using hr
    subst this
    exact .inl ⟨rfl,rfl⟩
   ·right
    refine ⟨false,?_⟩
    rw [a9P hob hgo]
    simp [-bind_some]
    rw [List.take_of_length_le (by simp)]
    rfl
  have hps':FilesOK host most (SlOf 11 itr) (ps.map fun p=>(p.1,frz h.length g 3 p.2)):=by
   intro j p hp
   rw [e0v] at hp
   cases hq:ps[j]? with
   | none=>rw [hq] at hp;cases hp
   | some q =>
    rw [hq] at hp
    simp at hp
    subst hp
    exact ⟨a1R (hps j q hq).1 (Nat.le_refl _) fun a _=>a9V _ _ _ a,(hps j q hq).2⟩
  obtain ⟨h',hs,hcd,hsm⟩:=S.scope rfl (a1b hfz fun a ha d hd=>by
   simp at hd
   subst hd
   obtain ⟨j,hj⟩:=List.getElem?_of_mem ha
   exact a1b (hps' j a hj).1 fun i _=>b2s _ i)
  exact ⟨_,hs,hcd,hsm,_,hfz,by simpa using hpl,by simpa using hpl1,hps'⟩
theorem s99 (n:Int) (h:Hp):R d0y [.int .i64 n] h=some (.bool false,h):=by
 rw [e99]
 simp [-bind_some, F99]
def a5b (a b:Int):Int:=if a<b then -1 else if b<a then 1 else 0
theorem s90 (a b:Int) (h:Hp):R c0W [.int .i64 a,.int .i64 b] h=some (.int .i64 (a5b a b),h):=by
 rw [e90]
 simp [-bind_some, F90,s99,a5b]
 by_cases h0:a<b
 ·simp [-bind_some, h0]
 ·by_cases h1:b<a <;> simp [-bind_some, h0,h1]
def a3P (c:Int):Bool:=(decide (97≤c)&&decide (c≤122))||(decide (65≤c)&&decide (c≤90))
def b5x (c:Int):Bool:=decide (48≤c)&&decide (c≤57)
def b0w (c:Int):Bool:=(b5x c||a3P c)||decide (c=95)
theorem c1x (c:Int) (h:Hp):R b4j [.int .u8 c] h=some (.bool (a3P c),h):=by
 rw [d1p]
 simp [-bind_some, c5Y,a3P]
 by_cases h0:97≤c <;> by_cases h1:c≤122 <;> by_cases h2:65≤c <;> by_cases h3:c≤90 <;> simp [-bind_some, h0,h1,h2,h3]
theorem d5O (c:Int) (h:Hp):R b7t [.int .u8 c] h=some (.bool (b5x c),h):=by
 rw [d1r]
 simp [-bind_some, c6a,b5x]
 by_cases h0:48≤c <;> by_cases h1:c≤57 <;> simp [-bind_some, h0,h1]
theorem c4N (c:Int) (h:Hp):R b7s [.int .u8 c] h=some (.bool (b0w c),h):=by
 rw [d1q]
 cases hd:b5x c <;> cases hl:a3P c <;> simp [-bind_some, c5Z,d5O,c1x,b0w,hd,hl]
def a5B (c:UInt8):Bool:=b0w c.toNat||decide ((c.toNat:Int)=46)
def a1H (s:Str):Bool:=match s with
 | []=>false
 | c::r=>decide ((c::r).length≤32)&&(a3P c.toNat||decide ((c.toNat:Int)=95))&&(c::r).all a5B
theorem d6x (s:Str) (i:Nat) (c:UInt8) (hc:s[i]?=some c):a4m tab ty9 (.str s) (.int .i64 i)=some (.int .u8 c.toNat):=by
 show (if (0:Int)≤(i:Int) then (match s[(i:Int).toNat]? with | some c=>some (D.int .u8 c.toNat) | none=>none) else none)=_
 simp [-bind_some, hc]
theorem d5p (s:Str) (h:Hp) (hl:s.length≤9223372036854775807) {β:Type} (K:Out→Option β) (X:Bool→Option β)
   (hX:∀ r,K (.ret,.bool false::r,h)=X false) (hY:∀ r,K (.ext 0,r,h)=X true):∀ (suf pre:Str),s=pre++suf→∀ a b e,
   (a0J (a4P (.str s)) [a,.int .i64 pre.length,b,e] h).bind K=X (suf.all a5B):=by
 intro suf
 induction suf with
 | nil =>
  rintro pre rfl a b e
  rw [a1r]
  simp [-bind_some, a4P,hY]
 | cons p suf ih =>
  rintro pre rfl a b e
  have hw:IntKind.wrap .i64 ((pre.length:Int)+1)=(pre++[p]).length:=by
   rw [wrap_i64 (by omega) (by simp at hl;omega)];simp [-bind_some]
  have hlt:(pre.length:Int)<(pre++p::suf).length:=by simp;omega
  rw [a1r]
  generalize hL:pre++p::suf=L at *
  have hg:L[pre.length]?=some p:=by rw [← hL];exact a9R _ _ _
  have hix:=d6x L pre.length p hg
  cases hp:b0w p.toNat
  ·by_cases h46:(p.toNat:Int)=46
   ·have:=ih (pre++[p]) (by simp [-bind_some, ← hL]) a (.bool true) (.bool (decide ((p.toNat:Int)≠46)))
    simp only [← hw] at this
    have h47:b0w 46=false:=rfl
    simp [-bind_some, a4P,hlt,hix,c4N,hp,a5B,h46,h47]
    simp [-bind_some, h46] at this
    exact this
   ·simp [-bind_some, a4P,hlt,hix,c4N,hp,a5B,h46,hX]
  ·have:=ih (pre++[p]) (by simp [-bind_some, ← hL]) a (.bool true) (.bool false)
   simp only [← hw] at this
   simp [-bind_some, a4P,hlt,hix,c4N,hp,a5B]
   exact this
theorem d5N (s:Str) (h:Hp) (hl:s.length≤9223372036854775807):R b7r [.str s] h=some (.bool (a1H s),h):=by
 rw [d1o]
 cases s with
 | nil=>simp [-bind_some, b5p,a1H]
 | cons c r =>
  have hi0:a4m tab ty9 (.str (c::r)) (.int .i64 0)=some (.int .u8 c.toNat):=d6x (c::r) 0 c rfl
  have h1:¬ ((c::r).length:Int)<1:=by simp;omega
  have hlp:=d5p (c::r) h hl (fun r_1=>(some (a0G 0 r_1.1,[nth 0 r_1.2.1,nth 1 r_1.2.1,nth 2 r_1.2.1,nth 3 r_1.2.1],r_1.2.2)).bind fun r_1=>a0K r_1.1 (some (.bool true,r_1.2.2)) fun x=>a1c x (some (nth 0 r_1.2.1,r_1.2.2))) (fun b=>some (.bool b,h)) (fun r=>by simp) (fun r=>by simp) (c::r) [] rfl
  simp only [bs] at hlp
  by_cases h32:(32:Int)<((c::r).length:Int)
  ·have h33:¬ (c::r).length≤32:=by omega
   simp only [b5p,bs,a5I,a0o,a0x,a0v,a0g,h32,h1,decide_true,decide_false,a0Y,a0d,a0j,if_true,if_false,e0i,reduceCtorEq,a1H,h33,Bool.false_and,a2x,bs]
  ·have h33:(c::r).length≤32:=by omega
   cases hq:a3P c.toNat
   ·by_cases h95:(c.toNat:Int)=95
    ·simp only [b5p,bs,a5I,a0o,a0x,a0v,a0g,h32,h1,decide_true,decide_false,a0Y,a0d,a0j,if_true,if_false,e0i,reduceCtorEq,a1H,h33,Bool.false_and,hi0,c1x,hq,show a3P 95=false from rfl,a1A,e0t,a0A,h95,ne_eq,not_true,e0h]
     refine (hlp _ _ _).trans ?_
     simp [-bind_some, a5B]
    ·simp only [b5p,bs,a5I,a0o,a0x,a0v,a0g,h32,h1,decide_true,decide_false,a0Y,a0d,a0j,if_true,if_false,e0i,reduceCtorEq,a1H,h33,Bool.false_and,hi0,c1x,hq,a1A,e0t,a0A,h95,ne_eq,not_true,not_false_eq_true,Bool.or_false,Bool.and_false]
   ·simp only [b5p,bs,a5I,a0o,a0x,a0v,a0g,h32,h1,decide_true,decide_false,a0Y,a0d,a0j,if_true,if_false,e0i,reduceCtorEq,a1H,h33,Bool.false_and,hi0,c1x,hq,a1A,e0s,a2x,e0h]
    refine (hlp _ _ _).trans ?_
    simp [-bind_some, a5B]
def Asc (l:List (Str × Str)):Prop:=∀ i p q,l[i]?=some p→l[i+1]?=some q→Op.bytesLess p.1 q.1=true∧p.1≠q.1
theorem d7r (t:Nat) (s u:Str):a0i tab .gtr t (.str s) (.str u)=some (.bool (!(Op.bytesLess s u||s==u))):=id rfl
theorem b3Z (p:Str × Str):(a0a tab a0T 0 (.fptr (fld p)))=some (.fptr (fld p)):=id rfl
theorem b4a (p:Str × Str) (h:Hp):a0c tab h ty9 (.fptr (fld p))=some (.str p.1):=id rfl
theorem c8C (l:List (Str × Str)) (d:D) (h:Hp) (hd:SlOf 2 fld l d) (hl:l.length≤32) (hn:∀ p∈l,a1H p.1=true∧p.1.length≤1000) {β:Type} {K:Out→Option β} {Q:β→Prop} (a b:D)
  (cont:∀ x y z w v,Wp (K (.ext 0,[x,y,z,w,v],h)) Q):Wp ((a0J (a9b d) [a,b,.int .i64 0,.any,.any] h).bind K) Q:=by
 refine Wp.loop (fun k ds g=>g=h∧∃ a b c e,∃ i:Nat,ds=[a,b,.int .i64 i,c,e]∧k+i=l.length)
   (fun x=>x.1 = .ext 0∧x.2.2=h∧∃ a b c d e,x.2.1=[a,b,c,d,e]) l.length ⟨rfl,_,_,_,_,0,rfl,rfl⟩ ?_ ?_
 ·rintro k ds g ⟨rfl,a,b,c,e,i,rfl,hk⟩
  simp only [a9b,a0e,a0m,bs,e0h,a2r hd,a0o]
  refine Wp.dif ?_ ?_
  ·intro h0
   have h0:i<l.length:=dl_ h0
   have hg:l[i]?=some l[i]:=e0x h0
   have hnn:=hn l[i] (List.getElem_mem _)
   have hw:=wi_ i (by omega)
   generalize l[i]=x at hg hnn
   simp only [a7a hd,Int.natCast_nonneg,if_true,e0r,hg,Option.map_some,bs,b3Z x,b4a,d5N x.1 g (by omega),hnn.1,a1A,e0s,a0d,e0i,if_false,a0r,hw]
   exact .some (.inl ⟨rfl,k - 1,by omega,rfl,_,_,_,_,i+1,rfl,by omega⟩)
  ·intro h0
   exact .some (.inr ⟨by simp,rfl,rfl,_,_,_,_,_,rfl⟩)
 ·rintro ⟨x,ds,g⟩ ⟨h1,h2,a,b,c,d,e,h3⟩
  subst h2
  simp only at h1 h3
  subst h1;subst h3
  exact cont _ _ _ _ _
theorem d5L (l:List (Str × Str)) (d:D) (h:Hp) (hd:SlOf 2 fld l d) (hl:l.length≤32) (hn:∀ p∈l,a1H p.1=true∧p.1.length≤1000) (ha:Asc l):∃ d',R b4h [d] h=some (.tup [d',.int .i64 0],h)∧SlOf 2 fld l d':=by
 suffices Wp (R b4h [d] h) (fun p=>p.2=h∧∃ d',p.1 = .tup [d',.int .i64 0]∧SlOf 2 fld l d') by
  obtain ⟨⟨x,h'⟩,h1,rfl,d',rfl,h2⟩:=this
  exact ⟨d',h1,h2⟩
 rw [d1k]
 have h32:¬ (32:Int)<(l.length:Int):=by omega
 simp only [c5V,bs,e0h,a2r hd,a0x,h32,decide_false,a0d,e0i,if_false]
 refine c8C l d h hd hl hn _ _ fun x y z w v=>?_
 simp only [a0l,a0k,a0e,a0m,bs]
 clear z w v
 refine Wp.loop (fun k ds g=>h.length≤g.length∧(∀ q,q<h.length→g[q]?=h[q]?)∧∃ a b x c e f u,∃ i:Nat,ds=[a,b,x,.int .i64 i,c,e,f,u]∧k+i=l.length∧Own g h.length a0T 2 ((l.take i).map fld) x)
   (fun x=>x.1 = .ext 2∧h.length≤x.2.2.length∧(∀ q,q<h.length→x.2.2[q]?=h[q]?)∧Own x.2.2 h.length a0T 2 (l.map fld) (nth 2 x.2.1)) l.length ⟨Nat.le_refl _,fun _ _=>rfl,_,_,_,_,_,_,_,0,rfl,rfl,Own.nils _ _ _ _⟩ ?_ ?_
 ·rintro k ds g ⟨hgl,hgq,a,b,x,c,e,f,u,i,rfl,hk,ow⟩
  simp only [b2Z,a0e,a0m,bs,e0h,a2r hd,a0o]
  refine Wp.dif ?_ ?_
  ·intro h0
   have h0:i<l.length:=dl_ h0
   have hg:l[i]?=some l[i]:=e0x h0
   have hw:=wi_ i (by omega)
   have htk:l.take (i+1)=l.take i++[l[i]]:=by rw [e0u,hg];rfl
   have hti:((l.take i).map fld).length=i:=by simp;omega
   generalize l[i]=y at hg htk
   have hb:a0W tab a1p 1 [0] [.agg (fld y)]=some (.sl 2 true [fld y]):=id rfl
   simp only [c2E ow,hti,a7a hd,Int.natCast_nonneg,if_true,e0r,hg,Option.map_some,bs,b0Y,hb]
   refine c5m hgl ow (a1e _ _ _ _) (by simp;omega) fun x1 g1 ow1 len1 bel1 _ _=>?_
   have hrow:(l.take i).map fld++[fld y]=(l.take (i+1)).map fld:=by rw [htk];simp [-bind_some]
   rw [hrow] at ow1
   have hti1:((l.take (i+1)).map fld).length=i+1:=by simp;omega
   obtain ⟨ob,hob,rfl,hgo⟩:=a5m ow1 (i:=i) (by omega)
   rw [hti1] at *
   clear hti1
   have hti1:((l.take (i+1)).map fld).length=i+1:=by simp;omega
   have hyr:((l.take (i+1)).map fld)[i]?=some (fld y):=by
    rw [e0v,List.getElem?_take,if_pos (by omega),hg];rfl
   have hyl:(fld y)=[.str y.1,.str y.2]:=rfl
   have rw1:g1.row ob i=some (fld y):=by rw [a0F hgo];exact hyr
   simp only [bs]
   rw [a1r]
   have hL:a7c d [a,b,x,.int .i64 i,c,e,f,u] (.msl 2 ob 0 (i+1)) [.int .i64 i,f] g1=some (.ext 4,[.int .i64 i,.bool false],g1):=by
    by_cases hi:i=0
    ·subst hi
     simp [-bind_some, a7c]
    ·have hi0:(0:Int)<i:=by omega
     have hw1:IntKind.wrap .i64 ((i:Int) - 1)=((i - 1:Nat):Int):=by
      rw [wrap_i64 (by omega) (by omega)];omega
     have hgp:l[i - 1]?=some (l[i - 1]'(by omega)):=e0x (by omega)
     generalize l[i - 1]'(by omega)=z at hgp
     have hz:((l.take (i+1)).map fld)[i - 1]?=some (fld z):=by
      rw [e0v,List.getElem?_take,if_pos (by omega),hgp];rfl
     have rz:g1.row ob (i - 1)=some (fld z):=by rw [a0F hgo];exact hz
     have hlt:((i - 1:Nat):Int)<((i+1:Nat):Int):=by omega
     have has:=(ha (i - 1) z y hgp (by rw [show i - 1+1=i by omega];exact hg)).1
     simp only [a7c,a0e,a0m,bs,a0x,hi0,decide_true,a0v,if_true,a0N,hw1,b5J,Int.natCast_nonneg,true_and,hlt,e0r,Nat.zero_add,a7p,b0x,rz,hyl,fld,List.drop_zero,List.head?_cons,a7a hd,hg,Option.map_some,b7d,ld9,d7r,has,Bool.true_or,e0s,a0g,a0d,e0i,if_false]
   rw [hL]
   simp only [bs,a0l,a0k,a0e,a0m,a7a hd,Int.natCast_nonneg,if_true,e0r,hg,Option.map_some,b0Y,b5J,true_and,show (i:Int)<((i+1:Nat):Int) by omega,Nat.zero_add]
   refine b9N hgo hyr (by rfl) (by simp [-bind_some, fld]) (by rfl) fun g2 q2 s2=>?_
   have hset:((l.take (i+1)).map fld).set i (spl (fld y) 0 (a0B (.agg (fld y))))=(l.take (i+1)).map fld:=by
    rw [show spl (fld y) 0 (a0B (.agg (fld y)))=fld y from rfl]
    refine List.ext_getElem? fun j=>?_
    rw [List.getElem?_set]
    split
    ·rename_i hj;subst hj;rw [if_pos (by omega)];exact hyr.symm
    ·rfl
   rw [hset] at q2
   have ow2:Own g2 h.length a0T 2 ((l.take (i+1)).map fld) (.msl 2 ob 0 (i+1)) := .inr ⟨ob,hob,by rw [hti1],q2⟩
   have hgl2:h.length≤g2.length:=by have:=s2.1;omega
   have hgq2:∀ q,q<h.length→g2[q]?=h[q]?:=fun q hq=>((s2.2 q (by omega)).trans (bel1 q hq)).trans (hgq q hq)
   by_cases hi:i=0
   ·subst hi
    simp only [bs,a0x,show ¬ (0:Int)<((0:Nat):Int) by omega,decide_false,a0v,e0i,if_false,a0g,a2x,a0d,a0r,hw]
    exact .some (.inl ⟨rfl,k - 1,by omega,hgl2,hgq2,_,_,_,_,_,_,_,0+1,rfl,by omega,ow2⟩)
   ·have hi0:(0:Int)<i:=by omega
    have hw1:IntKind.wrap .i64 ((i:Int) - 1)=((i - 1:Nat):Int):=by
     rw [wrap_i64 (by omega) (by omega)];omega
    have hgp:l[i - 1]?=some (l[i - 1]'(by omega)):=e0x (by omega)
    generalize l[i - 1]'(by omega)=z at hgp
    have hz:((l.take (i+1)).map fld)[i - 1]?=some (fld z):=by
     rw [e0v,List.getElem?_take,if_pos (by omega),hgp];rfl
    have rz:g2.row ob (i - 1)=some (fld z):=by rw [a0F q2];exact hz
    have hlt:((i - 1:Nat):Int)<((i+1:Nat):Int):=by omega
    have has:=(ha (i - 1) z y hgp (by rw [show i - 1+1=i by omega];exact hg)).2
    have hne:(z.1==y.1)=false:=by simpa using has
    simp only [bs,a0x,hi0,decide_true,a0v,if_true,a0N,hw1,b5J,Int.natCast_nonneg,true_and,hlt,e0r,Nat.zero_add,a7p,b0x,rz,hyl,fld,List.drop_zero,List.head?_cons,a7a hd,hg,Option.map_some,b7d,ld9,a1E,hne,a0g,a0d,e0i,if_false,a0r,hw]
    exact .some (.inl ⟨rfl,k - 1,by omega,hgl2,hgq2,_,_,_,_,_,_,_,i+1,rfl,by omega,ow2⟩)
  ·intro h0
   have h0:i=l.length:=by
    have:¬ (i:Int)<l.length:=by simpa using h0
    omega
   subst h0
   rw [e0G] at ow
   exact .some (.inr ⟨by simp,rfl,hgl,hgq,ow⟩)
 ·rintro ⟨ex,ds,g⟩ ⟨h1,hgl,hgq,ow⟩
  simp only at h1 hgl hgq ow
  subst h1
  simp only [a0l,a0k,a0e,a0m,bs,a1d]
  have hsl:=a1R (n0:=h.length) (n:=2) ow (Nat.le_refl _) (fun a _=>a4y _ g _ a)
  rw [a0M (d' := .tup [frz h.length g 3 (nth 2 ds),.int .i64 0]) (by simp) (by
   refine .tup _ fun d hd=>?_
   simp at hd
   rcases hd with rfl | rfl
   ·exact a1b hsl fun a _=>b4b _ a
   ·constructor) hgl hgq]
  exact .some ⟨rfl,_,rfl,hsl⟩
structure PlOK (e:Ev):Prop where
 h0:0≤e.a0
 h9:e.a0≤999
 f0:0≤e.a1
 f9:e.a1≤2147483646
 a0:0≤e.a2
 ab:e.a2<e.a3
 b9:e.a3≤60000
theorem c9s (e:Ev) (h:Hp) (he:PlOK e):R b4f [.agg (evr e)] h=some (.int .i64 0,h):=by
 obtain ⟨h1,h2,h3,h4,h5,h6,h7⟩:=he
 have g1:¬ e.a0<0:=by omega
 have g2:¬ 999<e.a0:=by omega
 have g3:¬ e.a1<0:=by omega
 have g4:¬ 2147483646<e.a1:=by omega
 have g5:¬ e.a2<0:=by omega
 have g6:¬ e.a3≤e.a2:=by omega
 have g7:¬ 60000<e.a3:=by omega
 rw [d1g]
 simp only [c5R,a0V,bs,evr,b7e,b7f,b0W,a3M,ld3,a0o,a0x,a2u,g1,g2,g3,g4,g5,g6,g7,decide_false,a0v,if_true,if_false,e0i,a0g,a0d,a0j]
theorem d5K (w:Int) (h:Hp) (h1:1≤w) (h2:w≤5040) (h3:Int.tmod 5040 w=0):R b7p [.int .i64 w] h=some (.bool true,h):=by
 have g0:¬ w=0:=by omega
 rw [d1j]
 simp only [c5U,bs,a2Y,a2u,h1,h2,decide_true,a0v,if_true,a0g,a4S,g0,if_false,h3,a0P,a0j]
theorem c9t (e:Ev) (m:Int) (h:Hp) (hm:35≤m) (hm2:m≤1000000) (he:PlOK e) (h1:1≤e.ls.length) (h4:e.ls.length≤40) (hc:chain e.a2 e.ls e.a3):R b4g [.agg (evr e),.int .i64 m] h=some (.int .i64 0,h):=by
 apply Wp.val
 obtain ⟨p1,p2,p3,p4,p5,p6,p7⟩:=he
 have g0:¬ (e.ls.length:Int)=0:=by omega
 have g4:¬ (40:Int)<e.ls.length:=by omega
 rw [d1h]
 simp only [c5S,a0V,bs,e0h,evr,a7L,b0W,b1R,ld3,a2L e.hld,a0P,g0,decide_false,a0d,e0i,if_false,a0x,g4]
 refine Wp.loop (fun k ds g=>g=h∧∃ a b c d f,∃ at_:Int,∃ i:Nat,ds=[a,.int .i64 at_,.int .i64 i,b,c,d,f]∧k+i=e.ls.length∧0≤at_∧chain at_ (e.ls.drop i) e.a3)
   (fun x=>x.1 = .ext 0∧x.2.2=h) e.ls.length ⟨rfl,_,_,_,_,_,_,0,rfl,rfl,p5,hc⟩ ?_ ?_
 ·rintro k ds g ⟨rfl,a,b,c,d,f,at_,i,rfl,hk,ha0,hch⟩
  simp only [b2Y,a0e,a0m,bs,e0h,a7L,b1R,a2L e.hld,a0o]
  refine Wp.dif ?_ ?_
  ·intro h0
   have h0:i<e.ls.length:=dl_ h0
   have hg:e.ls[i]?=some e.ls[i]:=e0x h0
   have hw:=wi_ i (by omega)
   rw [List.drop_eq_getElem_cons h0] at hch
   generalize e.ls[i]=x at hg hch
   obtain ⟨c1,c2,c3,c4,c5⟩:=hch
   have hle:=a2C _ _ _ c5
   have hw2:IntKind.wrap .i64 (at_+x.len)=at_+x.len:=wrap_i64 (by omega) (by omega)
   have hw3:IntKind.wrap .i64 (e.a3 - at_)=e.a3 - at_:=wrap_i64 (by omega) (by omega)
   have hw4:IntKind.wrap .i64 ((e.ls.length:Int) - 1)=(e.ls.length:Int) - 1:=wrap_i64 (by omega) (by omega)
   have q1:¬ x.off≠at_:=by omega
   have q2:¬ x.len<1:=by omega
   have q3:¬ e.a3 - at_<x.len:=by omega
   have q5:¬ m<(x.txt.length:Int):=by omega
   have hbx:a5U 3 (.agg (a1D x))=some (.fptr (a1D x)):=a3y 3 _ rfl
   simp only [b1v e.hld,Int.natCast_nonneg,if_true,e0r,hg,Option.map_some,bs,a9Y,hbx]
   have fin:Wp (some (Ex.nrm,[a,.int .i64 (at_+x.len),.int .i64 ((i+1:Nat):Int),.fptr (a1D x),.bool (decide ((i:Int)<e.ls.length)),.bool false,.bool false],g)) (fun r:Out=>(r.1 = .nrm∧∃ k',k'<k∧r.2.2=g∧∃ a b c d f,∃ at_:Int,∃ i:Nat,r.2.1=[a,.int .i64 at_,.int .i64 i,b,c,d,f]∧k'+i=e.ls.length∧0≤at_∧chain at_ (e.ls.drop i) e.a3)∨(r.1 ≠ .nrm∧r.1 = .ext 0∧r.2.2=g)) :=
    .some (.inl ⟨rfl,k - 1,by omega,rfl,_,_,_,_,_,_,i+1,rfl,by omega,by omega,c5⟩)
   by_cases hi:(i:Int)=(e.ls.length:Int) - 1
   ·rw [List.drop_of_length_le (by omega)] at c5
    have c5:at_+x.len=e.a3:=c5
    have hid:decide ((i:Int)=(e.ls.length:Int) - 1)=true:=by simpa using hi
    have q6:¬ x.len≠e.a3 - at_:=by omega
    simp only [a1D,b7h,c2o,b7i,ld3,ld9,a5I,bs,a0A,a0o,a0x,a0N,q1,q2,decide_false,a0v,if_true,a0g,e0i,if_false,a3M,a7L,b1R,a2L e.hld,hw3,hw4,q3,a0P,hid,q6,q5,a0d,a0r,hw2,hw]
    exact fin
   ·simp only [a1D,b7h,c2o,b7i,ld3,ld9,a5I,bs,a0A,a0o,a0x,a0N,q1,q2,decide_false,a0v,if_true,a0g,e0i,if_false,a3M,a7L,b1R,a2L e.hld,hw3,hw4,q3,a0P,hi,decide_true,a2x,q5,a0d,a0r,hw2,hw]
    exact fin
  ·intro h0
   exact .some (.inr ⟨by simp,rfl,rfl⟩)
 ·rintro ⟨ex,ds,g⟩ ⟨h1,h2⟩
  simp only at h1 h2
  subst h1;subst h2
  simp only [a0l,a0k,bs,a0j]
  exact .some rfl
structure EvGood (e:Ev):Prop where
 pl:PlOK e
 t0:0≤e.a5
 t9:e.a5≤253402300799999
 w1:1≤e.a6
 w2:e.a6≤5040
 w3:Int.tmod 5040 e.a6=0
 l1:1≤e.ls.length
 l4:e.ls.length≤40
 ch:chain e.a2 e.ls e.a3
 tr:e.s7.length≤32
 st:e.s8.length≤32
 f3:e.fs.length≤32
 fn:∀ p∈e.fs,a1H p.1=true∧p.1.length≤1000
 fa:Asc e.fs
 fv:∀ p∈e.fs,p.2.length≤2000
theorem c8a (p:Str × Str):a0a tab a0T 1 (.fptr (fld p))=some (.fptr [.str p.2]):=id rfl
theorem d5J (e:Ev) (h:Hp) (he:EvGood e):R b7o [.agg (evr e)] h=some (.int .i64 0,h):=by
 apply Wp.val
 have q1:¬ e.a5<0:=by have:=he.t0;omega
 have q2:¬ 253402300799999<e.a5:=by have:=he.t9;omega
 have q3:¬ (32:Int)<(e.s7.length:Int):=by have:=he.tr;omega
 have q4:¬ (32:Int)<(e.s8.length:Int):=by have:=he.st;omega
 obtain ⟨d',hs,hd'⟩:=d5L e.fs e.fd h e.hfd he.f3 he.fn he.fa
 have h95:=s95 e.fs e.fs d' e.fd h hd' e.hfd e.hl
 have h12:=c9t e 2000 h (by omega) (by omega) he.pl he.l1 he.l4 he.ch
 simp only [evr] at h12
 rw [d1f]
 simp only [c5Q,a0V,bs,e0h,evL,c9s e h he.pl]
 simp only [evr,b7g,c2k,c2l,c2m,c2n,ld3,ld9,b8i,a5I,bs,a0A,a0o,a0x,q1,q2,q3,q4,decide_false,ne_eq,not_true,a0v,if_true,if_false,e0i,a0g,a0d,d5K e.a6 h he.w1 he.w2 he.w3,h12,a1A,e0s,hs,a0I,e0k,e0l,h95,decide_true]
 refine Wp.loop (fun k ds g=>g=h∧∃ a b c,∃ i:Nat,ds=[a,.int .i64 i,b,c]∧k+i=e.fs.length)
   (fun x=>x.1 = .ext 0∧x.2.2=h) e.fs.length ⟨rfl,_,_,_,0,rfl,rfl⟩ ?_ ?_
 ·rintro k ds g ⟨rfl,a,b,c,i,rfl,hk⟩
  simp only [b2X,a0e,a0m,bs,e0h,a2r hd',a0o]
  refine Wp.dif ?_ ?_
  ·intro h0
   have h0:i<e.fs.length:=dl_ h0
   have hg:e.fs[i]?=some e.fs[i]:=e0x h0
   have hv:=he.fv e.fs[i] (List.getElem_mem _)
   have hf3:=he.f3
   have hw:=wi_ i (by omega)
   generalize e.fs[i]=x at hg hv
   have q5:¬ (2000:Int)<(x.2.length:Int):=by omega
   simp only [a7a hd',Int.natCast_nonneg,if_true,e0r,hg,Option.map_some,bs,c8a,ld9,a5I,a0x,q5,decide_false,a0d,e0i,if_false,a0r,hw]
   exact .some (.inl ⟨rfl,k - 1,by omega,rfl,_,_,_,i+1,rfl,by omega⟩)
  ·intro h0
   exact .some (.inr ⟨by simp,rfl,rfl⟩)
 ·rintro ⟨ex,ds,g⟩ ⟨h1,h2⟩
  simp only at h1 h2
  subst h1;subst h2
  simp only [a0l,a0k,bs,a0j]
  exact .some rfl
structure SkGood (i:It):Prop where
 r0:i.r≠[]
 r3:i.r.length≤32
 pl:PlOK i.e
 l1:1≤i.e.ls.length
 l4:i.e.ls.length≤40
 ch:chain i.e.a2 i.e.ls i.e.a3
 tm:i.e.a5=0
 w0:i.e.a6=0
 tr:i.e.s7=[]
 st:i.e.s8=[]
 fs:i.e.fs=[]
 tx:∀ l∈i.e.ls,l.txt=[]
theorem c9o (i:It) (h:Hp) (hi:(i.r=[]∧EvGood i.e)∨SkGood i):R b0Z [.agg (itr i)] h=some (.int .i64 0,h):=by
 apply Wp.val
 rw [d0Z]
 simp only [c5M,a0V,bs,e0h,c5A,c5B,c5C,evL,a1E]
 rcases hi with ⟨hr,he⟩ | he
 ·simp only [hr,beq_self_eq_true,a0d,if_true,d5J i.e h he,bs,a0j]
  exact .some rfl
 ·have q0:(i.r==[])=false:=by simpa using he.r0
  have q1:¬ (32:Int)<(i.r.length:Int):=by have:=he.r3;omega
  have hbx:a5U 10 (.agg (evr i.e))=some (.fptr (evr i.e)):=a3y 10 _ rfl
  have hfl:(i.e.fs.length:Int)=0:=by rw [he.fs];rfl
  simp only [q0,a0d,e0i,if_false,a5I,bs,a0x,q1,decide_false,hbx,evL,c9s i.e h he.pl,c9t i.e 20000 h (by omega) (by omega) he.pl he.l1 he.l4 he.ch,a0A,ne_eq,not_true,a0v,a0g]
  simp only [evr,b7g,c2k,c2l,c2m,c2n,ld3,ld9,b8i,a5I,bs,a0A,a2F,he.tm,he.w0,he.tr,he.st,a2r i.e.hfd,hfl,ne_eq,not_true,decide_false,a0v,if_true,if_false,e0i,a0g,a0d,beq_self_eq_true,e0s]
  refine Wp.loop (fun k ds g=>g=h∧∃ a b c,∃ n:Nat,ds=[a,.int .i64 n,b,c]∧k+n=i.e.ls.length)
   (fun x=>x.1 = .ext 0∧x.2.2=h) i.e.ls.length ⟨rfl,_,_,_,0,rfl,rfl⟩ ?_ ?_
  ·rintro k ds g ⟨rfl,a,b,c,n,rfl,hk⟩
   simp only [b2W,a0e,a0m,bs,e0h,a7L,b1R,a2L i.e.hld,a0o]
   refine Wp.dif ?_ ?_
   ·intro h0
    have h0:n<i.e.ls.length:=dl_ h0
    have hg:i.e.ls[n]?=some i.e.ls[n]:=e0x h0
    have hv:=he.tx i.e.ls[n] (List.getElem_mem _)
    have hf3:=he.l4
    have hw:=wi_ n (by omega)
    generalize i.e.ls[n]=x at hg hv
    simp only [b1v i.e.hld,Int.natCast_nonneg,if_true,e0r,hg,Option.map_some,bs,a1D,b7i,ld9,hv,a2F,beq_self_eq_true,e0s,a0d,e0i,if_false,a0r,hw]
    exact .some (.inl ⟨rfl,k - 1,by omega,rfl,_,_,_,n+1,rfl,by omega⟩)
   ·intro h0
    exact .some (.inr ⟨by simp,rfl,rfl⟩)
  ·rintro ⟨ex,ds,g⟩ ⟨h1,h2⟩
   simp only at h1 h2
   subst h1;subst h2
   simp only [a0l,a0k,bs,a0j]
   exact .some rfl
theorem d5o (l:List Lin) (d:D) (fn:D) (pr:Lin→Bool) (h:Hp) (hd:SlOf 3 a1D l d) (hl:l.length≤9223372036854775807) (hf:∀ x,a3o R fn [.agg (a1D x)] h=some (.bool (pr x),h)) {β:Type} (K:Out→Option β) (X:Int→Option β)
   (hX:∀ v r,K (.ret,.int .i64 v::r,h)=X v) (hY:∀ r,K (.ext 0,r,h)=X (-1)):∀ (suf pre:List Lin),l=pre++suf→∀ a b e f,
   (a0J (a5L d fn (.int .i64 l.length)) [a,b,.int .i64 pre.length,e,f] h).bind K=X (idx pr pre.length suf):=by
 intro suf
 induction suf with
 | nil =>
  rintro pre rfl a b e f
  rw [a1r]
  simp [-bind_some, a5L,hY,idx]
 | cons p suf ih =>
  rintro pre rfl a b e f
  have hw:IntKind.wrap .i64 ((pre.length:Int)+1)=(pre++[p]).length:=by
   rw [wrap_i64 (by omega) (by simp at hl;omega)];simp [-bind_some]
  have hlt:(pre.length:Int)<(pre++p::suf).length:=by simp;omega
  rw [a1r]
  generalize hL:pre++p::suf=L at *
  have hg:L[pre.length]?=some p:=by rw [← hL];exact a9R _ _ _
  by_cases hp:pr p=true
  ·simp [-bind_some, a5L,b1v hd,hlt,hg,a9Y,hf,hp,hX,idx]
  ·have:=ih (pre++[p]) (by simp [-bind_some, ← hL]) a (.int .i64 pre.length) (.bool true) (.bool (pr p))
   simp only [← hw] at this
   simp [-bind_some, a5L,b1v hd,hlt,hg,a9Y,hf,hp,idx]
   simp [-bind_some, hp] at this
   exact this
theorem c9q (l:List Lin) (d:D) (fn:D) (pr:Lin→Bool) (h:Hp) (hd:SlOf 3 a1D l d) (hl:l.length≤9223372036854775807) (hf:∀ x,a3o R fn [.agg (a1D x)] h=some (.bool (pr x),h)) :
   R b4e [d,fn] h=some (.int .i64 (idx pr 0 l),h):=by
 rw [d1b]
 simp only [c5O,bs,a2L hd,e0h]
 rw [show (0:Int)=(([]:List Lin).length:Int) from rfl,d5o l d fn pr h hd hl hf _ (fun v=>some (.int .i64 v,h)) (fun v r=>by simp) (fun r=>by simp) l [] rfl]
 rfl
theorem d5I (l:Lin) (n:Int) (h:Hp):R b7n [.agg (a1D l),.fptr [.int .i64 n]] h=some (.bool (decide (l.off=n)),h):=by
 rw [d1c]
 simp [-bind_some, c5P,a1D]
theorem a5S {T:Tab} {t e:Nat} {i j:TI} (ht:T t=Option.some i) (hi:i.td = .sl e) (he:T e=Option.some j) (hz:0<j.sz) {h:Hp} {ys:List (List D)} {y:D} (hy:a1a h j.sz y=Option.some ys) (hl:lim ys.length j.by_=true) :
  ∃ x' h',a0q T h t t (.sl j.sz true []) y=Option.some (x',h')∧h.length≤h'.length∧(∀ q,q<h.length→h'[q]?=h[q]?)∧((x' = .sl j.sz true []∧ys=[])∨Own h' h.length e j.sz ys x'):=by
 have hz':Nat.blt 0 j.sz=true:=Nat.ble_eq_true_of_le hz
 have hs:a6t h i j y=Option.some ys:=by simp [-bind_some, a6t,hi,hy]
 unfold a0q
 simp only [ht,hi,he,hz',hs]
 cases ys with
 | nil=>exact ⟨_,_,rfl,Nat.le_refl _,fun _ _=>rfl,.inl ⟨rfl,rfl⟩⟩
 | cons y1 yr =>
  simp only [e0A,Nat.zero_add,hl,and_self,if_true,List.nil_append,true_and]
  exact ⟨_,_,rfl,by simp [-bind_some, a0C],fun q hq=>by simp only [a0C];rw [e0H hq],.inr (.inr ⟨h.length,Nat.le_refl _,rfl,by simp [-bind_some, a0C]⟩)⟩
theorem c9r (l:List Lin) (d:D) (h:Hp) (hd:SlOf 3 a1D l d) (hl:l.length≤1000000):∃ d',R a8F [d] h=some (d',h)∧SlOf 3 a1D l d':=by
 rw [d1d]
 rcases hd with ⟨rfl,rfl⟩ | ⟨b,rfl⟩
 ·exact ⟨.nils,by
    have hne:a0i tab .eql a1j .nils .nils=some (.bool true):=id rfl
    simp [-bind_some, c3o,hne,a0M (a9Q _ _ _) .nils (Nat.le_refl _) (fun _ _=>rfl)],.nils _ _⟩
 ·obtain ⟨x',h',e,hl',hq,ho⟩:=a5S (T:=tab) (t:=a1j) (i:=c5I) (j:=ti78) (h:=h) (id rfl) (id rfl) (id rfl) (by decide) (y := .sl 3 b (l.map a1D)) (a1e _ _ _ _) (a2n (by have:ti78.by_=32:=rfl;rw [this,e0n];omega) (by rw [e0n];omega))
  have e':a0q tab h a1j a1j (.sl 3 true []) (.sl 3 b (l.map a1D))=some (x',h'):=e
  have hne:a0i tab .eql a1j (.sl 3 b (l.map a1D)) .nils=some (.bool false):=id rfl
  have hsl:SlOf 3 a1D l (frz h.length h' 4 x'):=by
   rcases ho with ⟨rfl,hn⟩ | ho
   ·have:l=[]:=by simpa using hn
    subst this
    exact .inr ⟨true,rfl⟩
   ·exact a1R (n0:=h.length) (n:=3) ho (Nat.le_refl _) (fun a _=>a3c _ h' _ a)
  refine ⟨_,?_,hsl⟩
  simp only [c3o,bs,hne,a0d,e0i,if_false,c7B,e',a0j]
  exact a0M rfl (a1b hsl fun a _=>b2z _ a) hl' hq
structure CutOf (i:It) (at_:Int) (k:Nat) (j:It):Prop where
 r:j.r=i.r
 a0:j.e.a0=i.e.a0
 a1:j.e.a1=i.e.a1
 a2:j.e.a2=at_
 a3:j.e.a3=i.e.a3
 a5:j.e.a5=i.e.a5
 a6:j.e.a6=i.e.a6
 s7:j.e.s7=i.e.s7
 s8:j.e.s8=i.e.s8
 ls:j.e.ls=i.e.ls.drop k
 fs:j.e.fs=i.e.fs
def it0:It:=⟨[],⟨0,0,0,0,[],.nils,0,0,[],[],[],.nils,SlOf.nils _ _,by simp,SlOf.nils _ _,by simp⟩⟩
theorem a6l {α:Type} (pr:α→Bool):∀ (l:List α) (k:Nat),idx pr k l<1∨((k:Int)≤idx pr k l∧idx pr k l<(k+l.length:Nat))
 | [],k => .inl (by simp [-bind_some, idx])
 | x::r,k=>by
  unfold idx
  split
  ·exact .inr ⟨Int.le_refl _,by simp;omega⟩
  ·rcases a6l pr r (k+1) with h | ⟨h1,h2⟩
   ·exact .inl h
   ·exact .inr ⟨by omega,by simp at h2 ⊢;omega⟩
theorem d5H (i:It) (n:Int) (h:Hp) (hl:i.e.ls.length≤1000000):∃ j,R b4d [.agg (itr i),.int .i64 n] h=some (.tup [.agg (itr j),.bool (decide (¬ idx (fun l=>decide (l.off=n)) 1 (i.e.ls.drop 1)<1))],h)∧(if idx (fun l=>decide (l.off=n)) 1 (i.e.ls.drop 1)<1 then j=it0 else CutOf i n (idx (fun l=>decide (l.off=n)) 1 (i.e.ls.drop 1)).toNat j):=by
 generalize hkk:idx (fun l:Lin=>decide (l.off=n)) 1 (i.e.ls.drop 1)=kk
 suffices Wp (R b4d [.agg (itr i),.int .i64 n] h) (fun p=>p.2=h∧∃ j,p.1 = .tup [.agg (itr j),.bool (decide (¬ kk<1))]∧(if kk<1 then j=it0 else CutOf i n kk.toNat j)) by
  obtain ⟨⟨x,h'⟩,h1,rfl,j,rfl,h2⟩:=this
  exact ⟨j,h1,h2⟩
 rw [d0Y]
 simp only [c5L,bs,e0h]
 rw [a3l a0z 11 h (itr i) rfl (by omega)]
 generalize hg0:a0C h a0z 11 [itr i]=g0
 have hgl:g0.length=h.length+1:=by simp [-bind_some, ← hg0,a0C]
 have hb:∀ q,q<h.length→g0[q]?=h[q]?:=fun q hq=>by simp only [← hg0,a0C];rw [e0H hq]
 have p8:g0[h.length]?=some (.row a0z 11 [itr i]):=by simp [-bind_some, ← hg0,a0C]
 clear hg0
 simp only [bs,hgl]
 generalize hg1:a0C g0 a0z 11 [[.str [],.int .i64 0,.int .i64 0,.int .i64 0,.int .i64 0,.nils,.int .i64 0,.int .i64 0,.str [],.str [],.nils]]=g1
 have hgl1:g1.length=h.length+2:=by simp [-bind_some, ← hg1,a0C,hgl]
 have hb1:∀ q,q<h.length+1→g1[q]?=g0[q]?:=fun q hq=>by simp only [← hg1,a0C];rw [e0H (by omega)]
 have p9:g1[h.length+1]?=some (.row a0z 11 [[.str [],.int .i64 0,.int .i64 0,.int .i64 0,.int .i64 0,.nils,.int .i64 0,.int .i64 0,.str [],.str [],.nils]]):=by
  simp only [← hg1,a0C];rw [← hgl,List.getElem?_append_right (Nat.le_refl _)];simp [-bind_some]
 replace p8:=(hb1 h.length (by omega)).trans p8
 replace hb:∀ q,q<h.length→g1[q]?=h[q]?:=fun q hq=>(hb1 q (by omega)).trans (hb q hq)
 clear hg1 hb1 hgl
 have r8:g1.row h.length 0=some [.str i.r,.int .i64 i.e.a0,.int .i64 i.e.a1,.int .i64 i.e.a2,.int .i64 i.e.a3,i.e.ld,.int .i64 i.e.a5,.int .i64 i.e.a6,.str i.e.s7,.str i.e.s8,i.e.fd]:=a0F p8
 simp only [a2I,a2c,bs,a7b,r8,List.drop_succ_cons,List.drop_zero,List.head?_cons,Nat.zero_add]
 refine Wp.loop (fun k ds g=>g=g1∧∃ a b c,∃ m:Nat,ds=[a,.int .i64 m,b,c]∧k+m=i.e.ls.length+1∧1≤m∧idx (fun l:Lin=>decide (l.off=n)) m (i.e.ls.drop m)=kk)
   (fun x=>(x.1 = .ext 0∧x.2.2=g1∧kk<1)∨(x.1 = .ret∧nth 0 x.2.1 = .bool true∧¬ kk<1∧∃ x1,Own x.2.2 h.length a1Z 3 ((i.e.ls.drop kk.toNat).map a1D) x1∧x.2.2[h.length+1]?=some (.row a0z 11 [[.str i.r,.int .i64 i.e.a0,.int .i64 i.e.a1,.int .i64 n,.int .i64 i.e.a3,x1,.int .i64 i.e.a5,.int .i64 i.e.a6,.str i.e.s7,.str i.e.s8,i.e.fd]])∧h.length≤x.2.2.length∧∀ q,q<h.length→x.2.2[q]?=h[q]?)) i.e.ls.length ⟨rfl,_,_,_,1,rfl,rfl,Nat.le_refl _,hkk⟩ ?_ ?_
 ·rintro k ds g ⟨rfl,a,b,c,m,rfl,hk,hm1,hidx⟩
  simp only [b2V,a0e,a0m,bs,e0h,a2L i.e.hld,a0o]
  refine Wp.dif ?_ ?_
  ·intro h0
   have h0:m<i.e.ls.length:=dl_ h0
   have hg:i.e.ls[m]?=some i.e.ls[m]:=e0x h0
   have hw:=wi_ m (by omega)
   rw [List.drop_eq_getElem_cons h0] at hidx
   generalize i.e.ls[m]=x at hg hidx
   simp only [b1v i.e.hld,Int.natCast_nonneg,if_true,e0r,hg,Option.map_some,bs,a1D,b7h,ld3,a0P]
   refine Wp.dif ?_ ?_
   ·intro hx
    have hkm:kk=m:=by
     rw [← hidx]
     unfold idx
     rw [if_pos hx]
    obtain ⟨y1,hs1,hy1⟩:=a8g (T:=tab) (t:=a1j) (i:=c5I) (j:=ti78) (id rfl) (id rfl) (id rfl) (id rfl) i.e.hld (k := .i64) (n:=(m:Int)) (by omega) (by omega)
    simp only [hs1,bs]
    refine b5W (n0:=h.length) (by omega) (Own.nils _ _ _ _) (a2l _ hy1) (by simp;omega) fun x1 g2 ow1 len1 bel1 bel2 hnew=>?_
    rw [List.nil_append] at ow1
    replace p8:=(bel2 h.length (by omega) (by rintro ⟨_,_,hh⟩;cases hh)).trans p8
    replace p9:=(bel2 (h.length+1) (by omega) (by rintro ⟨_,_,hh⟩;cases hh)).trans p9
    simp only [a2I,a5v,a2c,Nat.zero_add,bs]
    refine b9O p8 (by rfl) (by rfl) (by simp [-bind_some, itr,evr]) (by rfl) fun g3 q8 t2=>?_
    have oc:=a0O (a2f ow1)
    refine b2T q8 (by rfl) (by rw [oc.1];rfl) (by simp [-bind_some, spl,a0B,itr,evr]) oc.2 fun g4 q8' t3=>?_
    rw [oc.1] at q8'
    replace q8:g4[h.length]?=some (.row a0z 11 [[.str i.r,.int .i64 i.e.a0,.int .i64 i.e.a1,.int .i64 n,.int .i64 i.e.a3,x1,.int .i64 i.e.a5,.int .i64 i.e.a6,.str i.e.s7,.str i.e.s8,i.e.fd]]):=q8'
    replace t2:=t2.trans t3
    replace p9:=(t2.2 (h.length+1) (by omega)).trans p9
    simp only [a4E q8 rfl,bs]
    refine a6K p9 (by rfl) (by rfl) (by simp) (by rfl) fun g5 q9 t5=>?_
    replace q9:g5[h.length+1]?=some (.row a0z 11 [[.str i.r,.int .i64 i.e.a0,.int .i64 i.e.a1,.int .i64 n,.int .i64 i.e.a3,x1,.int .i64 i.e.a5,.int .i64 i.e.a6,.str i.e.s7,.str i.e.s8,i.e.fd]]):=q9
    have ow2:Own g5 h.length a1Z 3 ((i.e.ls.drop kk.toNat).map a1D) x1:=by
     subst hkm
     refine ow1.keep fun q hq hin=>?_
     have hqq:g.length≤q:=by
      rcases hnew q hin with hh | hh
      ·obtain ⟨_,_,hh⟩:=hh
       cases hh
      ·exact hh
     exact (t5.2 q (by omega)).trans (t2.2 q (by omega))
    refine .some (.inr ⟨by simp,.inr ⟨rfl,rfl,by omega,x1,ow2,q9,?_,fun q hq=>?_⟩⟩)
    ·show h.length≤g5.length
     have:=t2.1;have:=t5.1;omega
    ·exact (((t5.2 q (by omega)).trans (t2.2 q (by omega))).trans (bel1 q hq)).trans (hb q hq)
   ·intro hx
    have hx:¬ decide (x.off=n)=true:=by simp [-bind_some, hx]
    unfold idx at hidx
    rw [if_neg hx] at hidx
    simp only [a0r,bs,hw]
    exact .some (.inl ⟨rfl,k - 1,by omega,rfl,_,_,_,m+1,rfl,by omega,by omega,hidx⟩)
  ·intro h0
   have h0:i.e.ls.length≤m:=by
    have:¬ (m:Int)<i.e.ls.length:=by simpa using h0
    omega
   rw [List.drop_of_length_le h0] at hidx
   have:kk = -1:=hidx.symm
   exact .some (.inr ⟨by simp,.inl ⟨rfl,rfl,by omega⟩⟩)
 ·rintro ⟨ex,ds,g⟩ hp
  rcases hp with ⟨h1,h2,hlt⟩ | ⟨h1,h2,hlt,x1,ow,q9,hgl,hgq⟩
  ·simp only at h1 h2
   subst h1;subst h2
   simp only [a0l,a0k,c7x,bs]
   refine a6K p9 (by rfl) (by rfl) (by simp) (by rfl) fun g2 q9 s2=>?_
   replace q9:g2[h.length+1]?=some (.row a0z 11 [itr it0]):=q9
   simp only [a4E q9 rfl,bs,a1d]
   rw [a0M (d' := .tup [.agg (itr it0),.bool false]) (by rfl) (.tup _ fun d hd=>by
    simp at hd
    rcases hd with rfl | rfl
    ·exact a6n _ _
    ·constructor) (by have:=s2.1;omega) (fun q hq=>(s2.2 q (by omega)).trans (hb q hq))]
   exact .some ⟨rfl,it0,by simp [-bind_some, hlt],by simp [-bind_some, hlt]⟩
  ·simp only at h1 h2 ow q9 hgl hgq
   subst h1
   simp only [a2t,a2m,a2H,a0e,h2,a4E q9 rfl,bs,a1d]
   have hsl:=a1R (n0:=h.length) (n:=1) ow (Nat.le_refl _) (fun a _=>a3c _ g _ a)
   have hfy:frz h.length g 2 i.e.fd=i.e.fd:=a1P i.e.hfd (fun a _=>a4y _ g _ a)
   generalize hj:(⟨i.r,⟨i.e.a0,i.e.a1,n,i.e.a3,i.e.ls.drop kk.toNat,frz h.length g 2 x1,i.e.a5,i.e.a6,i.e.s7,i.e.s8,i.e.fs,i.e.fd,i.e.hfd,i.e.hl,hsl,by have:=i.e.hll;simp [-bind_some];omega⟩⟩:It)=j
   have hcut:CutOf i n kk.toNat j:=by subst hj;exact ⟨rfl,rfl,rfl,rfl,rfl,rfl,rfl,rfl,rfl,rfl,rfl⟩
   rw [a0M (d' := .tup [.agg (itr j),.bool true]) (by subst hj;simp [-bind_some, itr,evr,hfy]) (.tup _ fun d hd=>by
    simp at hd
    rcases hd with rfl | rfl
    ·exact a6n _ _
    ·constructor) hgl hgq]
   exact .some ⟨rfl,j,by simp [-bind_some, hlt],by simp [-bind_some, hlt];exact hcut⟩
def inr (n:Int):List D:=[.int .i64 n]
def orI:List Int→Int
 | []=>0
 | x::r=>if x=0 then orI r else x
theorem l89 (l:List Int) (d:D) (h:Hp) (hd:SlOf 1 inr l d) (hl:l.length≤9223372036854775807) {β:Type} (K:Out→Option β) (X:Int→Option β)
   (hX:∀ v r,K (.ret,.int .i64 v::r,h)=X v) (hY:∀ r,K (.ext 0,r,h)=X 0):∀ (suf pre:List Int),l=pre++suf→∀ n:Int,n=pre.length→∀ a b e f,
   (a0J (b0z (.int .i64 0) d (.int .i64 l.length)) [a,b,.int .i64 n,e,f] h).bind K=X (orI suf):=by
 intro suf
 induction suf with
 | nil =>
  rintro pre rfl n rfl a b e f
  rw [a1r]
  simp [-bind_some, b0z,hY,orI]
 | cons p suf ih =>
  rintro pre rfl n rfl a b e f
  have hw:IntKind.wrap .i64 ((pre.length:Int)+1)=(pre++[p]).length:=by
   rw [wrap_i64 (by omega) (by simp at hl;omega)];simp [-bind_some]
  have hlt:(pre.length:Int)<(pre++p::suf).length:=by simp;omega
  rw [a1r]
  generalize hL:pre++p::suf=L at *
  have hg:L[pre.length]?=some p:=by rw [← hL];exact a9R _ _ _
  by_cases hp:p=0
  ·subst hp
   have:=ih (pre++[0]) (by simp [-bind_some, ← hL]) _ rfl a (.int .i64 0) (.bool true) (.bool false)
   simp only [← hw] at this
   simp [-bind_some, b0z,c8w hd,hlt,hg,inr,orI]
   exact this
  ·simp [-bind_some, b0z,c8w hd,hlt,hg,inr,hp,hX,orI]
theorem s89 (l:List Int) (d:D) (h:Hp) (hd:SlOf 1 inr l d) (hl:l.length≤9223372036854775807):R c8d [d] h=some (.int .i64 (orI l),h):=by
 rw [e89]
 simp only [F89,bs,c8S hd,e0h]
 rw [l89 l d h hd hl _ (fun v=>some (.int .i64 v,h)) (fun v r=>by simp) (fun r=>by simp) l [] rfl 0 rfl]
structure Mrk where
 h:Int
 f:Int
 o:Int
 deriving DecidableEq
def a1K (m:Mrk):List D:=[.int .i64 m.h,.int .i64 m.f,.int .i64 m.o]
theorem b0b (m:Mrk) (h:Hp):a0c tab h a0Q (.fptr (a1K m))=some (.agg (a1K m)):=id rfl
def a4t (a b:Mrk):Int:=orI [a5b a.h b.h,a5b a.f b.f]
theorem d5M (a b:Mrk) (h:Hp):R b4i [.agg (a1K a),.agg (a1K b)] h=some (.int .i64 (a4t a b),h):=by
 have hb:∀ n0 n1:Int,a0W tab a6X 2 [0,1] [.int .i64 n0,.int .i64 n1]=some (.sl 1 true ([n0,n1].map inr)):=fun n0 n1=>id rfl
 have h89:=s89 [a5b a.h b.h,a5b a.f b.f] (.sl 1 true [inr (a5b a.h b.h),inr (a5b a.f b.f)]) h (SlOf.mk 1 inr [a5b a.h b.h,a5b a.f b.f] true) (by simp)
 rw [d1m]
 simp [-bind_some, c5X,a1K,s90,hb,h89,a4t]
theorem a8A:∀ (ls:List Lin) (a b:Int),chain a ls b→∀ k x,ls[k]?=some x→chain x.off (ls.drop k) b∧a≤x.off
 | [],a,b,_,k,x,hk=>by simp at hk
 | y::r,a,b,h,0,x,hk=>by
  simp at hk
  subst hk
  have h':=h
  rw [← h.1] at h'
  exact ⟨h',Int.le_of_eq h.1.symm⟩
 | y::r,a,b,h,k+1,x,hk=>by
  have:=a8A r _ b h.2.2.2.2 k x hk
  have h1:=h.2.1
  exact ⟨this.1,by omega⟩
theorem b4M {α:Type} (pr:α→Bool):∀ (l:List α) (k:Nat) (m:Int),idx pr k l=m→¬ m<0→∃ x,l[m.toNat - k]?=some x∧pr x=true∧(k:Int)≤m
 | [],k,m,h,hm=>by simp [-bind_some, idx] at h;omega
 | x::r,k,m,h,hm=>by
  unfold idx at h
  split at h
  ·rename_i hp
   subst h
   exact ⟨x,by simp,hp,Int.le_refl _⟩
  ·obtain ⟨y,h1,h2,h3⟩:=b4M pr r (k+1) m h hm
   refine ⟨y,?_,h2,by omega⟩
   rw [show m.toNat - k=(m.toNat - (k+1))+1 by omega]
   exact h1
theorem c1Z {l:List (Str × Str)} (h:(l.map (·.1)).Sublist lt98_9):Asc l:=by
 have hp:lt98_9.Pairwise fun a b=>Op.bytesLess a b=true∧a≠b:=by decide
 have:=hp.sublist h
 rw [List.pairwise_iff_getElem] at this
 intro i p q h1 h2
 obtain ⟨g1,h1⟩:=e0y.1 h1
 obtain ⟨g2,h2⟩:=e0y.1 h2
 have:=this i (i+1) (by simpa using g1) (by simpa using g2) (by omega)
 simpa [-bind_some, h1,h2] using this
theorem c8g {l:List (Str × Str)} (h:(l.map (·.1)).Sublist lt98_9):∀ p∈l,a1H p.1=true∧p.1.length≤1000:=by
 intro p hp
 have hm:p.1∈lt98_9:=h.subset (e0F.2 ⟨p,hp,rfl⟩)
 exact (show ∀ s∈lt98_9,a1H s=true∧s.length≤1000 by decide) _ hm
theorem b8H (g:Hp) (T z:Nat) (rows:List (List D)):(a0C g T z rows)[g.length]?=some (.row T z rows):=by simp [-bind_some, a0C]
theorem b8J (g:Hp) (T z:Nat) (rows:List (List D)) {q:Nat} (hq:q<g.length):(a0C g T z rows)[q]?=g[q]?:=by
 simp only [a0C];rw [e0H hq]
theorem b8I (g:Hp) (T z:Nat) (rows:List (List D)):(a0C g T z rows).length=g.length+1:=by simp [-bind_some, a0C]
theorem c4R (n lo hi:Int) (h:Hp):R a8I [.int .i64 n,.int .i64 lo,.int .i64 hi] h=some (.bool (decide (lo≤n)&&decide (n≤hi)),h):=by
 rw [d1I]
 by_cases h1:lo≤n <;> simp [-bind_some, c6o,h1]
def plB (e:Ev):Bool:=(decide (0≤e.a0)&&decide (e.a0≤999))&&((decide (0≤e.a1)&&decide (e.a1≤2147483646))&&(decide (0≤e.a2)&&(decide (e.a2<e.a3)&&decide (e.a3≤60000))))
theorem c9A (e:Ev) (h:Hp):R b4n [.agg (evr e)] h=some (.bool (plB e),h):=by
 rw [d1E]
 have k2:=c4R e.a1 0 2147483646 h
 simp only [c6k,bs,a0V,evr,b7e,b7f,b0W,a3M,ld3,c4R e.a0,a2Y,a0x,a2u,plB]
 generalize (decide (0≤e.a0)&&decide (e.a0≤999))=b1
 generalize (decide (0≤e.a1)&&decide (e.a1≤2147483646))=b2 at k2 ⊢
 generalize h3:decide (0≤e.a2)=b3
 generalize h4:decide (e.a2<e.a3)=b4
 generalize h5:decide (e.a3≤60000)=b5
 cases b1 <;> cases b2 <;> cases b3 <;> cases b4 <;> cases b5 <;> simp [-bind_some, k2,h3,h4,h5]
def lnE (to_ most:Int):Int→List Lin→Int
 | _,[]=>0
 | at_,l::r=>if l.off=at_∧¬ l.len<1∧¬ IntKind.wrap .i64 (to_ - at_)<l.len∧¬ (r=[]∧l.len<IntKind.wrap .i64 (to_ - at_)) then (if most<l.txt.length then 3 else lnE to_ most (IntKind.wrap .i64 (at_+l.len)) r) else 19
def a2y (e:Ev) (most:Int):Int:=if e.ls.length=0 then 9 else if 40<e.ls.length then 4 else lnE e.a3 most e.a2 e.ls
theorem c9B (e:Ev) (m:Int) (h:Hp):R b4o [.agg (evr e),.int .i64 m] h=some (.int .i64 (a2y e m),h):=by
 apply Wp.val
 have sc:∀ (g:Hp) (v:Int),h.length≤g.length→(∀ q,q<h.length→g[q]?=h[q]?)→scope h g (.int .i64 v)=some (.int .i64 v,h):=fun g v h1 h2=>a0M (by simp) (.int _ _) h1 h2
 rw [d1F]
 simp only [c6l,a0V,bs,e0h,evr,a7L,b0W,b1R,ld3,a2L e.hld,a0P,a0x,a0j]
 by_cases g0:e.ls.length=0
 ·have g0':(e.ls.length:Int)=0:=by omega
  simp only [g0',decide_true,a0d,if_true,sc h _ (Nat.le_refl _) (fun _ _=>rfl)]
  exact .some (by simp [-bind_some, a2y,g0])
 by_cases g4:40<e.ls.length
 ·have g0':¬ (e.ls.length:Int)=0:=by omega
  have g4':(40:Int)<(e.ls.length:Int):=by omega
  simp only [g0',g4',decide_true,decide_false,e0i,if_false,a0d,if_true,sc h _ (Nat.le_refl _) (fun _ _=>rfl)]
  exact .some (by simp [-bind_some, a2y,g0,g4])
 have g0':¬ (e.ls.length:Int)=0:=by omega
 have g4':¬ (40:Int)<(e.ls.length:Int):=by omega
 have hE:a2y e m=lnE e.a3 m e.a2 e.ls:=by simp [-bind_some, a2y,g0,g4]
 rw [hE]
 generalize hV:lnE e.a3 m e.a2 e.ls=V
 simp only [g0',g4',decide_true,decide_false,e0i,if_false,a0d,if_true]
 refine Wp.loop (fun k ds g=>h.length≤g.length∧(∀ q,q<h.length→g[q]?=h[q]?)∧∃ a b c d f u v,∃ at_:Int,∃ i:Nat,ds=[a,.int .i64 at_,b,c,d,.int .i64 i,f,u,v]∧k+i=e.ls.length∧lnE e.a3 m at_ (e.ls.drop i)=V)
   (fun x=>h.length≤x.2.2.length∧(∀ q,q<h.length→x.2.2[q]?=h[q]?)∧((x.1 = .ext 1∧V=0)∨(x.1 = .ret∧nth 0 x.2.1 = .int .i64 V))) e.ls.length ⟨Nat.le_refl _,fun _ _=>rfl,_,_,_,_,_,_,_,_,0,rfl,rfl,hV⟩ ?_ ?_
 ·rintro k ds g ⟨hgl,hgb,a,b,c,d,f,u,v,at_,i,rfl,hk,hch⟩
  simp only [b3f,a0e,a0m,bs,e0h,a7L,a3M,b1R,ld3,a2L e.hld,a0o]
  refine Wp.dif ?_ ?_
  ·intro h0
   have h0:i<e.ls.length:=dl_ h0
   have hg:e.ls[i]?=some e.ls[i]:=e0x h0
   have hw:=wi_ i (by omega)
   have hw4:IntKind.wrap .i64 ((e.ls.length:Int) - 1)=(e.ls.length:Int) - 1:=wrap_i64 (by omega) (by omega)
   have hlast:(e.ls.drop (i+1)=[])↔(i:Int)=(e.ls.length:Int) - 1:=by
    rw [List.drop_eq_nil_iff];omega
   rw [List.drop_eq_getElem_cons h0] at hch
   generalize e.ls[i]=x at hg hch
   generalize hrest:e.ls.drop (i+1)=rest at hch hlast
   simp only [b1v e.hld,Int.natCast_nonneg,if_true,e0r,hg,Option.map_some,bs,a9Y]
   generalize hg2:a0C g a1Z 3 [[.int .i64 0,.int .i64 0,.str []]]=g2
   have p1:g2[g.length]?=some (.row a1Z 3 [[.int .i64 0,.int .i64 0,.str []]]):=by rw [← hg2];exact b8H _ _ _ _
   have hb2:∀ q,q<g.length→g2[q]?=g[q]?:=fun q hq=>by rw [← hg2];exact b8J _ _ _ _ hq
   have hl2:g2.length=g.length+1:=by rw [← hg2];exact b8I _ _ _ _
   clear hg2
   refine d6Y p1 (by rfl) (by rfl) (by simp) (by rfl) fun g3 p3 sg=>?_
   replace p3:g3[g.length]?=some (.row a1Z 3 [a1D x]):=p3
   have hgl3:h.length≤g3.length:=by have:=sg.1;omega
   have hgb3:∀ q,q<h.length→g3[q]?=h[q]?:=fun q hq=>((sg.2 q (by omega)).trans (hb2 q (by omega))).trans (hgb q hq)
   clear p1 hb2 hl2 sg hgb
   have r3:g3.row g.length 0=some [.int .i64 x.off,.int .i64 x.len,.str x.txt]:=a0F p3
   simp only [bs,a3F,a3G,a3h,Nat.zero_add,a6D,b0x,r3,List.drop_succ_cons,List.drop_zero,List.head?_cons,a0N,hw4,a0P,a0A,a5I,a0x,a0o]
   unfold lnE at hch
   by_cases q1:x.off=at_
   ·by_cases q2:x.len<1
    ·rw [if_neg (fun hh=>hh.2.1 q2)] at hch
     simp only [q1,q2,ne_eq,not_true,decide_false,decide_true,a0v,if_true,if_false,e0i,reduceCtorEq,bs,a0g,a0d,a3M,ld3,a3F,a3G,a3h,Nat.zero_add,a6D,b0x,r3,List.drop_succ_cons,List.drop_zero,List.head?_cons,a0N,hw4,a0P,a0A,a5I,a0x,a0o]
     exact .some (.inr ⟨by simp,hgl3,hgb3,.inr ⟨rfl,by simp [-bind_some, hch]⟩⟩)
    ·by_cases q3:IntKind.wrap .i64 (e.a3 - at_)<x.len
     ·rw [if_neg (fun hh=>hh.2.2.1 q3)] at hch
      simp only [q1,q2,q3,ne_eq,not_true,decide_false,decide_true,a0v,if_true,if_false,e0i,reduceCtorEq,bs,a0g,a0d,a3M,ld3,a3F,a3G,a3h,Nat.zero_add,a6D,b0x,r3,List.drop_succ_cons,List.drop_zero,List.head?_cons,a0N,hw4,a0P,a0A,a5I,a0x,a0o]
      exact .some (.inr ⟨by simp,hgl3,hgb3,.inr ⟨rfl,by simp [-bind_some, hch]⟩⟩)
     ·by_cases hi:(i:Int)=(e.ls.length:Int) - 1
      ·have hid:decide ((i:Int)=(e.ls.length:Int) - 1)=true:=by simpa using hi
       by_cases q4:x.len<IntKind.wrap .i64 (e.a3 - at_)
       ·rw [if_neg (fun hh=>hh.2.2.2 ⟨hlast.2 hi,q4⟩)] at hch
        simp only [q1,q2,q3,hid,ne_eq,not_true,not_false_eq_true,decide_false,decide_true,a0v,a2x,if_true,if_false,e0i,reduceCtorEq,bs,a0g,a0d,a3M,ld3,a3F,a3G,a3h,Nat.zero_add,a6D,b0x,r3,List.drop_succ_cons,List.drop_zero,List.head?_cons,a0N,hw4,a0P,a0A,a5I,a0x,a0o,q4]
        exact .some (.inr ⟨by simp,hgl3,hgb3,.inr ⟨rfl,by simp [-bind_some, hch]⟩⟩)
       ·rw [if_pos ⟨q1,q2,q3,fun hh=>q4 hh.2⟩] at hch
        by_cases q5:m<(x.txt.length:Int)
        ·rw [if_pos q5] at hch
         simp only [q1,q2,q3,hid,ne_eq,not_true,not_false_eq_true,decide_false,decide_true,a0v,a2x,if_true,if_false,e0i,reduceCtorEq,bs,a0g,a0d,a3M,ld3,a3F,a3G,a3h,Nat.zero_add,a6D,b0x,r3,List.drop_succ_cons,List.drop_zero,List.head?_cons,a0N,hw4,a0P,a0A,a5I,a0x,a0o,q4,q5]
         exact .some (.inr ⟨by simp,hgl3,hgb3,.inr ⟨rfl,by simp [-bind_some, hch]⟩⟩)
        ·rw [if_neg q5] at hch
         simp only [q1,q2,q3,hid,ne_eq,not_true,not_false_eq_true,decide_false,decide_true,a0v,a2x,if_true,if_false,e0i,reduceCtorEq,bs,a0g,a0d,a3M,ld3,a3F,a3G,a3h,Nat.zero_add,a6D,b0x,r3,List.drop_succ_cons,List.drop_zero,List.head?_cons,a0N,hw4,a0P,a0A,a5I,a0x,a0o,q4,q5,a0r,hw]
         exact .some (.inl ⟨rfl,k - 1,by omega,hgl3,hgb3,_,_,_,_,_,_,_,_,i+1,rfl,by omega,by rw [hrest];exact hch⟩)
      ·rw [if_pos ⟨q1,q2,q3,fun hh=>hi (hlast.1 hh.1)⟩] at hch
       have q4:True:=trivial
       by_cases q5:m<(x.txt.length:Int)
       ·rw [if_pos q5] at hch
        simp only [q1,q2,q3,hi,ne_eq,not_true,not_false_eq_true,decide_false,decide_true,a0v,a2x,if_true,if_false,e0i,reduceCtorEq,bs,a0g,a0d,a3M,ld3,a3F,a3G,a3h,Nat.zero_add,a6D,b0x,r3,List.drop_succ_cons,List.drop_zero,List.head?_cons,a0N,hw4,a0P,a0A,a5I,a0x,a0o,q4,q5]
        exact .some (.inr ⟨by simp,hgl3,hgb3,.inr ⟨rfl,by simp [-bind_some, hch]⟩⟩)
       ·rw [if_neg q5] at hch
        simp only [q1,q2,q3,hi,ne_eq,not_true,not_false_eq_true,decide_false,decide_true,a0v,a2x,if_true,if_false,e0i,reduceCtorEq,bs,a0g,a0d,a3M,ld3,a3F,a3G,a3h,Nat.zero_add,a6D,b0x,r3,List.drop_succ_cons,List.drop_zero,List.head?_cons,a0N,hw4,a0P,a0A,a5I,a0x,a0o,q4,q5,a0r,hw]
        exact .some (.inl ⟨rfl,k - 1,by omega,hgl3,hgb3,_,_,_,_,_,_,_,_,i+1,rfl,by omega,by rw [hrest];exact hch⟩)
   ·rw [if_neg (fun hh=>q1 hh.1)] at hch
    simp only [q1,ne_eq,not_false_eq_true,decide_false,decide_true,a0v,if_true,if_false,e0i,reduceCtorEq,bs,a0g,a0d,a3M,ld3,a3F,a3G,a3h,Nat.zero_add,a6D,b0x,r3,List.drop_succ_cons,List.drop_zero,List.head?_cons,a0N,hw4,a0P,a0A,a5I,a0x,a0o]
    exact .some (.inr ⟨by simp,hgl3,hgb3,.inr ⟨rfl,by simp [-bind_some, hch]⟩⟩)
  ·intro h0
   have h0:¬ i<e.ls.length:=by
    have:¬ (i:Int)<e.ls.length:=by simpa using h0
    omega
   rw [List.drop_of_length_le (by omega)] at hch
   exact .some (.inr ⟨by simp,hgl,hgb,.inl ⟨rfl,hch.symm⟩⟩)
 ·rintro ⟨ex,ds,g⟩ ⟨h1,h2,hc⟩
  simp only at h1 h2 hc
  rcases hc with ⟨rfl,rfl⟩ | ⟨rfl,hc⟩
  ·simp only [a0l,a0k,bs,a0j,sc g 0 h1 h2]
   exact .some rfl
  ·simp only [a2t,a2m,a2H,a0e,bs,hc,a0j,sc g V h1 h2]
   exact .some rfl
def dn {α:Type} (c:α→α→Int) (a:Nat):Nat→List α→List α
 | 0,l=>l
 | j+1,l=>match l[j+1]?,l[j]? with
  | some x,some y=>if a<j+1∧c x y<0 then dn c a j ((l.set (j+1) y).set j x) else l
  | _,_=>l
theorem b3P {α:Type} (c:α→α→Int) (a:Nat):∀ (j:Nat) (l:List α),(dn c a j l).length=l.length
 | 0,l=>rfl
 | j+1,l=>by
  unfold dn
  split
  ·split
   ·rw [b3P c a j];simp [-bind_some]
   ·rfl
  ·rfl
def isr {α:Type} (c:α→α→Int) (a:Nat):Nat→Nat→List α→List α
 | _,0,l=>l
 | i,n+1,l=>isr c a (i+1) n (dn c a i l)
theorem b2r {α:Type} (c:α→α→Int) (a:Nat):∀ (n i:Nat) (l:List α),(isr c a i n l).length=l.length
 | 0,i,l=>rfl
 | n+1,i,l=>by
  unfold isr
  rw [b2r c a n,b3P]
theorem a4j {α:Type} (f:α→List D) (l:List α) (i:Nat) (x:α):(l.map f).set i (f x)=(l.set i x).map f:=by rw [List.map_set]
theorem c4v {h:Hp} {q k T z:Nat} {rows:List (List D)} {p:Str × Str} (hq:h[q]?=some (.row T z rows)) (hk:rows[k]?=some (fld p)):a0c tab h a0T (.ptr q k 0)=some (.agg (fld p)):=by
 rw [c8I,a0F hq,hk]
 rfl
theorem d5u (c:Str × Str→Str × Str→Int) (cmp:D) (hc:∀ x y g,a3o R cmp [.agg (fld x),.agg (fld y)] g=some (.int .i64 (c x y),g)) (ob N a:Nat) (hN:N≤1000000000) {β:Type} {K:Out→Option β} {Q:β→Prop}
  (l:List (Str × Str)) (hl:l.length=N) (j:Nat) (hj:j<N) (h:Hp) (ho:h[ob]?=some (.row a0T 2 (l.map fld))) (b:D)
  (k:∀ x y h',h'[ob]?=some (.row a0T 2 ((dn c a j l).map fld))→Same ob h h'→Wp (K (.ext 2,[x,y],h')) Q) :
  Wp ((a0J (a9i (.msl 2 ob 0 N) (.int .i64 a) cmp) [.int .i64 j,b] h).bind K) Q:=by
 generalize hV:dn c a j l=V at k
 refine Wp.loop (fun n ds g=>∃ b,∃ j:Nat,∃ l':List (Str × Str),n=j∧ds=[.int .i64 j,b]∧l'.length=N∧j<N∧g[ob]?=some (.row a0T 2 (l'.map fld))∧Same ob h g∧dn c a j l'=V)
  (fun r=>r.1 = .ext 2∧(∃ x y,r.2.1=[x,y])∧r.2.2[ob]?=some (.row a0T 2 (V.map fld))∧Same ob h r.2.2) j ⟨b,j,l,rfl,rfl,hl,hj,ho,.refl _ _,hV⟩ ?_ ?_
 ·clear ho hl hj hV l j
  rintro n ds g ⟨b,j,l,rfl,rfl,hl,hj,ho,sm,hV⟩
  simp only [a9i,a0e,a0m,bs,e0h,a0x]
  cases n with
  | zero =>
   have hq:¬ (a:Int)<((0:Nat):Int):=by omega
   have hV:l=V:=hV
   subst hV
   simp only [hq,decide_false,a0v,a0Y,e0i,if_false,reduceCtorEq,bs,a0g,a0d]
   exact .some (.inr ⟨by simp,rfl,⟨_,_,rfl⟩,ho,sm⟩)
  | succ j =>
   have g1:l[j+1]?=some l[j+1]:=e0x (by omega)
   have g0:l[j]?=some l[j]:=e0x (by omega)
   unfold dn at hV
   rw [g1,g0] at hV
   simp only at hV
   generalize l[j+1]=x at g1 hV
   generalize l[j]=y at g0 hV
   by_cases ha:a<j+1
   ·have ha':(a:Int)<((j+1:Nat):Int):=by omega
    have hw:IntKind.wrap .i64 (((j+1:Nat):Int) - 1)=(j:Int):=by
     rw [wrap_i64 (by omega) (by omega)];omega
    have i1:(0:Int)≤((j+1:Nat):Int)∧((j+1:Nat):Int)<(N:Int):=by omega
    have i0:(0:Int)≤(j:Int)∧(j:Int)<(N:Int):=by omega
    have m1:(l.map fld)[j+1]?=some (fld x):=by rw [e0v,g1];rfl
    have m0:(l.map fld)[j]?=some (fld y):=by rw [e0v,g0];rfl
    simp only [ha',decide_true,a0v,a0Y,if_true,b5J,i1,i0,and_self,Nat.zero_add,e0r,a0N,hw,bs,c4v ho m1,c4v ho m0,hc,a0o,a0g]
    by_cases hlt:c x y<0
    ·rw [if_pos ⟨ha,hlt⟩] at hV
     simp only [hlt,decide_true,a0d,if_true]
     refine b9N ho m1 (by rfl) (by simp [-bind_some, fld]) (by rfl) fun g2 p2 s2=>?_
     rw [show spl (fld x) 0 (a0B (.agg (fld y)))=fld y from id rfl,a4j] at p2
     have m2:((l.set (j+1) y).map fld)[j]?=some (fld y):=by
      rw [e0v,e0I (by omega),g0];rfl
     try simp only [bs,i0,and_self,if_true,Nat.zero_add,e0r]
     refine b9N p2 m2 (by rfl) (by simp [-bind_some, fld]) (by rfl) fun g3 p3 s3=>?_
     rw [show spl (fld y) 0 (a0B (.agg (fld x)))=fld x from id rfl,a4j] at p3
     try simp only [bs]
     exact .some (.inl ⟨rfl,j,by omega,_,j,_,rfl,rfl,by simpa using hl,by omega,p3,(sm.trans s2).trans s3,hV⟩)
    ·rw [if_neg (fun hh=>hlt hh.2)] at hV
     subst hV
     simp only [hlt,decide_false,a0d,e0i,if_false]
     exact .some (.inr ⟨by simp,rfl,⟨_,_,rfl⟩,ho,sm⟩)
   ·rw [if_neg (fun hh=>ha hh.1)] at hV
    subst hV
    have ha':¬ (a:Int)<((j+1:Nat):Int):=by omega
    simp only [ha',decide_false,a0v,a0Y,e0i,if_false,reduceCtorEq,bs,a0g,a0d]
    exact .some (.inr ⟨by simp,rfl,⟨_,_,rfl⟩,ho,sm⟩)
 ·rintro ⟨x,ds,g⟩ ⟨rfl,⟨u,v,rfl⟩,h1,h2⟩
  exact k u v g h1 h2
theorem c4T (c:Str × Str→Str × Str→Int) (cmp:D) (hc:∀ x y g,a3o R cmp [.agg (fld x),.agg (fld y)] g=some (.int .i64 (c x y),g)) (ob N a b:Nat) (hN:N≤1000000000) (hab:a<b∨(a=b∧b≤N)) (hb:b≤N)
  (l:List (Str × Str)) (hl:l.length=N) (h:Hp) (ho:h[ob]?=some (.row a0T 2 (l.map fld))) :
  ∃ d h',R a6Q [.msl 2 ob 0 N,.int .i64 a,.int .i64 b,cmp] h=some (d,h')∧h'[ob]?=some (.row a0T 2 ((isr c a (a+1) (b - (a+1)) l).map fld))∧Same ob h h':=by
 suffices Wp (R a6Q [.msl 2 ob 0 N,.int .i64 a,.int .i64 b,cmp] h) (fun p=>p.2[ob]?=some (.row a0T 2 ((isr c a (a+1) (b - (a+1)) l).map fld))∧Same ob h p.2) by
  obtain ⟨⟨x,h'⟩,h1,h2⟩:=this
  exact ⟨x,h',h1,h2⟩
 rw [c7S]
 have hw:=wi_ a (by omega)
 simp only [c3u,bs,e0h,a0r,hw]
 generalize hV:isr c a (a+1) (b - (a+1)) l=V
 refine Wp.loop (fun n ds g=>∃ u v w,∃ i:Nat,∃ l':List (Str × Str),ds=[.int .i64 i,u,v,w]∧n=b - i∧l'.length=N∧g[ob]?=some (.row a0T 2 (l'.map fld))∧Same ob h g∧isr c a i (b - i) l'=V)
  (fun r=>r.1 = .ext 0∧r.2.2[ob]?=some (.row a0T 2 (V.map fld))∧Same ob h r.2.2) (b - (a+1)) ⟨_,_,_,a+1,l,rfl,rfl,hl,ho,.refl _ _,hV⟩ ?_ ?_
 ·rintro n ds g ⟨u,v,w,i,l',rfl,rfl,hl',ho',sm,hV⟩
  simp only [a9h,a0e,a0m,bs,e0h,a0o]
  refine Wp.dif ?_ ?_
  ·intro h0
   have h0:i<b:=by
    have:(i:Int)<(b:Int):=by simpa using h0
    omega
   have hb1:b - i=(b - (i+1))+1:=by omega
   rw [hb1] at hV
   unfold isr at hV
   have hw2:=wi_ i (by omega)
   refine d5u c cmp hc ob N a hN l' hl' i (by omega) g ho' _ fun x y g2 p2 s2=>?_
   simp only [a0l,a1u,a0k,bs,a0e,a0r,hw2]
   exact .some (.inl ⟨rfl,b - (i+1),by omega,_,_,_,i+1,_,rfl,rfl,by rw [b3P];exact hl',p2,sm.trans s2,hV⟩)
  ·intro h0
   have h0:¬ i<b:=by
    have:¬ (i:Int)<(b:Int):=by simpa using h0
    omega
   rw [show b - i=0 by omega] at hV
   have hV:l'=V:=hV
   subst hV
   exact .some (.inr ⟨by simp,rfl,ho',sm⟩)
 ·rintro ⟨x,ds,g⟩ ⟨rfl,h1,h2⟩
  simp only [a0l,a2k,bs]
  exact .some ⟨h1,h2⟩
theorem b6B:∀ (a b:Str),Lib.compareBytes a b<0↔Op.bytesLess a b=true
 | [],[]=>by simp [-bind_some, Lib.compareBytes,Op.bytesLess]
 | [],_::_=>by simp [-bind_some, Lib.compareBytes,Op.bytesLess]
 | _::_,[]=>by simp [-bind_some, Lib.compareBytes,Op.bytesLess]
 | x::a,y::b=>by
  have ih:=b6B a b
  simp only [Lib.compareBytes,Op.bytesLess]
  by_cases h1:x<y
  ·simp [-bind_some, h1]
  ·by_cases h2:y<x
   ·have h3:¬ x=y:=fun hh=>by subst hh;exact h1 h2
    simp [-bind_some, h1,h2,h3]
   ·have h3:x=y:=by
      apply UInt8.toNat_inj.1
      have:=mt UInt8.lt_iff_toNat_lt.2 h1
      have:=mt UInt8.lt_iff_toNat_lt.2 h2
      omega
    subst h3
    simp [-bind_some, h1,ih]
def cF (x y:Str × Str):Int:=Lib.compareBytes x.1 y.1
theorem d6c (a b:Str) (h:Hp):R b7D [.str a,.str b] h=some (.int .i64 (Lib.compareBytes a b),h):=by
 rw [d1P]
 simp only [c6u,bs,d1T,c6y,e0c,a0j]
theorem d6b (x y:Str × Str) (h:Hp):R a7T [.agg (fld x),.agg (fld y)] h=some (.int .i64 (cF x y),h):=by
 rw [d1O]
 simp only [c6t,bs,a0V,b3Z,b4a,d6c,a0j,cF]
theorem d0O (x y:Str × Str) (h:Hp):a3o R (.fn (.func a7T) [] []) [.agg (fld x),.agg (fld y)] h=some (.int .i64 (cF x y),h):=by
 rw [a2V];exact d6b x y h
end Go.Proofs.YthaajlepgblimaaGreatDoor

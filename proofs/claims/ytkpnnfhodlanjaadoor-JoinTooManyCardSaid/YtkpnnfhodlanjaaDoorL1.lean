/- Laws, on plain data, about functions that the statement reaches. -/
import Derived.Test.YtkpnnfhodlanjaaDoorT9
set_option linter.unusedSimpArgs false
set_option linter.unusedVariables false
set_option linter.unnecessarySimpa false
set_option maxRecDepth 100000
namespace Go.Proofs.YtkpnnfhodlanjaaDoor
open Go.Eng Go.Pi
open Option (bind_some)
abbrev Str:=List UInt8
def fld (p:Str × Str):List D:=[.str p.1,.str p.2]
structure Lin where
 off:Int
 len:Int
 txt:Str
 deriving DecidableEq
def b4J (l:Lin):List D:=[.int .i64 l.off,.int .i64 l.len,.str l.txt]
structure Ev where
 a0:Int
 a1:Int
 a2:Int
 a3:Int
 ls:List Lin
 ld:D
 a5:Int
 a6:Int
 s7:Str
 s8:Str
 fs:List (Str × Str)
 fd:D
 hfd:SlOf 2 fld fs fd
 hl:fs.length≤9223372036854775807
 hld:SlOf 3 b4J ls ld
 hll:ls.length≤9223372036854775807
def evr (e:Ev):List D:=[.int .i64 e.a0,.int .i64 e.a1,.int .i64 e.a2,.int .i64 e.a3,e.ld,.int .i64 e.a5,.int .i64 e.a6,.str e.s7,.str e.s8,e.fd]
theorem b2b (n0:Nat) (h:Hp) (n:Nat) (p:Str × Str):∀ d∈fld p,frz n0 h n d=d:=by simp [-bind_some, fld]
theorem b4q (n:Nat) (p:Str × Str):∀ d∈fld p,Ok n d:=by
 intro d hd
 simp [-bind_some, fld] at hd
 rcases hd with rfl | rfl <;> constructor
theorem b0O (n0:Nat) (h:Hp) (n:Nat) (p:Lin):∀ d∈b4J p,frz n0 h n d=d:=by simp [-bind_some, b4J]
theorem b2x (n:Nat) (p:Lin):∀ d∈b4J p,Ok n d:=by
 intro d hd
 simp [-bind_some, b4J] at hd
 rcases hd with rfl | rfl | rfl <;> constructor
theorem a6m (n0:Nat) (h:Hp) (n:Nat) (e:Ev):∀ d∈evr e,frz n0 h (n+1) d=d:=by
 intro d hd
 simp [-bind_some, evr] at hd
 rcases hd with rfl | rfl | rfl | rfl | rfl | rfl | rfl | rfl | rfl | rfl
 all_goals first | exact a7A e.hld (fun a _=>b0O _ _ _ a) | exact a7A e.hfd (fun a _=>b2b _ _ _ a) | simp [-bind_some]
theorem a8D (n:Nat) (e:Ev):∀ d∈evr e,Ok n d:=by
 intro d hd
 simp [-bind_some, evr] at hd
 rcases hd with rfl | rfl | rfl | rfl | rfl | rfl | rfl | rfl | rfl | rfl
 all_goals first | exact a5j e.hld (fun a _=>b2x _ a) | exact a5j e.hfd (fun a _=>b4q _ a) | constructor
theorem a1H {n:Int} (h0:0≤n) (h1:n<18446744073709551616):IntKind.wrap .u64 n=n:=by
 unfold IntKind.wrap
 simp [-bind_some, IntKind.signed,IntKind.bits,IntKind.min,IntKind.max]
 omega
def b7k (a b:Ev):Bool:=decide (a.a0=b.a0)&&(decide (a.a1=b.a1)&&(decide (a.a2=b.a2)&&(decide (a.a3=b.a3)&&(decide (a.a5=b.a5)&&(decide (a.a6=b.a6)&&(decide (a.s7=b.s7)&&(decide (a.s8=b.s8)&&(decide (a.ls=b.ls)&&decide (a.fs=b.fs)))))))))
def a9V (l:List (Str × Str)) (n:Str):Option Str:=(l.find? fun p=>p.1==n).map (·.2)
def b0B (l:List (Str × Str)) (n:Str):D := .tup [.str ((a9V l n).getD []),.bool (a9V l n).isSome]
theorem l70 (l:List (Str × Str)) (d:D) (n:Str) (h:Hp) (hd:SlOf 2 fld l d) (hl:l.length≤9223372036854775807) {β:Type} (K:Out→Option β) (X:Str→Option β) (Y:Option β)
   (hX:∀ v r,K (.ret,.str v :: .bool true::r,h)=X v) (hY:∀ r,K (.ext 0,r,h)=Y):∀ (suf pre:List (Str × Str)),l=pre++suf→∀ a b c e f,
   (a0v (a5q (.str n) d (.int .i64 l.length)) [a,b,c,.int .i64 pre.length,e,f] h).bind K=match a9V suf n with | some v=>X v | none=>Y:=by
 intro suf
 induction suf with
 | nil =>
  rintro pre rfl a b c e f
  rw [a1C]
  simp [-bind_some, a5q,hY,a9V]
 | cons p suf ih =>
  rintro pre rfl a b c e f
  have hw:IntKind.wrap .i64 ((pre.length:Int)+1)=(pre++[p]).length:=by
   rw [wrap_i64 (by omega) (by simp at hl;omega)];simp [-bind_some]
  have hlt:(pre.length:Int)<(pre++p::suf).length:=by simp;omega
  rw [a1C]
  generalize hL:pre++p::suf=L at *
  have hg:L[pre.length]?=some p:=by rw [← hL];exact a4U _ _ _
  by_cases hp:p.1=n
  ·simp [-bind_some, a5q,b4y hd,hlt,hg,fld,hp,hX,a9V]
  ·have:=ih (pre++[p]) (by simp [-bind_some, ← hL]) a b (.fptr (fld p)) (.bool true) (.bool (p.1==n))
   simp only [← hw] at this
   simp [-bind_some, a5q,b4y hd,hlt,hg,fld,hp,a9V]
   simp [-bind_some, fld,a9V] at this
   exact this
theorem s70 (l:List (Str × Str)) (d:D) (n:Str) (h:Hp) (hd:SlOf 2 fld l d) (hl:l.length≤9223372036854775807):R b6N [d,.str n] h=some (b0B l n,h):=by
 rw [e70]
 simp only [F70,bs,b4G hd,b9Y]
 rw [show (0:Int)=(([]:List (Str × Str)).length:Int) from rfl,l70 l d n h hd hl _ (fun v=>some (.tup [.str v,.bool true],h)) (some (.tup [.str [],.bool false],h)) (fun v r=>by simp) (fun r=>by simp) l [] rfl]
 unfold b0B
 cases a9V l n <;> rfl
theorem s75 (n:Str) (e:Ev) (h:Hp):R b5F [.agg (evr e),.str n] h=some (b0B e.fs n,h):=by
 rw [e75]
 simp [-bind_some, F75,evr,s70 _ _ _ _ e.hfd e.hl,b0B]
def a5Q (a b:Ev):Bool:=if a.a5=b.a5 then (if a.a0=b.a0 then (if a.a1=b.a1 then decide (a.a2<b.a2) else decide (a.a1<b.a1)) else decide (a.a0<b.a0)) else decide (a.a5<b.a5)
theorem s99 (n:Int) (h:Hp):R b5G [.int .i64 n] h=some (.bool false,h):=by
 rw [e99]
 simp [-bind_some, F99]
def a1I (a b:Int):Int:=if a<b then -1 else if b<a then 1 else 0
theorem s90 (a b:Int) (h:Hp):R a9U [.int .i64 a,.int .i64 b] h=some (.int .i64 (a1I a b),h):=by
 rw [e90]
 simp [-bind_some, F90,s99,a1I]
 by_cases h0:a<b
 ·simp [-bind_some, h0]
 ·by_cases h1:b<a <;> simp [-bind_some, h0,h1]
theorem b9x (t:Nat) (s u:Str):a0h tab .gtr t (.str s) (.str u)=some (.bool (!(Op.bytesLess s u||s==u))):=id rfl
def inr (n:Int):List D:=[.int .i64 n]
def orI:List Int→Int
 | []=>0
 | x::r=>if x=0 then orI r else x
theorem l89 (l:List Int) (d:D) (h:Hp) (hd:SlOf 1 inr l d) (hl:l.length≤9223372036854775807) {β:Type} (K:Out→Option β) (X:Int→Option β)
   (hX:∀ v r,K (.ret,.int .i64 v::r,h)=X v) (hY:∀ r,K (.ext 0,r,h)=X 0):∀ (suf pre:List Int),l=pre++suf→∀ n:Int,n=pre.length→∀ a b e f,
   (a0v (a5r (.int .i64 0) d (.int .i64 l.length)) [a,b,.int .i64 n,e,f] h).bind K=X (orI suf):=by
 intro suf
 induction suf with
 | nil =>
  rintro pre rfl n rfl a b e f
  rw [a1C]
  simp [-bind_some, a5r,hY,orI]
 | cons p suf ih =>
  rintro pre rfl n rfl a b e f
  have hw:IntKind.wrap .i64 ((pre.length:Int)+1)=(pre++[p]).length:=by
   rw [wrap_i64 (by omega) (by simp at hl;omega)];simp [-bind_some]
  have hlt:(pre.length:Int)<(pre++p::suf).length:=by simp;omega
  rw [a1C]
  generalize hL:pre++p::suf=L at *
  have hg:L[pre.length]?=some p:=by rw [← hL];exact a4U _ _ _
  by_cases hp:p=0
  ·subst hp
   have:=ih (pre++[0]) (by simp [-bind_some, ← hL]) _ rfl a (.int .i64 0) (.bool true) (.bool false)
   simp only [← hw] at this
   simp [-bind_some, a5r,b4z hd,hlt,hg,inr,orI]
   exact this
  ·simp [-bind_some, a5r,b4z hd,hlt,hg,inr,hp,hX,orI]
theorem s89 (l:List Int) (d:D) (h:Hp) (hd:SlOf 1 inr l d) (hl:l.length≤9223372036854775807):R b4r [d] h=some (.int .i64 (orI l),h):=by
 rw [e89]
 simp only [F89,bs,b4I hd,b9Y]
 rw [l89 l d h hd hl _ (fun v=>some (.int .i64 v,h)) (fun v r=>by simp) (fun r=>by simp) l [] rfl 0 rfl]
theorem a5c (g:Hp) (T z:Nat) (rows:List (List D)):(a1p g T z rows).length=g.length+1:=by simp [-bind_some, a1p]
def dn {α:Type} (c:α→α→Int) (a:Nat):Nat→List α→List α
 | 0,l=>l
 | j+1,l=>match l[j+1]?,l[j]? with
  | some x,some y=>if a<j+1∧c x y<0 then dn c a j ((l.set (j+1) y).set j x) else l
  | _,_=>l
theorem a8s {α:Type} (c:α→α→Int) (a:Nat):∀ (j:Nat) (l:List α),(dn c a j l).length=l.length
 | 0,l=>rfl
 | j+1,l=>by
  unfold dn
  split
  ·split
   ·rw [a8s c a j];simp [-bind_some]
   ·rfl
  ·rfl
def isr {α:Type} (c:α→α→Int) (a:Nat):Nat→Nat→List α→List α
 | _,0,l=>l
 | i,n+1,l=>isr c a (i+1) n (dn c a i l)
theorem a1Y {α:Type} (f:α→List D) (l:List α) (i:Nat) (x:α):(l.map f).set i (f x)=(l.set i x).map f:=by rw [List.map_set]
theorem b2w (a b:Ev):decide (orI [a1I a.a5 b.a5,a1I a.a0 b.a0,a1I a.a1 b.a1,a1I a.a2 b.a2]<0)=a5Q a b:=by
 have key:∀ x y:Int,(a1I x y=0↔x=y)∧(a1I x y<0↔x<y):=fun x y=>by
  unfold a1I
  split
  ·constructor <;> constructor <;> intro h <;> omega
  ·split
   ·constructor <;> constructor <;> intro h <;> omega
   ·constructor <;> constructor <;> intro h <;> omega
 simp only [orI,key,a5Q]
 by_cases h5:a.a5=b.a5
 ·by_cases h0:a.a0=b.a0
  ·by_cases h1:a.a1=b.a1
   ·by_cases h2:a.a2=b.a2
    ·simp [-bind_some, h5,h0,h1,h2]
    ·simp [-bind_some, h5,h0,h1,h2,key]
   ·simp [-bind_some, h5,h0,h1,key]
  ·simp [-bind_some, h5,h0,key]
 ·simp [-bind_some, h5,key]
theorem b4S (a b:Ev) (h:Hp):R a3W [.agg (evr a),.agg (evr b)] h=some (.bool (a5Q a b),h):=by
 have s4:SlOf 1 inr [a1I a.a5 b.a5,a1I a.a0 b.a0,a1I a.a1 b.a1,a1I a.a2 b.a2] (.sl 1 true [[.int .i64 (a1I a.a5 b.a5)],[.int .i64 (a1I a.a0 b.a0)],[.int .i64 (a1I a.a1 b.a1)],[.int .i64 (a1I a.a2 b.a2)]]) := .inr ⟨true,rfl⟩
 rw [b6f]
 simp only [b3o,bs,a2S,evr,b4l,b4m,b4n,b4o,ld3,s90,b3W,s89 _ _ h s4 (by simp),a0r,a2r,a0y,b2w]
structure Tal where
 h:Int
 r:Str
 n:Int
def a7W (a b:Str):Int:=if Op.bytesLess a b=true then -1 else if a=b then 0 else 1
theorem b9w (s:Str) (h:Hp):R b0z [.str s] h=some (.bool false,h):=by
 rw [b8e]
 simp [-bind_some, b7L]
theorem s91 (a b:Str) (h:Hp):R b6O [.str a,.str b] h=some (.int .i64 (a7W a b),h):=by
 rw [e91]
 simp only [F91,bs,b9w,a0b,b9Z,if_false,a5z,b9x,a7W,a0y]
 cases h0:Op.bytesLess a b
 ·by_cases h1:a=b <;> simp [-bind_some, h1]
 ·simp [-bind_some]
theorem a2d:∀ a:Str,Op.bytesLess a a=false
 | []=>rfl
 | x::a=>by simp [-bind_some, Op.bytesLess,a2d a]
theorem a7G:∀ {a b c:Str},Op.bytesLess a b=true→Op.bytesLess b c=true→Op.bytesLess a c=true
 | _,[],_,h,_=>by cases ‹Str› <;> simp [-bind_some, Op.bytesLess] at h
 | _,_::_,[],_,h=>by simp [-bind_some, Op.bytesLess] at h
 | [],_::_,_::_,_,_=>rfl
 | x::a,y::b,z::c,h,k=>by
  simp only [Op.bytesLess,Bool.or_eq_true,decide_eq_true_eq,Bool.and_eq_true,beq_iff_eq] at h k ⊢
  rcases h with h | ⟨rfl,h⟩
  ·rcases k with k | ⟨rfl,k⟩
   ·exact .inl (UInt8.lt_trans h k)
   ·exact .inl h
  ·rcases k with k | ⟨rfl,k⟩
   ·exact .inl k
   ·exact .inr ⟨rfl,a7G h k⟩
theorem a6R:∀ {a b:Str},Op.bytesLess a b=false→a≠b→Op.bytesLess b a=true
 | [],[],_,h=>absurd rfl h
 | [],_::_,h,_=>by simp [-bind_some, Op.bytesLess] at h
 | _::_,[],_,_=>rfl
 | x::a,y::b,h,k=>by
  simp only [Op.bytesLess,Bool.or_eq_false_iff,decide_eq_false_iff_not,Bool.and_eq_false_iff,beq_eq_false_iff_ne] at h
  simp only [Op.bytesLess,Bool.or_eq_true,decide_eq_true_eq,Bool.and_eq_true,beq_iff_eq]
  by_cases hxy:x=y
  ·subst hxy
   refine .inr ⟨rfl,a6R (h.2.resolve_left fun hh=>hh rfl) fun hh=>k (by rw [hh])⟩
  ·left
   have h1:=mt UInt8.lt_iff_toNat_lt.2 h.1
   have h2:x.toNat≠y.toNat:=fun hh=>hxy (UInt8.toNat_inj.1 hh)
   exact UInt8.lt_iff_toNat_lt.2 (by omega)
def gr:List Ev→List Ev→Bool
 | [],_=>true
 | _::_,[]=>false
 | x::a,y::b=>if b7k x y=true then gr a b else gr (x::a) b
def sm (f:Tal→Int):List Tal→Int
 | []=>0
 | t::r=>f t+sm f r
def cnt (host:Int):List Ev→Int
 | []=>0
 | e::r=>(if e.a0=host then (e.ls.length:Int) else 0)+cnt host r
structure SOrd {α:Type} (c:α→α→Int) (S Pre:α→α→Prop):Prop where
 tr:∀ x y z,S x y→S y z→S x z
 lt:∀ x y,Pre x y→c y x<0→S y x
 ge:∀ x y,Pre x y→¬ c y x<0→S x y
theorem b4P {α:Type} {c:α→α→Int} {S Pre:α→α→Prop} (o:SOrd c S Pre) {A1 A2:List α} {x:α} (hA:(A1++A2).Pairwise S) (hp:∀ y∈A1++A2,Pre y x)
  (h2:A2=[]∨∃ y r,A2=y::r∧c x y<0) (h1:A1=[]∨∃ y r,A1=r++[y]∧¬ c x y<0):(A1++x::A2).Pairwise S:=by
 rw [List.pairwise_append] at hA ⊢
 obtain ⟨p1,p2,p3⟩:=hA
 have q1:∀ a∈A1,S a x:=by
  rcases h1 with rfl | ⟨y,r,rfl,hy⟩
  ·intro a ha;cases ha
  ·intro a ha
   have hyx:S y x:=o.ge y x (hp y (by simp)) hy
   rw [List.pairwise_append] at p1
   rcases c0s.1 ha with ha | ha
   ·exact o.tr _ _ _ (p1.2.2 a ha y (by simp)) hyx
   ·simp at ha;subst ha;exact hyx
 have q2:∀ b∈A2,S x b:=by
  rcases h2 with rfl | ⟨y,r,rfl,hy⟩
  ·intro a ha;cases ha
  ·intro b hb
   have hxy:S x y:=o.lt y x (hp y (by simp)) hy
   rw [List.pairwise_cons] at p2
   rcases c0r.1 hb with rfl | hb
   ·exact hxy
   ·exact o.tr _ _ _ hxy (p2.1 b hb)
 refine ⟨p1,List.pairwise_cons.2 ⟨q2,p2⟩,fun a ha b hb=>?_⟩
 rcases c0r.1 hb with rfl | hb
 ·exact q1 a ha
 ·exact p3 a ha b hb
theorem a8t {α:Type} (c:α→α→Int) (P:List α) (x:α):∀ (R:List α) (Q:List α),∃ A1 A2,R.reverse=A1++A2∧dn c P.length (P.length+R.length) (P++R.reverse++x::Q)=P++A1++x::A2++Q ∧
  (A2=[]∨∃ y r,A2=y::r∧c x y<0)∧(A1=[]∨∃ y r,A1=r++[y]∧¬ c x y<0)
 | [], Q=>⟨[],[],rfl,by
   cases P with
   | nil=>simp [-bind_some, dn]
   | cons p P =>
    simp only [c0n,c0o,Nat.add_zero,List.reverse_nil,List.append_nil]
    unfold dn
    split
    ·rw [if_neg (by omega)];simp [-bind_some]
    ·simp [-bind_some],.inl rfl,.inl rfl⟩
 | y::R,Q=>by
  have g1:(P++(y::R).reverse++x::Q)[P.length+R.length+1]?=some x:=by
   rw [List.getElem?_append_right (by simp;omega)]
   simp [-bind_some]
   try (have:P.length+R.length+1 - (P.length+(R.length+1))=0:=by omega
        rw [this];rfl)
  have g0:(P++(y::R).reverse++x::Q)[P.length+R.length]?=some y:=by
   rw [c0u (by simp),List.getElem?_append_right (by omega)]
   simp [-bind_some]
  rw [c0n,← Nat.add_assoc]
  unfold dn
  rw [g1,g0]
  simp only
  by_cases hc:c x y<0
  ·rw [if_pos ⟨by omega,hc⟩]
   have hs:((P++(y::R).reverse++x::Q).set (P.length+R.length+1) y).set (P.length+R.length) x=P++R.reverse++x::(y::Q):=by
    have e1:P++(y::R).reverse++x::Q=(P++R.reverse)++y::x::Q:=by simp
    rw [e1]
    have l1:(P++R.reverse).length=P.length+R.length:=by simp
    rw [List.set_append_right _ _ (by omega),List.set_append_right _ _ (by omega),l1]
    have:P.length+R.length+1 - (P.length+R.length)=1:=by omega
    rw [this,Nat.sub_self]
    rfl
   rw [hs]
   obtain ⟨A1,A2,h1,h2,h3,h4⟩:=a8t c P x R (y::Q)
   refine ⟨A1,A2++[y],by simp [-bind_some, h1],by rw [h2];simp [-bind_some],?_,h4⟩
   rcases h3 with rfl | ⟨u,r,rfl,hu⟩
   ·exact .inr ⟨y,[],rfl,hc⟩
   ·exact .inr ⟨u,r++[y],rfl,hu⟩
  ·rw [if_neg (fun hh=>hc hh.2)]
   exact ⟨(y::R).reverse,[],by simp,by simp,.inl rfl,.inr ⟨y,R.reverse,by simp,hc⟩⟩
theorem b4c {α:Type} (c:α→α→Int) (P A Q:List α) (x:α):∃ A1 A2,A=A1++A2∧dn c P.length (P.length+A.length) (P++A++x::Q)=P++A1++x::A2++Q ∧
  (A2=[]∨∃ y r,A2=y::r∧c x y<0)∧(A1=[]∨∃ y r,A1=r++[y]∧¬ c x y<0):=by
 have:=a8t c P x A.reverse Q
 simpa using this
theorem a8X {α:Type} {c:α→α→Int} {S Pre:α→α→Prop} (o:SOrd c S Pre) (P Q:List α):∀ (B A:List α),A.Pairwise S→(∀ x∈A,∀ y∈B,Pre x y)→B.Pairwise Pre →
  ∃ C,isr c P.length (P.length+A.length) B.length (P++A++B++Q)=P++C++Q∧C.Perm (A++B)∧C.Pairwise S
 | [],A,hA,_,_=>⟨A,by simp [-bind_some, isr],by simp,hA⟩
 | x::B,A,hA,hp,hB=>by
  rw [List.pairwise_cons] at hB
  obtain ⟨A1,A2,rfl,h2,h3,h4⟩:=b4c c P A (B++Q) x
  have hA':(A1++x::A2).Pairwise S:=b4P o hA (fun y hy=>hp y hy x (by simp)) h3 h4
  have e1:P++(A1++A2)++x::B++Q=P++(A1++A2)++x::(B++Q):=by simp
  have hpm:(A1++x::A2).Perm (x::(A1++A2)):=List.perm_middle
  obtain ⟨C,q1,q2,q3⟩:=a8X o P Q B (A1++x::A2) hA' (fun u hu v hv=>by
   rcases c0r.1 (hpm.mem_iff.1 hu) with rfl | hu
   ·exact hB.1 v hv
   ·exact hp u hu v (by simp [-bind_some, hv])) hB.2
  refine ⟨C,?_,q2.trans ?_,q3⟩
  ·rw [c0n]
   unfold isr
   rw [e1,h2,← q1]
   have e2:P.length+(A1++A2).length+1=P.length+(A1++x::A2).length:=by simp;omega
   have e3:P++A1++x::A2++(B++Q)=P++(A1++x::A2)++B++Q:=by simp
   rw [e2,e3]
  ·have:((A1++x::A2)++B).Perm ((x::(A1++A2))++B):=hpm.append_right B
   refine this.trans ?_
   simpa using (List.perm_middle (l₁:=A1++A2) (l₂:=B) (a:=x)).symm
def num (l:List Int):Int:=l.foldl (fun v b=>v*256+b) 0
theorem b1e (n:Int):IntKind.wrap .u8 n=n % 256:=by
 unfold IntKind.wrap
 simp [-bind_some, IntKind.signed,IntKind.bits,IntKind.min,IntKind.max]
theorem a9T (x:BitVec IntKind.u64.bits):IntKind.wrap .u64 (x.toNat:Int)=x.toNat:=by
 have:=x.isLt
 have h2:(2:Nat) ^ IntKind.u64.bits=18446744073709551616:=by decide
 exact a1H (by omega) (by omega)
abbrev Cur:=List Int × Bool
def b1a (s:Cur) (n:Int):List Int × Cur:=if s.2=true∨n<0∨(s.1.length:Int)<n then ([],(s.1,true)) else (s.1.take n.toNat,(s.1.drop n.toNat,false))
def b1v (s:Cur):Int × Cur:=(IntKind.wrap .i64 (num (b1a s 8).1),(b1a s 8).2)
def b7Q (s:Cur):Int × Cur:=(IntKind.wrap .i64 (num (b1a s 4).1),(b1a s 4).2)
theorem a8E (e:Ev):(D.agg (evr e)).okv=true:=by
 have o1:=a7B e.hld
 have o2:=a7B e.hfd
 have o3:D.agg (evr e) = .agg [.int .i64 e.a0,.int .i64 e.a1,.int .i64 e.a2,.int .i64 e.a3,e.ld,.int .i64 e.a5,.int .i64 e.a6,.str e.s7,.str e.s8,e.fd]:=rfl
 rw [o3]
 generalize e.ld=a at o1
 generalize e.fd=b at o2
 cases a <;> simp_all [-bind_some, D.okv,D.one,a0z] <;> cases b <;> simp_all [-bind_some, D.okv,D.one,a0z]
structure Rw where
 k:List Str
 kd:D
 hk:SlOf 1 (fun s=>[D.str s]) k kd
 hkl:k.length≤1000000
 n:List Int
 nd:D
 hn:SlOf 1 inr n nd
 hnl:n.length≤1000000
 er:Int
theorem a5x (a b:Str):a7W a b=0↔a=b:=by
 unfold a7W
 by_cases h:Op.bytesLess a b=true
 ·simp only [h,if_true]
  constructor
  ·intro h;cases h
  ·rintro rfl;rw [a2d] at h;cases h
 ·by_cases h2:a=b <;> simp [-bind_some, h,h2,a2d]
theorem b1T (a b:Str):a7W a b<0↔Op.bytesLess a b=true:=by
 unfold a7W
 by_cases h:Op.bytesLess a b=true
 ·simp [-bind_some, h]
 ·by_cases h2:a=b <;> simp [-bind_some, h,h2,a2d]
theorem a1O (a b:Int):a1I a b=0↔a=b:=by
 unfold a1I
 by_cases h:a<b
 ·simp [-bind_some, h];omega
 ·by_cases h2:b<a
  ·simp [-bind_some, h,h2];omega
  ·simp [-bind_some, h,h2];omega
theorem a4K (a b:Int):a1I a b<0↔a<b:=by
 unfold a1I
 by_cases h:a<b
 ·simp [-bind_some, h]
 ·by_cases h2:b<a
  ·simp [-bind_some, h,h2]
  ·simp [-bind_some, h,h2]
def dig (n:Int):Str:=[UInt8.ofNat (48+n.toNat)]
def a3a (e:Ev) (nm:Str):Str × Bool :=
 if nm=[64,104,111,115,116] then (dig e.a0,true) else if nm=[64,116,114,97,99,101] then (e.s7,true) else if nm=[64,115,116,114,101,97,109] then (e.s8,true) else ((a9V e.fs nm).getD [],(a9V e.fs nm).isSome)
def b5N (nm:Str):Prop:=nm≠[64,102,105,108,101]∧nm≠[64,116,105,109,101]∧nm≠[64,119,101,105,103,104,116]
def rwa:Rw:=⟨[],.nils,.nils _ _,by simp,[1],.sl 1 true [[.int .i64 1]],.inr ⟨true,rfl⟩,by simp,0⟩
abbrev FM:=Int × Int
def b7b:Nat→Cur→List FM × Cur
 | 0,s=>([],s)
 | n+1,s=>if s.2=true then ([],s) else (((b1v s).1,(b1v (b1v s).2).1)::(b7b n (b1v (b1v s).2).2).1,(b7b n (b1v (b1v s).2).2).2)
def dN (l:List Int):Nat:=(num ((l.drop 4).take 4)).toNat
def dS0 (l:List Int):Cur:=((l.take (8+dN l)).drop 8,false)
def dA (l:List Int):Int × Cur:=b1v (dS0 l)
def dM (l:List Int):List FM × Cur:=b7b (b7Q (dA l).2).1.toNat (b7Q (dA l).2).2
theorem b7I (e:Ev) (nm:Str) (h:Hp) (h0:0≤e.a0) (h9:e.a0≤9) (hn:b5N nm):R1 a5G [.agg (evr e),.str nm] h=some (.tup [.str (a3a e nm).1,.bool (a3a e nm).2],h):=by
 rw [b9T]
 have h1:=s75 nm e h
 unfold evr at h1 ⊢
 unfold b4b a3a dig
 simp only
 by_cases c1:nm=[64,104,111,115,116]
 ·rw [if_pos c1,if_pos c1,if_pos ⟨h0,h9⟩]
 ·rw [if_neg c1,if_neg c1,if_neg hn.1,if_neg hn.2.1,if_neg hn.2.2]
  by_cases c2:nm=[64,116,114,97,99,101]
  ·rw [if_pos c2,if_pos c2]
  ·rw [if_neg c2,if_neg c2]
   by_cases c3:nm=[64,115,116,114,101,97,109]
   ·rw [if_pos c3,if_pos c3]
   ·rw [if_neg c3,if_neg c3,h1]
    rfl
structure CmO {α:Type} (c:α→α→Int):Prop where
 asm:∀ x y,c x y<0→¬ c y x<0
 tr:∀ x y z,¬ c y x<0→¬ c z y<0→¬ c z x<0
theorem CmO.irr {α:Type} {c:α→α→Int} (o:CmO c) (x:α):¬ c x x<0:=fun h=>o.asm x x h h
theorem CmO.lt_le {α:Type} {c:α→α→Int} (o:CmO c) {x y z:α} (h:c x y<0) (k:¬ c z y<0):c x z<0:=Decidable.byContradiction fun hh=>o.tr y z x k hh h
theorem CmO.lt {α:Type} {c:α→α→Int} (o:CmO c) {x y z:α} (h:c x y<0) (k:c y z<0):c x z<0:=o.lt_le h (o.asm _ _ k)
theorem CmO.od {α:Type} {c:α→α→Int} (o:CmO c):SOrd c (fun x y=>¬ c y x<0) (fun _ _=>True) where
 tr:=o.tr
 lt:=fun x y _ h=>o.asm _ _ h
 ge:=fun x y _ h=>h
structure Seg {α:Type} (a b:Nat) (l l':List α):Prop where
 len:l'.length=l.length
 pm:l'.Perm l
 out:∀ j,(j<a∨b≤j)→l'[j]?=l[j]?
theorem Seg.refl {α:Type} (a b:Nat) (l:List α):Seg a b l l:=⟨rfl,.refl _,fun _ _=>rfl⟩
theorem Seg.trans {α:Type} {a b:Nat} {l m n:List α} (h:Seg a b l m) (k:Seg a b m n):Seg a b l n:=⟨k.len.trans h.len,k.pm.trans h.pm,fun j hj=>(k.out j hj).trans (h.out j hj)⟩
theorem Seg.mono {α:Type} {a b a' b':Nat} {l m:List α} (h:Seg a' b' l m) (ha:a≤a') (hb:b'≤b):Seg a b l m:=⟨h.len,h.pm,fun j hj=>h.out j (by omega)⟩
theorem a2U {α:Type} {l:List α} {i j:Nat} {x y:α} (hi:l[i]?=some x) (hj:l[j]?=some y) (k:Nat):((l.set i y).set j x)[k]?=if k=j then some x else if k=i then some y else l[k]?:=by
 have h1:=(c0m.1 hi).1
 have h2:=(c0m.1 hj).1
 by_cases e:k=j
 ·subst e;rw [if_pos rfl,List.getElem?_set_self (by simpa using h2)]
 ·rw [if_neg e,c0v (Ne.symm e)]
  by_cases e2:k=i
  ·subst e2;rw [if_pos rfl,List.getElem?_set_self h1]
  ·rw [if_neg e2,c0v (Ne.symm e2)]
theorem a1l {α:Type} {l:List α} {a b i j:Nat} {x y:α} (hi:l[i]?=some x) (hj:l[j]?=some y) (i1:a≤i) (i2:i<b) (j1:a≤j) (j2:j<b):Seg a b l ((l.set i y).set j x):=by
 obtain ⟨h1,rfl⟩:=c0m.1 hi
 obtain ⟨h2,rfl⟩:=c0m.1 hj
 refine ⟨by simp,List.set_set_perm h1 h2,fun k hk=>?_⟩
 rw [a2U hi hj,if_neg (by omega),if_neg (by omega)]
theorem a7C {α:Type} (l:List α) {a b:Nat} (hab:a≤b):l=l.take a++((l.take b).drop a++l.drop b):=by
 rw [← List.append_assoc]
 have:l.take a++(l.take b).drop a=l.take b:=by
  have h:=List.take_append_drop a (l.take b)
  rw [List.take_take,Nat.min_eq_left hab] at h
  exact h
 rw [this,List.take_append_drop]
theorem Seg.mid {α:Type} {a b:Nat} {l l':List α} (h:Seg a b l l') (hab:a≤b):((l'.take b).drop a).Perm ((l.take b).drop a):=by
 have h1:l'.take a=l.take a:=List.ext_getElem? fun i=>by
  rw [List.getElem?_take,List.getElem?_take]
  split
  ·exact h.out i (by omega)
  ·rfl
 have h2:l'.drop b=l.drop b:=List.ext_getElem? fun i=>by
  rw [List.getElem?_drop,List.getElem?_drop]
  exact h.out _ (by omega)
 have hp:=h.pm
 rw [a7C l hab,a7C l' hab,h1,h2] at hp
 exact (List.perm_append_right_iff _).1 ((List.perm_append_left_iff _).1 hp)
theorem b2y {α:Type} {l:List α} {a b j:Nat} {x:α} (h1:a≤j) (h2:j<b) (h:l[j]?=some x):x∈(l.take b).drop a:=by
 refine List.mem_iff_getElem?.2 ⟨j - a,?_⟩
 rw [List.getElem?_drop,List.getElem?_take,show a+(j - a)=j by omega,if_pos h2,h]
theorem a4U {α:Type} {l:List α} {a b:Nat} {x:α} (h:x∈(l.take b).drop a):∃ j,a≤j∧j<b∧l[j]?=some x:=by
 obtain ⟨i,hi⟩:=List.mem_iff_getElem?.1 h
 rw [List.getElem?_drop,List.getElem?_take] at hi
 split at hi
 ·exact ⟨a+i,by omega,by assumption,hi⟩
 ·cases hi
def AllIn {α:Type} (a b:Nat) (Q:α→Prop) (l:List α):Prop:=∀ j x,a≤j→j<b→l[j]?=some x→Q x
theorem AllIn.seg {α:Type} {a b:Nat} {Q:α→Prop} {l l':List α} (h:AllIn a b Q l) (s:Seg a b l l'):AllIn a b Q l':=fun j x h1 h2 hx=>by
 obtain ⟨k,k1,k2,k3⟩:=a4U ((s.mid (by omega)).mem_iff.1 (b2y h1 h2 hx))
 exact h k x k1 k2 k3
def Srt {α:Type} (c:α→α→Int) (a b:Nat) (l:List α):Prop:=∀ i j x y,a≤i→i<j→j<b→l[i]?=some x→l[j]?=some y→¬ c y x<0
def Low {α:Type} (c:α→α→Int) (a b:Nat) (l:List α):Prop:=∀ i j x y,i<a→a≤j→j<b→l[i]?=some x→l[j]?=some y→c x y<0
theorem Low.seg {α:Type} {c:α→α→Int} {a b:Nat} {l l':List α} (h:Low c a b l) (s:Seg a b l l'):Low c a b l':=fun i j x y h1 h2 h3 hx hy=>by
 rw [s.out i (by omega)] at hx
 exact (AllIn.seg (Q:=fun y=>c x y<0) (fun k z k1 k2 hz=>h i k x z h1 k1 k2 hx hz) s) j y h2 h3 hy
def Nd {α:Type} (c:α→α→Int) (l:List α):Prop:=l.Pairwise fun x y=>c x y<0∨c y x<0
theorem Nd.pm {α:Type} {c:α→α→Int} {l l':List α} (h:Nd c l) (p:l'.Perm l):Nd c l':=(p.pairwise_iff (R:=fun x y=>c x y<0∨c y x<0) fun {_ _} hh=>hh.symm).2 h
theorem Nd.at {α:Type} {c:α→α→Int} {l:List α} (h:Nd c l) {i j:Nat} {x y:α} (hij:i≠j) (hx:l[i]?=some x) (hy:l[j]?=some y):c x y<0∨c y x<0:=by
 obtain ⟨h1,rfl⟩:=c0m.1 hx
 obtain ⟨h2,rfl⟩:=c0m.1 hy
 rcases Nat.lt_or_gt_of_ne hij with hlt | hlt
 ·exact List.pairwise_iff_getElem.1 h i j h1 h2 hlt
 ·exact (List.pairwise_iff_getElem.1 h j i h2 h1 hlt).symm
theorem b1F {α:Type} {c:α→α→Int} {P A Q:List α} (h:A.Pairwise fun x y=>¬ c y x<0):Srt c P.length (P.length+A.length) (P++A++Q):=fun i j x y h1 h2 h3 hx hy=>by
 rw [List.append_assoc,List.getElem?_append_right h1,c0u (by omega)] at hx
 rw [List.append_assoc,List.getElem?_append_right (by omega),c0u (by omega)] at hy
 obtain ⟨k1,rfl⟩:=c0m.1 hx
 obtain ⟨k2,rfl⟩:=c0m.1 hy
 exact List.pairwise_iff_getElem.1 h _ _ k1 k2 (by omega)
theorem a9D {α:Type} {P A B Q:List α} (h:B.Perm A):Seg P.length (P.length+A.length) (P++A++Q) (P++B++Q):=by
 have hl:=h.length_eq
 refine ⟨by simp [-bind_some, hl],(h.append_left P).append_right Q,fun j hj=>?_⟩
 rcases hj with hj | hj
 ·rw [List.append_assoc,List.append_assoc,c0u hj,c0u hj]
 ·rw [List.getElem?_append_right (by simp;omega),List.getElem?_append_right (by simp;omega)]
  simp [-bind_some, hl]
def Out2 {α:Type} (c:α→α→Int) (a b a' b':Nat) (l:List α):Prop:=∀ i j x y,a≤i→i<j→j<b→¬ (a'≤i∧j<b')→l[i]?=some x→l[j]?=some y→¬ c y x<0
theorem Out2.seg {α:Type} {c:α→α→Int} {a b a' b':Nat} {l l':List α} (h:Out2 c a b a' b' l) (s:Seg a' b' l l') (h1:a≤a') (h2:b'≤b):Out2 c a b a' b' l':=fun i j x y k1 k2 k3 k4 hx hy=>by
 by_cases hi:a'≤i∧i<b'
 ·have hj:b'≤j:=by omega
  rw [s.out j (by omega)] at hy
  exact (AllIn.seg (Q:=fun x=>¬ c y x<0) (fun k z z1 z2 hz=>h k j z y (by omega) (by omega) k3 (by omega) hz hy) s) i x hi.1 hi.2 hx
 ·rw [s.out i (by omega)] at hx
  by_cases hj:a'≤j∧j<b'
  ·exact (AllIn.seg (Q:=fun y=>¬ c y x<0) (fun k z z1 z2 hz=>h i k x z k1 (by omega) (by omega) (by omega) hx hz) s) j y hj.1 hj.2 hy
  ·rw [s.out j (by omega)] at hy
   exact h i j x y k1 k2 k3 k4 hx hy
theorem Out2.all {α:Type} {c:α→α→Int} {a b a' b':Nat} {l:List α} (h:Out2 c a b a' b' l) (s:Srt c a' b' l):Srt c a b l:=fun i j x y k1 k2 k3 hx hy=>by
 by_cases hh:a'≤i∧j<b'
 ·exact s i j x y hh.1 k2 hh.2 hx hy
 ·exact h i j x y k1 k2 k3 hh hx hy
structure Part {α:Type} (c:α→α→Int) (a b m:Nat) (l:List α):Prop where
 lo:a≤m
 hi:m<b
 lt:∀ i x p,a≤i→i<m→l[i]?=some x→l[m]?=some p→c x p<0
 ge:∀ i x p,m<i→i<b→l[i]?=some x→l[m]?=some p→¬ c x p<0
theorem Out2.left {α:Type} {c:α→α→Int} (o:CmO c) {a b a' b' m:Nat} {l l':List α} (h:Out2 c a b a' b' l) (p:Part c a' b' m l) (hb:b'≤l.length) (s:Seg a' m l l') (hs:Srt c a' m l') (h1:a≤a') (h2:b'≤b):Out2 c a b (m+1) b' l':=fun i j x y k1 k2 k3 k4 hx hy=>by
 have hlo:=p.lo
 have hhi:=p.hi
 have h':=h.seg (s.mono (Nat.le_refl _) (by omega:m≤b')) h1 h2
 by_cases hin:a'≤i∧j<b'
 ·obtain ⟨q,hq⟩:∃ q,l[m]?=some q:=⟨_,c0l (by omega)⟩
  have hm:l'[m]?=some q:=by rw [s.out m (by omega)];exact hq
  have hl:AllIn a' m (fun z=>c z q<0) l':=AllIn.seg (fun k z z1 z2 hz=>p.lt k z q z1 z2 hz hq) s
  have hr:∀ k z,m<k→k<b'→l'[k]?=some z→¬ c z q<0:=fun k z z1 z2 hz=>by rw [s.out k (by omega)] at hz;exact p.ge k z q z1 z2 hz hq
  rcases Nat.lt_trichotomy j m with hj | hj | hj
  ·exact hs i j x y hin.1 k2 hj hx hy
  ·subst hj
   rw [hm] at hy
   injection hy with hy
   subst hy
   exact o.asm _ _ (hl i x hin.1 k2 hx)
  ·have hyq:=hr j y hj hin.2 hy
   rcases Nat.lt_trichotomy i m with hi | hi | hi
   ·exact o.tr _ _ _ (o.asm _ _ (hl i x hin.1 hi hx)) hyq
   ·subst hi
    rw [hm] at hx
    injection hx with hx
    subst hx
    exact hyq
   ·omega
 ·exact h' i j x y k1 k2 k3 hin hx hy
theorem Out2.right {α:Type} {c:α→α→Int} (o:CmO c) {a b a' b' m:Nat} {l l':List α} (h:Out2 c a b a' b' l) (p:Part c a' b' m l) (hb:b'≤l.length) (s:Seg (m+1) b' l l') (hs:Srt c (m+1) b' l') (h1:a≤a') (h2:b'≤b):Out2 c a b a' m l':=fun i j x y k1 k2 k3 k4 hx hy=>by
 have hlo:=p.lo
 have hhi:=p.hi
 have h':=h.seg (s.mono (by omega:a'≤m+1) (Nat.le_refl _)) h1 h2
 by_cases hin:a'≤i∧j<b'
 ·obtain ⟨q,hq⟩:∃ q,l[m]?=some q:=⟨_,c0l (by omega)⟩
  have hm:l'[m]?=some q:=by rw [s.out m (by omega)];exact hq
  have hr:AllIn (m+1) b' (fun z=>¬ c z q<0) l':=AllIn.seg (fun k z z1 z2 hz=>p.ge k z q (by omega) z2 hz hq) s
  have hl:∀ k z,a'≤k→k<m→l'[k]?=some z→c z q<0:=fun k z z1 z2 hz=>by rw [s.out k (by omega)] at hz;exact p.lt k z q z1 z2 hz hq
  rcases Nat.lt_trichotomy i m with hi | hi | hi
  ·have hxq:=hl i x hin.1 hi hx
   rcases Nat.lt_trichotomy j m with hj | hj | hj
   ·omega
   ·subst hj
    rw [hm] at hy
    injection hy with hy
    subst hy
    exact o.asm _ _ hxq
   ·exact o.tr _ _ _ (o.asm _ _ hxq) (hr j y (by omega) hin.2 hy)
  ·subst hi
   rw [hm] at hx
   injection hx with hx
   subst hx
   exact hr j y (by omega) hin.2 hy
  ·exact hs i j x y (by omega) k2 hin.2 hx hy
 ·exact h' i j x y k1 k2 k3 hin hx hy
theorem Low.lft {α:Type} {c:α→α→Int} {a b m:Nat} {l:List α} (h:Low c a b l) (p:Part c a b m l):Low c a m l:=fun i j x y h1 h2 h3 hx hy=>h i j x y h1 h2 (by have:=p.hi;omega) hx hy
theorem Low.rgt {α:Type} {c:α→α→Int} (o:CmO c) {a b m:Nat} {l:List α} (h:Low c a b l) (p:Part c a b m l) (nd:Nd c l) (hb:b≤l.length):Low c (m+1) b l:=fun i j x y h1 h2 h3 hx hy=>by
 have hlo:=p.lo
 have hhi:=p.hi
 obtain ⟨q,hq⟩:∃ q,l[m]?=some q:=⟨_,c0l (by omega)⟩
 have hqy:c q y<0:=by
  rcases nd.at (by omega:m≠j) hq hy with h4 | h4
  ·exact h4
  ·exact absurd h4 (p.ge j y q (by omega) h3 hy hq)
 by_cases hi:i<a
 ·exact h i j x y hi (by omega) h3 hx hy
 ·by_cases hm:i=m
  ·subst hm
   rw [hq] at hx
   injection hx with hx
   subst hx
   exact hqy
  ·exact o.lt (p.lt i x q (by omega) (by omega) hx hq) hqy
def a6g {α:Type} (c:α→α→Int) (f k hi:Nat) (l:List α):Prop:=∀ i ch x y,k≤i→(ch=2*i+1∨ch=2*i+2)→ch<hi→l[f+i]?=some x→l[f+ch]?=some y→¬ c x y<0
structure HeapE {α:Type} (c:α→α→Int) (f k hi r:Nat) (l:List α):Prop where
 ot:∀ i ch x y,k≤i→i≠r→(ch=2*i+1∨ch=2*i+2)→ch<hi→l[f+i]?=some x→l[f+ch]?=some y→¬ c x y<0
 up:∀ i ch x y,k≤i→(r=2*i+1∨r=2*i+2)→(ch=2*r+1∨ch=2*r+2)→ch<hi→l[f+i]?=some x→l[f+ch]?=some y→¬ c x y<0
theorem HeapE.mk0 {α:Type} {c:α→α→Int} {f k hi:Nat} {l:List α} (h:a6g c f (k+1) hi l):HeapE c f k hi k l :=
 ⟨fun i ch x y h1 h2 h3 h4 hx hy=>h i ch x y (by omega) h3 h4 hx hy,fun i ch x y h1 h2 h3 h4 hx hy=>by omega⟩
theorem HeapE.leaf {α:Type} {c:α→α→Int} {f k hi r:Nat} {l:List α} (h:HeapE c f k hi r l) (hr:hi≤2*r+1):a6g c f k hi l:=fun i ch x y h1 h2 h3 hx hy=>h.ot i ch x y h1 (fun e=>by subst e;omega) h2 h3 hx hy
def b5B {α:Type} (c:α→α→Int) (f hi r ch:Nat) (l:List α):Prop:=(ch=2*r+1∨ch=2*r+2)∧ch<hi∧∀ d y z,(d=2*r+1∨d=2*r+2)→d<hi→l[f+ch]?=some y→l[f+d]?=some z→¬ c y z<0
theorem HeapE.stop {α:Type} {c:α→α→Int} (o:CmO c) {f k hi r ch:Nat} {l:List α} (h:HeapE c f k hi r l) (b:b5B c f hi r ch l) {x y:α} (hx:l[f+r]?=some x) (hy:l[f+ch]?=some y) (hc:¬ c x y<0):a6g c f k hi l:=fun i d u v h1 h2 h3 hu hv=>by
 by_cases e:i=r
 ·subst e
  rw [hx] at hu
  injection hu with hu
  subst hu
  exact o.tr _ _ _ (b.2.2 d y v h2 h3 hy hv) hc
 ·exact h.ot i d u v h1 e h2 h3 hu hv
theorem HeapE.down {α:Type} {c:α→α→Int} (o:CmO c) {f k hi r ch:Nat} {l:List α} (h:HeapE c f k hi r l) (hk:k≤r) (b:b5B c f hi r ch l) {x y:α} (hx:l[f+r]?=some x) (hy:l[f+ch]?=some y) (hc:c x y<0):HeapE c f k hi ch ((l.set (f+r) y).set (f+ch) x):=by
 obtain ⟨b1,b2,b3⟩:=b
 have g:=a2U hx hy
 refine ⟨fun i d u v h1 h2 h3 h4 hu hv=>?_,fun i d u v h1 h2 h3 h4 hu hv=>?_⟩
 ·rw [g,if_neg (by omega)] at hu
  by_cases e:i=r
  ·subst e
   rw [if_pos rfl] at hu
   injection hu with hu
   subst hu
   rw [g] at hv
   by_cases e2:d=ch
   ·subst e2
    rw [if_pos rfl] at hv
    injection hv with hv
    subst hv
    exact o.asm _ _ hc
   ·rw [if_neg (by omega),if_neg (by omega)] at hv
    exact b3 d y v h3 h4 hy hv
  ·rw [if_neg (by omega)] at hu
   rw [g,if_neg (by omega)] at hv
   by_cases e2:d=r
   ·subst e2
    rw [if_pos rfl] at hv
    injection hv with hv
    subst hv
    exact h.up i ch u y h1 h3 b1 b2 hu hy
   ·rw [if_neg (by omega)] at hv
    exact h.ot i d u v h1 e h3 h4 hu hv
 ·have e:i=r:=by omega
  subst e
  rw [g,if_neg (by omega),if_pos rfl] at hu
  injection hu with hu
  subst hu
  rw [g,if_neg (by omega),if_neg (by omega)] at hv
  exact h.ot ch d y v (by omega) (by omega) h3 h4 hy hv
theorem b0C {α:Type} {c:α→α→Int} (o:CmO c) {f hi:Nat} {l:List α} (h:a6g c f 0 hi l) (hl:f+hi≤l.length) {x:α} (hx:l[f]?=some x):∀ j y,j<hi→l[f+j]?=some y→¬ c x y<0:=fun j=>by
 induction j using Nat.strongRecOn with
 | _ j ih =>
  intro y hj hy
  by_cases h0:j=0
  ·subst h0
   rw [Nat.add_zero,hx] at hy
   injection hy with hy
   subst hy
   exact o.irr _
  ·obtain ⟨q,hq⟩:∃ q,q=(j - 1) / 2:=⟨_,rfl⟩
   have hqj:j=2*q+1∨j=2*q+2:=by omega
   obtain ⟨z,hz⟩:∃ z,l[f+q]?=some z:=⟨_,c0l (by omega)⟩
   exact o.tr _ _ _ (h q j z y (by omega) hqj hj hz hy) (ih q (by omega) z (by omega) hz)
structure HS {α:Type} (c:α→α→Int) (f n i:Nat) (l:List α):Prop where
 hp:a6g c f 0 i l
 ab:∀ p q x y,p<i→i≤q→q<n→l[f+p]?=some x→l[f+q]?=some y→¬ c y x<0
 st:Srt c (f+i) (f+n) l
theorem HS.mk0 {α:Type} {c:α→α→Int} {f n:Nat} {l:List α} (h:a6g c f 0 n l):HS c f n n l:=⟨h,fun p q x y h1 h2 h3=>by omega,fun i j x y h1 h2 h3=>by omega⟩
theorem HS.step {α:Type} {c:α→α→Int} (o:CmO c) {f n i:Nat} {l l':List α} (h:HS c f n (i+1) l) (hi:i+1≤n) (hl:f+n≤l.length) {x y:α} (hx:l[f]?=some x) (hy:l[f+i]?=some y)
  (s:Seg f (f+i) ((l.set f y).set (f+i) x) l') (hh:a6g c f 1 i ((l.set f y).set (f+i) x)→a6g c f 0 i l'):HS c f n i l':=by
 have g:=a2U hx hy
 have mx:=b0C o h.hp (by omega) hx
 have hlow:AllIn f (f+i) (fun z=>¬ c x z<0) ((l.set f y).set (f+i) x):=fun k z z1 z2 hz=>by
  rw [g,if_neg (by omega)] at hz
  by_cases e:k=f
  ·rw [if_pos e] at hz
   injection hz with hz
   subst hz
   exact mx i y (by omega) hy
  ·rw [if_neg e] at hz
   have:k=f+(k - f):=by omega
   rw [this] at hz
   exact mx (k - f) z (by omega) hz
 have hlow':=hlow.seg s
 have hi':l'[f+i]?=some x:=by rw [s.out _ (by omega),g,if_pos rfl]
 have hup:∀ q v,i<q→q<n→l'[f+q]?=some v→l[f+q]?=some v:=fun q v h1 h2 hv=>by
  rw [s.out _ (by omega),g,if_neg (by omega),if_neg (by omega)] at hv
  exact hv
 -- of what lies in front: each was in front
 have hfr:∀ q v,i<q→q<n→l[f+q]?=some v→AllIn f (f+i) (fun z=>¬ c v z<0) l':=fun q v h1 h2 hv=>AllIn.seg (fun k z z1 z2 hz=>by
  rw [g,if_neg (by omega)] at hz
  by_cases e:k=f
  ·rw [if_pos e] at hz
   injection hz with hz
   subst hz
   exact h.ab i q y v (by omega) (by omega) h2 hy hv
  ·rw [if_neg e] at hz
   have:k=f+(k - f):=by omega
   rw [this] at hz
   exact h.ab (k - f) q z v (by omega) (by omega) h2 hz hv) s
 refine ⟨hh fun j ch u v h1 h2 h3 hu hv=>?_,fun p q u v h1 h2 h3 hu hv=>?_,fun p q u v h1 h2 h3 hu hv=>?_⟩
 ·rw [g,if_neg (by omega),if_neg (by omega)] at hu
  rw [g,if_neg (by omega),if_neg (by omega)] at hv
  exact h.hp j ch u v (by omega) h2 (by omega) hu hv
 ·by_cases e:q=i
  ·subst e
   rw [hi'] at hv
   injection hv with hv
   subst hv
   exact hlow' (f+p) u (by omega) (by omega) hu
  ·exact hfr q v (by omega) h3 (hup q v (by omega) h3 hv) (f+p) u (by omega) (by omega) hu
 ·have eq:q=f+(q - f):=by omega
  rw [eq] at hv
  have hv':=hup (q - f) v (by omega) (by omega) hv
  by_cases e:p=f+i
  ·subst e
   rw [hi'] at hu
   injection hu with hu
   subst hu
   exact h.ab 0 (q - f) x v (by omega) (by omega) (by omega) (by simpa using hx) hv'
  ·have ep:p=f+(p - f):=by omega
   rw [ep] at hu
   have hu':=hup (p - f) u (by omega) (by omega) hu
   exact h.st (f+(p - f)) (f+(q - f)) u v (by omega) (by omega) (by omega) hu' hv'
theorem HS.fin {α:Type} {c:α→α→Int} {f n:Nat} {l:List α} (h:HS c f n 0 l):Srt c f (f+n) l:=by
 have:=h.st
 simpa using this
structure SrtX {α:Type} (c:α→α→Int) (a b j:Nat) (l:List α):Prop where
 ot:∀ p q x y,a≤p→p<q→q<b→p≠j→q≠j→l[p]?=some x→l[q]?=some y→¬ c y x<0
 up:∀ q x y,j<q→q<b→l[j]?=some x→l[q]?=some y→¬ c y x<0
theorem SrtX.step {α:Type} {c:α→α→Int} (o:CmO c) {a b j:Nat} {l:List α} (h:SrtX c a b (j+1) l) (hj:a≤j) (hb:j+1<b) {x y:α} (hx:l[j+1]?=some x) (hy:l[j]?=some y) (hc:c x y<0):SrtX c a b j ((l.set (j+1) y).set j x):=by
 have g:=a2U hx hy
 refine ⟨fun p q u v h1 h2 h3 h4 h5 hu hv=>?_,fun q u v h1 h2 hu hv=>?_⟩
 ·rw [g,if_neg h4] at hu
  rw [g,if_neg h5] at hv
  by_cases e:p=j+1
  ·subst e
   rw [if_pos rfl] at hu
   injection hu with hu
   subst hu
   rw [if_neg (by omega)] at hv
   exact h.ot j q y v hj (by omega) h3 (by omega) (by omega) hy hv
  ·rw [if_neg e] at hu
   by_cases e2:q=j+1
   ·subst e2
    rw [if_pos rfl] at hv
    injection hv with hv
    subst hv
    exact h.ot p j u y h1 (by omega) (by omega) e (by omega) hu hy
   ·rw [if_neg e2] at hv
    exact h.ot p q u v h1 h2 h3 e e2 hu hv
 ·rw [g,if_pos rfl] at hu
  injection hu with hu
  subst hu
  rw [g,if_neg (by omega)] at hv
  by_cases e:q=j+1
  ·rw [if_pos e] at hv
   injection hv with hv
   subst hv
   exact o.asm _ _ hc
  ·rw [if_neg e] at hv
   exact h.up q x v (by omega) h2 hx hv
theorem SrtX.stop {α:Type} {c:α→α→Int} (o:CmO c) {a b j:Nat} {l:List α} (h:SrtX c a b j l) (hs:a<j→∀ x y,l[j]?=some x→l[j - 1]?=some y→¬ c x y<0):Srt c a b l:=fun p q u v h1 h2 h3 hu hv=>by
 by_cases e:p=j
 ·subst e;exact h.up q u v h2 h3 hu hv
 ·by_cases e2:q=j
  ·subst e2
   have hlen:=(c0m.1 hv).1
   obtain ⟨w,hw⟩:∃ w,l[q - 1]?=some w:=⟨_,c0l (by omega)⟩
   have h4:=hs (by omega) v w hv hw
   by_cases e3:p=q - 1
   ·subst e3
    rw [hw] at hu
    injection hu with hu
    subst hu
    exact h4
   ·exact o.tr _ _ _ (h.ot p (q - 1) u w h1 (by omega) (by omega) e (by omega) hu hw) h4
  ·exact h.ot p q u v h1 h2 h3 e e2 hu hv
theorem Srt.more {α:Type} {c:α→α→Int} (o:CmO c) {a i:Nat} {l:List α} (h:Srt c a i l) (hi:a<i) (hl:i≤l.length) (hs:∀ x y,l[i]?=some x→l[i - 1]?=some y→¬ c x y<0):Srt c a (i+1) l:=fun p q u v h1 h2 h3 hu hv=>by
 by_cases e:q=i
 ·subst e
  obtain ⟨w,hw⟩:∃ w,l[q - 1]?=some w:=⟨_,c0l (by omega)⟩
  have h4:=hs v w hv hw
  by_cases e3:p=q - 1
  ·subst e3
   rw [hw] at hu
   injection hu with hu
   subst hu
   exact h4
  ·exact o.tr _ _ _ (h p (q - 1) u w h1 (by omega) (by omega) hu hw) h4
 ·exact h p q u v h1 h2 (by omega) hu hv
theorem Srt.one {α:Type} {c:α→α→Int} {a:Nat} {l:List α}:Srt c a (a+1) l:=fun p q u v h1 h2 h3=>by omega
theorem Srt.swX {α:Type} {c:α→α→Int} {a i:Nat} {l:List α} (h:Srt c a (i+1) l) {x y:α} (hx:l[i+1]?=some x) (hy:l[i]?=some y):SrtX c a (i+1) i ((l.set (i+1) y).set i x):=by
 have g:=a2U hx hy
 refine ⟨fun p q u v h1 h2 h3 h4 h5 hu hv=>?_,fun q u v h1 h2=>by omega⟩
 rw [g,if_neg h4,if_neg (by omega)] at hu
 rw [g,if_neg h5,if_neg (by omega)] at hv
 exact h p q u v h1 h2 h3 hu hv
structure PI {α:Type} (c:α→α→Int) (a b i j:Nat) (p:α) (l:List α):Prop where
 pv:l[a]?=some p
 i1:a<i
 ij:i≤j+1
 jb:j<b
 lt:∀ k x,a<k→k<i→l[k]?=some x→c x p<0
 ge:∀ k x,j<k→k<b→l[k]?=some x→¬ c x p<0
theorem PI.up {α:Type} {c:α→α→Int} {a b i j:Nat} {p:α} {l:List α} (h:PI c a b i j p l) (hij:i≤j) {x:α} (hx:l[i]?=some x) (hc:c x p<0):PI c a b (i+1) j p l :=
 ⟨h.pv,by have:=h.i1;omega,by omega,h.jb,fun k y h1 h2 hy=>by
  by_cases e:k=i
  ·subst e;rw [hx] at hy;injection hy with hy;subst hy;exact hc
  ·exact h.lt k y h1 (by omega) hy,h.ge⟩
theorem PI.down {α:Type} {c:α→α→Int} {a b i j:Nat} {p:α} {l:List α} (h:PI c a b i (j+1) p l) (hij:i≤j+1) {x:α} (hx:l[j+1]?=some x) (hc:¬ c x p<0):PI c a b i j p l :=
 ⟨h.pv,h.i1,by omega,by have:=h.jb;omega,h.lt,fun k y h1 h2 hy=>by
  by_cases e:k=j+1
  ·subst e;rw [hx] at hy;injection hy with hy;subst hy;exact hc
  ·exact h.ge k y (by omega) h2 hy⟩
theorem PI.swap {α:Type} {c:α→α→Int} {a b i j:Nat} {p:α} {l:List α} (h:PI c a b i j p l) (hij:i<j) {x y:α} (hx:l[i]?=some x) (hy:l[j]?=some y) (h1:¬ c x p<0) (h2:c y p<0):PI c a b (i+1) (j - 1) p ((l.set i y).set j x):=by
 have g:=a2U hx hy
 have:=h.i1
 refine ⟨by rw [g,if_neg (by omega),if_neg (by omega)];exact h.pv,by omega,by omega,by have:=h.jb;omega,fun k z z1 z2 hz=>?_,fun k z z1 z2 hz=>?_⟩
 ·rw [g,if_neg (by omega)] at hz
  by_cases e:k=i
  ·rw [if_pos e] at hz;injection hz with hz;subst hz;exact h2
  ·rw [if_neg e] at hz;exact h.lt k z z1 (by omega) hz
 ·rw [g] at hz
  by_cases e:k=j
  ·rw [if_pos e] at hz;injection hz with hz;subst hz;exact h1
  ·rw [if_neg e,if_neg (by omega)] at hz;exact h.ge k z (by omega) z2 hz
theorem PI.part {α:Type} {c:α→α→Int} {a b j:Nat} {p q:α} {l:List α} (h:PI c a b (j+1) j p l) (hq:l[j]?=some q):Part c a b j ((l.set j p).set a q)∧Seg a b l ((l.set j p).set a q):=by
 have g:=a2U hq h.pv
 have:=h.i1
 have hjb:=h.jb
 refine ⟨⟨by omega,h.jb,fun k x y h1 h2 hx hy=>?_,fun k x y h1 h2 hx hy=>?_⟩,a1l hq h.pv (by omega) (by omega) (by omega) (by omega)⟩
 ·rw [g] at hx
  rw [g,if_neg (by omega),if_pos rfl] at hy
  injection hy with hy
  subst hy
  by_cases e:k=a
  ·subst e
   rw [if_pos rfl] at hx
   injection hx with hx
   subst hx
   exact h.lt j q (by omega) (by omega) hq
  ·rw [if_neg e,if_neg (by omega)] at hx
   exact h.lt k x (by omega) (by omega) hx
 ·rw [g,if_neg (by omega),if_neg (by omega)] at hx
  have hyp:y=p:=by
   rw [g] at hy
   by_cases e:j=a
   ·rw [if_pos e] at hy
    injection hy with hy
    subst e
    have h3:=h.pv
    rw [hq] at h3
    injection h3 with h3
    rw [← hy,h3]
   ·rw [if_neg e,if_pos rfl] at hy
    injection hy with hy
    exact hy.symm
  subst hyp
  exact h.ge k x h1 h2 hx
structure Pr where
 l:Int
 r:Int
def prr (p:Pr):List D:=[.int .i64 p.l,.int .i64 p.r]
theorem a5e (p:Pr):(D.agg (prr p)).okv=true:=id rfl
theorem b2B (n:Nat) (p:Pr):∀ d∈prr p,Ok n d:=fun d hd=>by
 simp only [prr,c0r,List.not_mem_nil,or_false] at hd
 rcases hd with rfl | rfl
 ·exact .int _ _
 ·exact .int _ _
theorem b1p {h:Hp} {q k T z:Nat} {rows:List (List D)} {p:Pr} (hq:h[q]?=some (.row T z rows)) (hk:rows[k]?=some (prr p)):a0f tab h a0d (.ptr q k 0)=some (.agg (prr p)):=by
 rw [a9d,a2b hq,hk]
 rfl
theorem b6Y (c:Pr→Pr→Int) (cmp:D) (hc:∀ x y g,a0W R cmp [.agg (prr x),.agg (prr y)] g=some (.int .i64 (c x y),g)) (ob N a:Nat) (hN:N≤1000000000) {β:Type} {K:Out→Option β} {Q:β→Prop}
  (l:List Pr) (hl:l.length=N) (j:Nat) (hj:j<N) (h:Hp) (ho:h[ob]?=some (.row a0d 2 (l.map prr))) (b:D)
  (k:∀ x y h',h'[ob]?=some (.row a0d 2 ((dn c a j l).map prr))→Same ob h h'→Wp (K (.ext 2,[x,y],h')) Q) :
  Wp ((a0v (a4t (.msl 2 ob 0 N) (.int .i64 a) cmp) [.int .i64 j,b] h).bind K) Q:=by
 generalize hV:dn c a j l=V at k
 refine Wp.loop (fun n ds g=>∃ b,∃ j:Nat,∃ l':List Pr,n=j∧ds=[.int .i64 j,b]∧l'.length=N∧j<N∧g[ob]?=some (.row a0d 2 (l'.map prr))∧Same ob h g∧dn c a j l'=V)
  (fun r=>r.1 = .ext 2∧(∃ x y,r.2.1=[x,y])∧r.2.2[ob]?=some (.row a0d 2 (V.map prr))∧Same ob h r.2.2) j ⟨b,j,l,rfl,rfl,hl,hj,ho,.refl _ _,hV⟩ ?_ ?_
 ·clear ho hl hj hV l j
  rintro n ds g ⟨b,j,l,rfl,rfl,hl,hj,ho,sm,hV⟩
  simp only [a4t,a0g,a0i,bs,b9Y,a1c]
  cases n with
  | zero =>
   have hq:¬ (a:Int)<((0:Nat):Int):=by omega
   have hV:l=V:=hV
   subst hV
   simp only [hq,decide_false,a0u,a0w,b9Z,if_false,reduceCtorEq,bs,a0l,a0b]
   exact .some (.inr ⟨by simp,rfl,⟨_,_,rfl⟩,ho,sm⟩)
  | succ j =>
   have g1:l[j+1]?=some l[j+1]:=c0l (by omega)
   have g0:l[j]?=some l[j]:=c0l (by omega)
   unfold dn at hV
   rw [g1,g0] at hV
   simp only at hV
   generalize l[j+1]=x at g1 hV
   generalize l[j]=y at g0 hV
   by_cases ha:a<j+1
   ·have ha':(a:Int)<((j+1:Nat):Int):=by omega
    have hw:IntKind.wrap .i64 (((j+1:Nat):Int) - 1)=(j:Int):=by
     rw [wrap_i64 (by omega) (by omega)];omega
    have i1:(0:Int)≤((j+1:Nat):Int)∧((j+1:Nat):Int)<(N:Int):=by omega
    have i0:(0:Int)≤(j:Int)∧(j:Int)<(N:Int):=by omega
    have m1:(l.map prr)[j+1]?=some (prr x):=by rw [c0j,g1];rfl
    have m0:(l.map prr)[j]?=some (prr y):=by rw [c0j,g0];rfl
    simp only [ha',decide_true,a0u,a0w,if_true,a8Z,i1,i0,and_self,Nat.zero_add,c0f,a0n,hw,bs,b1p ho m1,b1p ho m0,hc,a0r,a0l]
    by_cases hlt:c x y<0
    ·rw [if_pos ⟨ha,hlt⟩] at hV
     simp only [hlt,decide_true,a0b,if_true]
     refine a5o ho m1 (by rfl) (by simp [-bind_some, prr]) (a5e _) fun g2 p2 s2=>?_
     rw [show spl (prr x) 0 (a0z (.agg (prr y)))=prr y from id rfl,a1Y] at p2
     have m2:((l.set (j+1) y).map prr)[j]?=some (prr y):=by
      rw [c0j,c0v (by omega),g0];rfl
     try simp only [bs,i0,and_self,if_true,Nat.zero_add,c0f]
     refine a5o p2 m2 (by rfl) (by simp [-bind_some, prr]) (a5e _) fun g3 p3 s3=>?_
     rw [show spl (prr y) 0 (a0z (.agg (prr x)))=prr x from id rfl,a1Y] at p3
     try simp only [bs]
     exact .some (.inl ⟨rfl,j,by omega,_,j,_,rfl,rfl,by simpa using hl,by omega,p3,(sm.trans s2).trans s3,hV⟩)
    ·rw [if_neg (fun hh=>hlt hh.2)] at hV
     subst hV
     simp only [hlt,decide_false,a0b,b9Z,if_false]
     exact .some (.inr ⟨by simp,rfl,⟨_,_,rfl⟩,ho,sm⟩)
   ·rw [if_neg (fun hh=>ha hh.1)] at hV
    subst hV
    have ha':¬ (a:Int)<((j+1:Nat):Int):=by omega
    simp only [ha',decide_false,a0u,a0w,b9Z,if_false,reduceCtorEq,bs,a0l,a0b]
    exact .some (.inr ⟨by simp,rfl,⟨_,_,rfl⟩,ho,sm⟩)
 ·rintro ⟨x,ds,g⟩ ⟨rfl,⟨u,v,rfl⟩,h1,h2⟩
  exact k u v g h1 h2
theorem b7i (c:Pr→Pr→Int) (cmp:D) (hc:∀ x y g,a0W R cmp [.agg (prr x),.agg (prr y)] g=some (.int .i64 (c x y),g)) (ob N a b:Nat) (hN:N≤1000000000) (hab:a<b∨(a=b∧b≤N)) (hb:b≤N)
  (l:List Pr) (hl:l.length=N) (h:Hp) (ho:h[ob]?=some (.row a0d 2 (l.map prr))) :
  ∃ d h',R a3y [.msl 2 ob 0 N,.int .i64 a,.int .i64 b,cmp] h=some (d,h')∧h'[ob]?=some (.row a0d 2 ((isr c a (a+1) (b - (a+1)) l).map prr))∧Same ob h h':=by
 suffices Wp (R a3y [.msl 2 ob 0 N,.int .i64 a,.int .i64 b,cmp] h) (fun p=>p.2[ob]?=some (.row a0d 2 ((isr c a (a+1) (b - (a+1)) l).map prr))∧Same ob h p.2) by
  obtain ⟨⟨x,h'⟩,h1,h2⟩:=this
  exact ⟨x,h',h1,h2⟩
 rw [b4j]
 have hw:=wi_ a (by omega)
 simp only [b1O,bs,b9Y,a0k,hw]
 generalize hV:isr c a (a+1) (b - (a+1)) l=V
 refine Wp.loop (fun n ds g=>∃ u v w,∃ i:Nat,∃ l':List Pr,ds=[.int .i64 i,u,v,w]∧n=b - i∧l'.length=N∧g[ob]?=some (.row a0d 2 (l'.map prr))∧Same ob h g∧isr c a i (b - i) l'=V)
  (fun r=>r.1 = .ext 0∧r.2.2[ob]?=some (.row a0d 2 (V.map prr))∧Same ob h r.2.2) (b - (a+1)) ⟨_,_,_,a+1,l,rfl,rfl,hl,ho,.refl _ _,hV⟩ ?_ ?_
 ·rintro n ds g ⟨u,v,w,i,l',rfl,rfl,hl',ho',sm,hV⟩
  simp only [a4s,a0g,a0i,bs,b9Y,a0r]
  refine Wp.dif ?_ ?_
  ·intro h0
   have h0:i<b:=by
    have:(i:Int)<(b:Int):=by simpa using h0
    omega
   have hb1:b - i=(b - (i+1))+1:=by omega
   rw [hb1] at hV
   unfold isr at hV
   have hw2:=wi_ i (by omega)
   refine b6Y c cmp hc ob N a hN l' hl' i (by omega) g ho' _ fun x y g2 p2 s2=>?_
   simp only [a0o,a1b,a0p,bs,a0g,a0k,hw2]
   exact .some (.inl ⟨rfl,b - (i+1),by omega,_,_,_,i+1,_,rfl,rfl,by rw [a8s];exact hl',p2,sm.trans s2,hV⟩)
  ·intro h0
   have h0:¬ i<b:=by
    have:¬ (i:Int)<(b:Int):=by simpa using h0
    omega
   rw [show b - i=0 by omega] at hV
   have hV:l'=V:=hV
   subst hV
   exact .some (.inr ⟨by simp,rfl,ho',sm⟩)
 ·rintro ⟨x,ds,g⟩ ⟨rfl,h1,h2⟩
  simp only [a0o,a1j,bs]
  exact .some ⟨h1,h2⟩
theorem a0P {g:Hp} {o n:Nat} {rows:List Pr} {p:Pr} (ho:g[o]?=some (.row a0d 2 (rows.map prr))) (hp:rows[n]?=some p):a0f tab g a0d (.ptr o n 0)=some (.agg (prr p)):=by
 have hr:(rows.map prr)[n]?=some (prr p):=by rw [c0j,hp];rfl
 rw [a9d,a2b ho,hr]
 rfl
def CmpFP (cmp:D) (c:Pr→Pr→Int):Prop:=∀ x y g,a0W R cmp [.agg (prr x),.agg (prr y)] g=some (.int .i64 (c x y),g)
theorem b2n {c:Pr→Pr→Int} {S Pre:Pr→Pr→Prop} (od:SOrd c S Pre) {cmp:D} (hcmp:CmpFP cmp c) {o N:Nat} (hN:N≤1000000000) {g:Hp} {P A Q:List Pr} (hlen:(P++A++Q).length=N) (hA:A.Pairwise Pre)
  (ho:g[o]?=some (.row a0d 2 ((P++A++Q).map prr))) (a b:Int) (ha:a=P.length) (hb:b=(P.length+A.length:Nat)) :
  Wp (R a3y [.msl 2 o 0 N,.int .i64 a,.int .i64 b,cmp] g) fun p=>∃ C:List Pr,C.Perm A∧C.Pairwise S∧p.2[o]?=some (.row a0d 2 ((P++C++Q).map prr))∧Same o g p.2:=by
 subst ha hb
 have hl:=hlen
 simp only [c0c] at hl
 obtain ⟨d,h',e,p1,s1⟩:=b7i c cmp hcmp o N P.length (P.length+A.length) hN (by omega) (by omega) _ hlen g ho
 refine ⟨(d,h'),e,?_⟩
 cases A with
 | nil =>
  refine ⟨[],by simp,List.Pairwise.nil,?_,s1⟩
  rw [p1]
  simp [-bind_some, isr]
 | cons x A =>
  obtain ⟨C,q1,q2,q3⟩:=a8X od P Q A [x] (by simp) (fun u hu v hv=>by simp at hu;subst hu;exact (List.pairwise_cons.1 hA).1 v hv) (List.pairwise_cons.1 hA).2
  refine ⟨C,q2,q3,?_,s1⟩
  rw [p1]
  have e1:P.length+(x::A).length - (P.length+1)=A.length:=by simp;omega
  rw [e1]
  have e2:P++x::A++Q=P++[x]++A++Q:=by simp
  rw [e2]
  exact congrArg (fun z:List Pr=>some (Ob.row a0d 2 (z.map prr))) q1
theorem CmpFP.ap {cmp:D} {c:Pr→Pr→Int} (h:CmpFP cmp c) (x y:Pr) (g:Hp):a0W R cmp [.agg (prr x),.agg (prr y)] g=some (.int .i64 (c x y),g):=h x y g
theorem adP {N i:Nat} (h:i<N) (o:Nat):a0a tab a0m (.msl 2 o 0 N) (.int .i64 (i:Int))=some (.ptr o i 0):=by
 rw [a8Z,if_pos (by omega)];simp [-bind_some]
theorem swP {g:Hp} {o i j:Nat} {l:List Pr} {x y:Pr} (ho:g[o]?=some (.row a0d 2 (l.map prr))) (hi:l[i]?=some x) (hj:l[j]?=some y) {β:Type} {f:Hp→Option β} {Q:β→Prop}
  (k:∀ g',g'[o]?=some (.row a0d 2 (((l.set i y).set j x).map prr))→Same o g g'→Wp (f g') Q) :
  Wp ((a0q tab g a0d (.ptr o i 0) (.agg (prr y))).bind fun h'=>(a0q tab h' a0d (.ptr o j 0) (.agg (prr x))).bind f) Q:=by
 have mi:(l.map prr)[i]?=some (prr x):=by rw [c0j,hi];rfl
 have sp:∀ a b:Pr,spl (prr a) 0 (a0z (.agg (prr b)))=prr b:=fun a b=>id rfl
 refine a5o (off:=0) ho mi (by rfl) (by simp [-bind_some, prr]) (a5e _) fun g2 p2 s2=>?_
 rw [sp,← List.map_set] at p2
 obtain ⟨z,hz⟩:∃ z,(l.set i y)[j]?=some z:=⟨_,c0l (by have:=(c0m.1 hj).1;simpa using this)⟩
 have mj:((l.set i y).map prr)[j]?=some (prr z):=by rw [c0j,hz];rfl
 refine a5o (off:=0) p2 mj (by rfl) (by simp [-bind_some, prr]) (a5e _) fun g3 p3 s3=>?_
 rw [sp,← List.map_set] at p3
 exact k g3 p3 (s2.trans s3)
theorem b2U {c:Pr→Pr→Int} {cmp:D} (hcmp:CmpFP cmp c) {o N:Nat} {g:Hp} {l:List Pr} (hl:l.length=N) (ho:g[o]?=some (.row a0d 2 (l.map prr))) (a b:Nat) (ha:a<N) (hb:b<N) (q:Nat) (s:Int) (hq:g[q]?=some (.row ty3 1 [[.int .i64 s]])) :
  ∃ (x y:Nat) (s':Int) (g':Hp),R a4c [.msl 2 o 0 N,.int .i64 (a:Int),.int .i64 (b:Int),.ptr q 0 0,cmp] g=some (.tup [.int .i64 (x:Int),.int .i64 (y:Int)],g')∧((x=a∧y=b)∨(x=b∧y=a))∧g'[q]?=some (.row ty3 1 [[.int .i64 s']])∧Same q g g':=by
 suffices Wp (R a4c [.msl 2 o 0 N,.int .i64 (a:Int),.int .i64 (b:Int),.ptr q 0 0,cmp] g) (fun p=>∃ (x y:Nat) (s':Int),p.1 = .tup [.int .i64 (x:Int),.int .i64 (y:Int)]∧((x=a∧y=b)∨(x=b∧y=a))∧p.2[q]?=some (.row ty3 1 [[.int .i64 s']])∧Same q g p.2) by
  obtain ⟨⟨d,g'⟩,h1,x,y,s',rfl,h2⟩:=this
  exact ⟨x,y,s',g',h1,h2⟩
 obtain ⟨u,hu⟩:∃ u,l[a]?=some u:=⟨_,c0l (by omega)⟩
 obtain ⟨v,hv⟩:∃ v,l[b]?=some v:=⟨_,c0l (by omega)⟩
 have lq:a0f tab g ty3 (.ptr q 0 0)=some (.int .i64 s):=by rw [b5K,a2b hq];rfl
 rw [b6I]
 simp only [b3R,adP ha,adP hb,a0P ho hu,a0P ho hv,bs,hcmp.ap,a0r,b9Y]
 by_cases hc:c v u<0
 ·simp only [hc,decide_true,a0b,if_true,a2i,bs,lq,a0k,b9Y]
  refine b8c (kk:=0) (off:=0) hq (row:=[.int .i64 s]) (by rfl) (by rfl) (by simp) (by rfl) fun g2 p2 s2=>?_
  simp only [bs,a0H]
  exact .some ⟨b,a,_,rfl,.inr ⟨rfl,rfl⟩,p2,s2⟩
 ·simp only [hc,decide_false,a0b,b9Z,if_false,a0H]
  exact .some ⟨a,b,s,rfl,.inl ⟨rfl,rfl⟩,hq,.refl _ _⟩
theorem b5w {c:Pr→Pr→Int} {cmp:D} (hcmp:CmpFP cmp c) {o N:Nat} {g:Hp} {l:List Pr} (hl:l.length=N) (ho:g[o]?=some (.row a0d 2 (l.map prr))) (a b d:Nat) (ha:a<N) (hb:b<N) (hd:d<N) (q:Nat) (s:Int) (hq:g[q]?=some (.row ty3 1 [[.int .i64 s]])) (hqo:o≠q) :
  ∃ (m:Nat) (s':Int) (g':Hp),R a7l [.msl 2 o 0 N,.int .i64 (a:Int),.int .i64 (b:Int),.int .i64 (d:Int),.ptr q 0 0,cmp] g=some (.int .i64 (m:Int),g')∧(m=a∨m=b∨m=d)∧g'[q]?=some (.row ty3 1 [[.int .i64 s']])∧Same q g g':=by
 obtain ⟨x1,y1,s1,g1,e1,h1,q1,m1⟩:=b2U hcmp hl ho a b ha hb q s hq
 have ho1:g1[o]?=some (.row a0d 2 (l.map prr)):=by rw [m1.2 o hqo];exact ho
 obtain ⟨x2,y2,s2,g2,e2,h2,q2,m2⟩:=b2U hcmp hl ho1 y1 d (by omega) hd q s1 q1
 have ho2:g2[o]?=some (.row a0d 2 (l.map prr)):=by rw [m2.2 o hqo];exact ho1
 obtain ⟨x3,y3,s3,g3,e3,h3,q3,m3⟩:=b2U hcmp hl ho2 x1 x2 (by omega) (by omega) q s2 q2
 refine ⟨y3,s3,g3,?_,by omega,q3,(m1.trans m2).trans m3⟩
 rw [b6E]
 simp only [b3N,e1,e2,e3,bs,a0K,c0a,c0b,a0y]
theorem b2S {c:Pr→Pr→Int} {cmp:D} (hcmp:CmpFP cmp c) {o N:Nat} (hN:N≤1000000) {g:Hp} {l:List Pr} (hl:l.length=N) (ho:g[o]?=some (.row a0d 2 (l.map prr))) (a:Nat) (h0:1≤a) (ha:a+1<N) (q:Nat) (s:Int) (hq:g[q]?=some (.row ty3 1 [[.int .i64 s]])) (hqo:o≠q) :
  ∃ (m:Nat) (s':Int) (g':Hp),R a5K [.msl 2 o 0 N,.int .i64 (a:Int),.ptr q 0 0,cmp] g=some (.int .i64 (m:Int),g')∧(a≤m+1∧m≤a+1)∧g'[q]?=some (.row ty3 1 [[.int .i64 s']])∧Same q g g':=by
 obtain ⟨m,s',g',e,h1,h2⟩:=b5w hcmp hl ho (a - 1) a (a+1) (by omega) (by omega) ha q s hq hqo
 have w1:IntKind.wrap .i64 ((a:Int) - 1)=((a - 1:Nat):Int):=by rw [wrap_i64 (by omega) (by omega)];omega
 have w2:=wi_ a (by omega)
 refine ⟨m,s',g',?_,by omega,h2⟩
 rw [b6D]
 simp only [b3M,bs,a0n,a0k,w1,w2,e,a0y]
theorem b7w {c:Pr→Pr→Int} {cmp:D} (hcmp:CmpFP cmp c) {o N:Nat} (hN:N≤1000000) {g:Hp} {l:List Pr} (hl:l.length=N) (ho:g[o]?=some (.row a0d 2 (l.map prr))) (a b:Nat) (hab:a+8≤b) (hb:b≤N) :
  ∃ (p:Nat) (t:Int),R a7g [.msl 2 o 0 N,.int .i64 (a:Int),.int .i64 (b:Int),cmp] g=some (.tup [.int .i64 (p:Int),.int .i64 t],g)∧a≤p∧p<b:=by
 suffices Wp (R a7g [.msl 2 o 0 N,.int .i64 (a:Int),.int .i64 (b:Int),cmp] g) (fun r=>∃ (p:Nat) (t:Int),r=(.tup [.int .i64 (p:Int),.int .i64 t],g)∧a≤p∧p<b) by
  obtain ⟨r,h1,p,t,rfl,h2⟩:=this
  exact ⟨p,t,h1,h2⟩
 obtain ⟨n,hn⟩:∃ n,n=b - a:=⟨_,rfl⟩
 have w1:IntKind.wrap .i64 ((b:Int) - (a:Int))=((n:Nat):Int):=by rw [wrap_i64 (by omega) (by omega)];omega
 obtain ⟨k,hk⟩:∃ k,k=n / 4:=⟨_,rfl⟩
 have wq:IntKind.wrap .i64 (Int.tdiv (n:Int) 4)=((k:Nat):Int):=by
  rw [show Int.tdiv (n:Int) 4=((n / 4:Nat):Int) from by rw [Int.tdiv_eq_ediv_of_nonneg (by omega)];omega,wrap_i64 (by omega) (by omega)];omega
 have wa:∀ m:Nat,m≤3→IntKind.wrap .i64 ((a:Int)+IntKind.wrap .i64 ((k:Int)*(m:Int)))=((a+k*m:Nat):Int):=fun m hm=>by
  have h1:k*m≤n:=by
   have:=Nat.mul_le_mul_left k hm
   omega
  have h2:(k:Int)*(m:Int)=((k*m:Nat):Int):=by simp
  have h3:IntKind.wrap .i64 ((k*m:Nat):Int)=((k*m:Nat):Int):=wrap_i64 (by omega) (by omega)
  rw [h2,h3,wrap_i64 (by omega) (by omega)];omega
 have ho':o<g.length:=(c0m.1 ho).1
 have q0:(a1p g ty3 1 [[.int .i64 0]])[g.length]?=some (.row ty3 1 [[.int .i64 0]]):=a2K _ _ _ _
 have l0:(a1p g ty3 1 [[.int .i64 0]]).length=g.length+1:=a5c _ _ _ _
 have k0:∀ q,q<g.length→(a1p g ty3 1 [[.int .i64 0]])[q]?=g[q]?:=fun q hq=>a2L _ _ _ _ hq
 have ho0:(a1p g ty3 1 [[.int .i64 0]])[o]?=some (.row a0d 2 (l.map prr)):=by rw [k0 o ho'];exact ho
 have hsc:∀ (g2:Hp) (p:Nat) (t:Int),Same g.length (a1p g ty3 1 [[.int .i64 0]]) g2→scope g g2 (.tup [.int .i64 (p:Int),.int .i64 t])=some (.tup [.int .i64 (p:Int),.int .i64 t],g):=fun g2 p t sm=>a1G (by simp) (.tup _ fun d hd=>by
   simp only [c0r,List.not_mem_nil,or_false] at hd
   rcases hd with rfl | rfl
   ·exact .int _ _
   ·exact .int _ _) (by have:=sm.1;omega) fun q hq=>by rw [sm.2 q (by omega),k0 q hq]
 rw [b6q]
 have g8:decide ((n:Int)≥8)=true:=decide_eq_true (by omega)
 have a1:=wa 1 (by omega)
 have a2:=wa 2 (by omega)
 have a3:=wa 3 (by omega)
 simp only [Nat.mul_one] at a1
 simp only [b3z,bs,a0n,w1,a1B,show ¬ (4:Int)=0 by omega,if_false,wq,a1A,a0k,show (1:Int)=((1:Nat):Int) from rfl,show (2:Int)=((2:Nat):Int) from rfl,show (3:Int)=((3:Nat):Int) from rfl,a1,a2,a3,a0E,g8,a0b,if_true,b9Y]
 refine Wp.bind (P:=fun r=>r.1 = .nrm∧∃ (x y z:Nat) (s:Int),r.2.1=[.int .i64 (x:Int),.int .i64 (y:Int),.int .i64 (z:Int)]∧a≤x∧x<b∧a≤y∧y<b∧a≤z∧z<b∧r.2.2[g.length]?=some (.row ty3 1 [[.int .i64 s]])∧Same g.length (a1p g ty3 1 [[.int .i64 0]]) r.2.2) ?_ ?_
 ·by_cases h50:(n:Int)≥50
  ·simp only [h50,decide_true,a0b,if_true]
   obtain ⟨m1,s1,g1,e1,b1,q1,sm1⟩:=b2S hcmp hN hl ho0 (a+k) (by omega) (by omega) g.length 0 q0 (by omega)
   have ho1:g1[o]?=some (.row a0d 2 (l.map prr)):=by rw [sm1.2 o (by omega)];exact ho0
   obtain ⟨m2,s2,g2,e2,b2,q2,sm2⟩:=b2S hcmp hN hl ho1 (a+k*2) (by omega) (by omega) g.length s1 q1 (by omega)
   have ho2:g2[o]?=some (.row a0d 2 (l.map prr)):=by rw [sm2.2 o (by omega)];exact ho1
   obtain ⟨m3,s3,g3,e3,b3,q3,sm3⟩:=b2S hcmp hN hl ho2 (a+k*3) (by omega) (by omega) g.length s2 q2 (by omega)
   simp only [e1,e2,e3,bs]
   exact .some ⟨rfl,m1,m2,m3,s3,rfl,by omega,by omega,by omega,by omega,by omega,by omega,q3,(sm1.trans sm2).trans sm3⟩
  ·simp only [h50,decide_false,a0b,b9Z,if_false]
   exact .some ⟨rfl,a+k,a+k*2,a+k*3,0,rfl,by omega,by omega,by omega,by omega,by omega,by omega,q0,.refl _ _⟩
 ·rintro ⟨ex,ds,g4⟩ ⟨rfl,x,y,z,s,hds,x1,x2,y1,y2,z1,z2,q4,sm4⟩
  simp only at hds q4 sm4
  subst hds
  have ho4:g4[o]?=some (.row a0d 2 (l.map prr)):=by rw [sm4.2 o (by omega)];exact ho0
  obtain ⟨m,s5,g5,e5,b5,q5,sm5⟩:=b5w hcmp hl ho4 x y z (by omega) (by omega) (by omega) g.length s q4 (by omega)
  have lq:a0f tab g5 ty3 (.ptr g.length 0 0)=some (.int .i64 s5):=by rw [b5K,a2b q5];rfl
  have hs:=hsc g5 m
  have sm6:=sm4.trans sm5
  simp only [a0p,a0g,a0i,e5,bs,lq,a1z,b9Y]
  by_cases h0:s5=0
  ·simp only [h0,decide_true,a0b,if_true,a0H,hs _ sm6]
   exact .some ⟨m,_,rfl,by omega,by omega⟩
  ·by_cases h12:s5=12
   ·simp only [h0,h12,decide_true,decide_false,a0b,b9Z,if_false,if_true,bs,a0H,hs _ sm6,show ¬ (12:Int)=0 by omega]
    exact .some ⟨m,_,rfl,by omega,by omega⟩
   ·simp only [h0,h12,decide_false,a0b,b9Z,if_false,bs,a0H,hs _ sm6]
    exact .some ⟨m,_,rfl,by omega,by omega⟩
theorem b7x {o N:Nat} (hN:N≤1000000) {g:Hp} {l:List Pr} (hl:l.length=N) (ho:g[o]?=some (.row a0d 2 (l.map prr))) (a b:Nat) (hab:a<b) (hb:b≤N) (cmp:D) :
  Wp (R a8L [.msl 2 o 0 N,.int .i64 (a:Int),.int .i64 (b:Int),cmp] g) fun p=>∃ l',p.2[o]?=some (.row a0d 2 (l'.map prr))∧Seg a b l l'∧Same o g p.2:=by
 rw [b6r]
 have w1:IntKind.wrap .i64 ((b:Int) - 1)=((b - 1:Nat):Int):=by rw [wrap_i64 (by omega) (by omega)];omega
 simp only [b3A,bs,a0n,w1,b9Y]
 refine Wp.loop (fun n ds g'=>∃ x,∃ i j:Nat,∃ l',ds=[.int .i64 (i:Int),.int .i64 (j:Int),x]∧n=j+1∧a≤i∧j<b∧(i≤j+1)∧g'[o]?=some (.row a0d 2 (l'.map prr))∧Seg a b l l'∧Same o g g')
  (fun r=>r.1 = .ext 0∧∃ l',r.2.2[o]?=some (.row a0d 2 (l'.map prr))∧Seg a b l l'∧Same o g r.2.2) b ⟨_,a,b - 1,l,rfl,by omega,by omega,by omega,by omega,ho,.refl _ _ _,.refl _ _⟩ ?_ ?_
 ·rintro n ds g' ⟨x,i,j,l',rfl,hn,hi,hj,hij,ho',sg,sm⟩
  have hl':=sg.len
  simp only [a6F,a0g,a0i,bs,b9Y,a0r]
  refine Wp.dif ?_ ?_
  ·intro h0
   have h0:i<j:=by
    have:(i:Int)<(j:Int):=by simpa using h0
    omega
   obtain ⟨u,hu⟩:∃ u,l'[i]?=some u:=⟨_,c0l (by omega)⟩
   obtain ⟨v,hv⟩:∃ v,l'[j]?=some v:=⟨_,c0l (by omega)⟩
   have w2:=wi_ i (by omega)
   have w3:IntKind.wrap .i64 ((j:Int) - 1)=((j - 1:Nat):Int):=by rw [wrap_i64 (by omega) (by omega)];omega
   simp only [adP (show i<N by omega),adP (show j<N by omega),a0P ho' hu,a0P ho' hv,bs]
   refine swP ho' hu hv fun g2 p2 s2=>?_
   simp only [bs,a0k,a0n,w2,w3]
   exact .some (.inl ⟨rfl,j,by omega,_,i+1,j - 1,_,rfl,by omega,by omega,by omega,by omega,p2,sg.trans (a1l hu hv (by omega) (by omega) (by omega) (by omega)),sm.trans s2⟩)
  ·intro h0
   exact .some (.inr ⟨by simp,rfl,l',ho',sg,sm⟩)
 ·rintro ⟨ex,ds,g'⟩ ⟨rfl,l',h1,h2,h3⟩
  simp only [a0o,a1j,bs]
  exact .some ⟨l',h1,h2,h3⟩
theorem b5v {c:Pr→Pr→Int} (od:CmO c) {cmp:D} (hcmp:CmpFP cmp c) {o N:Nat} (hN:N≤1000000) {g:Hp} {l:List Pr} (hl:l.length=N) (ho:g[o]?=some (.row a0d 2 (l.map prr))) (lo hi f:Nat) (hlo:lo≤N) (hb:f+hi≤N) :
  Wp (R a7i [.msl 2 o 0 N,.int .i64 (lo:Int),.int .i64 (hi:Int),.int .i64 (f:Int),cmp] g) fun p=>∃ l',p.2[o]?=some (.row a0d 2 (l'.map prr))∧Seg f (f+hi) l l'∧(HeapE c f lo hi lo l→a6g c f lo hi l')∧Same o g p.2:=by
 rw [b6A]
 simp only [b3J,bs,b9Y]
 refine Wp.loop (fun n ds g'=>∃ x1 x2 x3 x4,∃ r:Nat,∃ l',ds=[.int .i64 (r:Int),x1,x2,x3,x4]∧n+r=hi+lo∧lo≤r∧g'[o]?=some (.row a0d 2 (l'.map prr))∧Seg f (f+hi) l l'∧(HeapE c f lo hi lo l→HeapE c f lo hi r l')∧Same o g g')
  (fun r=>(r.1 = .ext 0∨r.1 = .ret)∧∃ l',r.2.2[o]?=some (.row a0d 2 (l'.map prr))∧Seg f (f+hi) l l'∧(HeapE c f lo hi lo l→a6g c f lo hi l')∧Same o g r.2.2) hi ⟨_,_,_,_,lo,l,rfl,rfl,Nat.le_refl _,ho,.refl _ _ _,id,.refl _ _⟩ ?_ ?_
 ·rintro n ds g' ⟨x1,x2,x3,x4,r,l',rfl,hn,hr,ho',sg,hh,sm⟩
  have hl':=sg.len
  have w1:IntKind.wrap .i64 ((2:Int)*(r:Int))=((2*r:Nat):Int):=by rw [wrap_i64 (by omega) (by omega)];omega
  have w2:IntKind.wrap .i64 (((2*r:Nat):Int)+1)=((2*r+1:Nat):Int):=by rw [wrap_i64 (by omega) (by omega)];omega
  have w3:IntKind.wrap .i64 (((2*r+1:Nat):Int)+1)=((2*r+2:Nat):Int):=by rw [wrap_i64 (by omega) (by omega)];omega
  simp only [a6O,a0g,a0i,bs,b9Y,a1A,w1,a0k,w2,a0E]
  by_cases h0:hi≤2*r+1
  ·have d0:decide (((2*r+1:Nat):Int)≥(hi:Int))=true:=decide_eq_true (by omega)
   simp only [d0,a0b,if_true]
   exact .some (.inr ⟨by simp,.inl rfl,l',ho',sg,fun h=>(hh h).leaf h0,sm⟩)
  ·have d0:decide (((2*r+1:Nat):Int)≥(hi:Int))=false:=decide_eq_false (by omega)
   obtain ⟨u,hu⟩:∃ u,l'[f+(2*r+1)]?=some u:=⟨_,c0l (by omega)⟩
   obtain ⟨x,hx⟩:∃ x,l'[f+r]?=some x:=⟨_,c0l (by omega)⟩
   have wf1:IntKind.wrap .i64 ((f:Int)+((2*r+1:Nat):Int))=((f+(2*r+1):Nat):Int):=by rw [wrap_i64 (by omega) (by omega)];omega
   have wf2:IntKind.wrap .i64 (((f+(2*r+1):Nat):Int)+1)=((f+(2*r+2):Nat):Int):=by rw [wrap_i64 (by omega) (by omega)];omega
   have wf0:IntKind.wrap .i64 ((f:Int)+(r:Int))=((f+r:Nat):Int):=by rw [wrap_i64 (by omega) (by omega)];omega
   simp only [d0,a0b,b9Z,if_false,bs,w3,a0r,b9Y]
   obtain ⟨ch,hbc,hcase⟩:∃ ch,b5B c f hi r ch l'∧((¬ 2*r+2<hi∧2*r+1=ch)∨(2*r+2<hi∧∃ v,l'[f+(2*r+2)]?=some v∧((c u v<0∧2*r+2=ch)∨(¬ c u v<0∧2*r+1=ch)))):=by
    by_cases h2:2*r+2<hi
    ·obtain ⟨v,hv⟩:∃ v,l'[f+(2*r+2)]?=some v:=⟨_,c0l (by omega)⟩
     by_cases hc:c u v<0
     ·exact ⟨2*r+2,⟨.inr rfl,h2,fun d y z h3 h4 hy hz=>by
        rw [hv] at hy;injection hy with hy;subst hy
        rcases h3 with rfl | rfl
        ·rw [hu] at hz;injection hz with hz;subst hz;exact od.asm _ _ hc
        ·rw [hv] at hz;injection hz with hz;subst hz;exact od.irr _⟩,.inr ⟨h2,v,hv,.inl ⟨hc,rfl⟩⟩⟩
     ·exact ⟨2*r+1,⟨.inl rfl,by omega,fun d y z h3 h4 hy hz=>by
        rw [hu] at hy;injection hy with hy;subst hy
        rcases h3 with rfl | rfl
        ·rw [hu] at hz;injection hz with hz;subst hz;exact od.irr _
        ·rw [hv] at hz;injection hz with hz;subst hz;exact hc⟩,.inr ⟨h2,v,hv,.inr ⟨hc,rfl⟩⟩⟩
    ·exact ⟨2*r+1,⟨.inl rfl,by omega,fun d y z h3 h4 hy hz=>by
         rw [hu] at hy;injection hy with hy;subst hy
         rcases h3 with rfl | rfl
         ·rw [hu] at hz;injection hz with hz;subst hz;exact od.irr _
         ·omega⟩,.inl ⟨h2,rfl⟩⟩
   obtain ⟨y,hy⟩:∃ y,l'[f+ch]?=some y:=⟨_,c0l (by have:=hbc.2.1;omega)⟩
   have b1:=hbc.1
   have b2:=hbc.2.1
   have wfc:IntKind.wrap .i64 ((f:Int)+(ch:Int))=((f+ch:Nat):Int):=by rw [wrap_i64 (by omega) (by omega)];omega
   rcases hcase with ⟨h2,e⟩ | ⟨h2,v,hv,⟨hc2,e⟩ | ⟨hc2,e⟩⟩
   all_goals
    have d1:decide (((2*r+2:Nat):Int)<(hi:Int))=decide (2*r+2<hi):=decide_eq_decide.2 (by omega)
    simp only [d1,h2,decide_false,decide_true,a0u,a0w,a1n,reduceCtorEq,b9Z,if_false,if_true,bs,a0k,wf1,wf2,adP (show f+(2*r+1)<N by omega),a0P ho' hu,a0l,a0b]
    try simp only [adP (show f+(2*r+2)<N by omega),a0P ho' hv,hcmp.ap,a0r,bs,a0l,hc2,decide_true,decide_false,a0b,b9Z,if_false,if_true]
    rw [e]
    simp only [bs,a0p,a0g,a0k,wf0,wfc,adP (show f+r<N by omega),adP (show f+ch<N by omega),a0P ho' hx,a0P ho' hy,hcmp.ap,a0r,a0Y,b9Y]
    by_cases hc:c x y<0
    ·simp only [hc,decide_true,c0g,a0b,b9Z,if_false]
     refine swP ho' hx hy fun g2 p2 s2=>?_
     exact .some (.inl ⟨rfl,n - (ch - r),by omega,_,_,_,_,ch,_,rfl,by omega,by omega,p2,sg.trans (a1l hx hy (by omega) (by omega) (by omega) (by omega)),fun h=>(hh h).down od hr hbc hx hy hc,sm.trans s2⟩)
    ·simp only [hc,decide_false,c0h,a0b,if_true]
     exact .some (.inr ⟨by simp,.inr rfl,l',ho',sg,fun h=>(hh h).stop od hbc hx hy hc,sm⟩)
 ·rintro ⟨ex,ds,g'⟩ ⟨rfl | rfl,l',h1,h2,h3,h4⟩
  ·simp only [a0o,a1j,bs]
   exact .some ⟨l',h1,h2,h3,h4⟩
  ·simp only [a0Q,a1r,bs]
   exact .some ⟨l',h1,h2,h3,h4⟩
theorem b7u {c:Pr→Pr→Int} (od:CmO c) {cmp:D} (hcmp:CmpFP cmp c) {o N:Nat} (hN:N≤1000000) {g:Hp} {l:List Pr} (hl:l.length=N) (ho:g[o]?=some (.row a0d 2 (l.map prr))) (a b:Nat) (hab:a<b) (hb:b≤N) :
  Wp (R a8J [.msl 2 o 0 N,.int .i64 (a:Int),.int .i64 (b:Int),cmp] g) fun p=>∃ l',p.2[o]?=some (.row a0d 2 (l'.map prr))∧Seg a b l l'∧Srt c a b l'∧Same o g p.2:=by
 obtain ⟨n,hn⟩:∃ n,b=a+n:=⟨b - a,by omega⟩
 subst hn
 rw [b6o]
 have w1:IntKind.wrap .i64 (((a+n:Nat):Int) - (a:Int))=((n:Nat):Int):=by rw [wrap_i64 (by omega) (by omega)];omega
 have w2:IntKind.wrap .i64 ((n:Int) - 1)=((n - 1:Nat):Int):=by rw [wrap_i64 (by omega) (by omega)];omega
 have w3:IntKind.wrap .i64 (Int.tdiv ((n - 1:Nat):Int) 2)=(((n - 1) / 2+1:Nat):Int) - 1:=by
  rw [show Int.tdiv ((n - 1:Nat):Int) 2=(((n - 1) / 2:Nat):Int) from by rw [Int.tdiv_eq_ediv_of_nonneg (by omega)];omega,wrap_i64 (by omega) (by omega)];omega
 have dec:∀ i:Nat,i≤N→IntKind.wrap .i64 (((i+1:Nat):Int) - 1 - 1)=((i:Nat):Int) - 1:=fun i hi=>by rw [wrap_i64 (by omega) (by omega)];omega
 simp only [b3x,bs,a0n,w1,w2,a1B,show ¬ (2:Int)=0 by omega,if_false,w3,b9Y]
 refine Wp.loop (fun k ds g'=>∃ x,∃ l',ds=[.int .i64 ((k:Int) - 1),x]∧k≤n∧g'[o]?=some (.row a0d 2 (l'.map prr))∧Seg a (a+n) l l'∧a6g c a k n l'∧Same o g g')
  (fun r=>r.1 = .ext 0∧∃ l',r.2.2[o]?=some (.row a0d 2 (l'.map prr))∧Seg a (a+n) l l'∧a6g c a 0 n l'∧Same o g r.2.2) ((n - 1) / 2+1) ⟨_,l,rfl,by omega,ho,.refl _ _ _,fun i ch x y h1 h2 h3=>by omega,.refl _ _⟩ ?_ ?_
 ·rintro k ds g' ⟨x,l',rfl,hk,ho',sg,hh,sm⟩
  simp only [a6C,a0g,a0i,bs,b9Y,a0E]
  cases k with
  | zero =>
   have d0:decide ((((0:Nat):Int) - 1)≥0)=false:=rfl
   simp only [d0,a0b,b9Z,if_false]
   exact .some (.inr ⟨by simp,rfl,l',ho',sg,hh,sm⟩)
  | succ k =>
   have d0:decide ((((k+1:Nat):Int) - 1)≥0)=true:=decide_eq_true (by omega)
   have e0:(((k+1:Nat):Int) - 1)=(k:Int):=by omega
   simp only [d0,a0b,if_true,a0n,dec k (by omega)]
   rw [e0]
   refine Wp.bind (b5v od hcmp hN (sg.len.trans hl) ho' k n a (by omega) (by omega)) ?_
   rintro ⟨d,g2⟩ ⟨l2,p2,s2,hh2,m2⟩
   exact .some (.inl ⟨rfl,k,by omega,_,l2,rfl,by omega,p2,sg.trans s2,hh2 (.mk0 hh),sm.trans m2⟩)
 ·rintro ⟨ex,ds,g1⟩ ⟨rfl,l1,ho1,sg1,hh1,sm1⟩
  simp only at ho1 sm1
  have w4:((n - 1:Nat):Int)=(n:Int) - 1:=by omega
  simp only [a0o,a0p,bs,b9Y]
  rw [w4]
  refine Wp.loop (fun k ds g'=>∃ x,∃ l',ds=[.int .i64 ((k:Int) - 1),x]∧k≤n∧g'[o]?=some (.row a0d 2 (l'.map prr))∧Seg a (a+n) l l'∧HS c a n k l'∧Same o g g')
   (fun r=>r.1 = .ext 2∧∃ l',r.2.2[o]?=some (.row a0d 2 (l'.map prr))∧Seg a (a+n) l l'∧HS c a n 0 l'∧Same o g r.2.2) n ⟨_,l1,rfl,by omega,ho1,sg1,.mk0 hh1,sm1⟩ ?_ ?_
  ·rintro k ds g' ⟨x,l',rfl,hk,ho',sg,hh,sm⟩
   have hl':=sg.len.trans hl
   simp only [a6D,a0g,a0i,bs,b9Y,a0E]
   cases k with
   | zero =>
    have d0:decide ((((0:Nat):Int) - 1)≥0)=false:=rfl
    simp only [d0,a0b,b9Z,if_false]
    exact .some (.inr ⟨by simp,rfl,l',ho',sg,hh,sm⟩)
   | succ k =>
    have d0:decide ((((k+1:Nat):Int) - 1)≥0)=true:=decide_eq_true (by omega)
    have e0:(((k+1:Nat):Int) - 1)=(k:Int):=by omega
    have w5:IntKind.wrap .i64 ((a:Int)+(k:Int))=((a+k:Nat):Int):=by rw [wrap_i64 (by omega) (by omega)];omega
    obtain ⟨u,hu⟩:∃ u,l'[a]?=some u:=⟨_,c0l (by omega)⟩
    obtain ⟨v,hv⟩:∃ v,l'[a+k]?=some v:=⟨_,c0l (by omega)⟩
    simp only [d0,a0b,if_true,a0n,dec k (by omega)]
    rw [e0]
    simp only [a0k,w5,bs,adP (show a<N by omega),adP (show a+k<N by omega),a0P ho' hu,a0P ho' hv]
    refine swP ho' hu hv fun g2 p2 s2=>?_
    have hl2:((l'.set a v).set (a+k) u).length=N:=by simpa using hl'
    refine Wp.bind (b5v od hcmp hN hl2 p2 0 k a (by omega) (by omega)) ?_
    rintro ⟨d,g3⟩ ⟨l3,p3,s3,hh3,m3⟩
    exact .some (.inl ⟨rfl,k,by omega,_,l3,rfl,by omega,p3,sg.trans ((a1l hu hv (by omega) (by omega) (by omega) (by omega)).trans (s3.mono (Nat.le_refl _) (by omega))),hh.step od (by omega) (by omega) hu hv s3 (fun h=>hh3 (.mk0 h)),(sm.trans s2).trans m3⟩)
  ·rintro ⟨ex,ds,g2⟩ ⟨rfl,l2,ho2,sg2,hh2,sm2⟩
   simp only [a0o,a1j,bs]
   exact .some ⟨l2,ho2,sg2,hh2.fin,sm2⟩
theorem Srt.keep {α:Type} {c:α→α→Int} {a i b:Nat} {l l':List α} (h:Srt c a i l) (s:Seg i b l l'):Srt c a i l':=fun p q x y h1 h2 h3 hx hy=>by
 rw [s.out p (by omega)] at hx
 rw [s.out q (by omega)] at hy
 exact h p q x y h1 h2 h3 hx hy
theorem b5g {c:Pr→Pr→Int} (od:CmO c) {cmp:D} (hcmp:CmpFP cmp c) {o N:Nat} (hN:N≤1000000) {g:Hp} {l:List Pr} (hl:l.length=N) (ho:g[o]?=some (.row a0d 2 (l.map prr))) (a b i:Nat) (hb:b≤N) (hi:a<i) (hib:i≤b) (st:Srt c a i l) (x0:D) {β:Type} {K:Out→Option β} {Q:β→Prop}
  (k:∀ (i':Nat) y,i≤i'→i'≤b→Srt c a i' l→(i'<b→∃ u v,l[i']?=some u∧l[i' - 1]?=some v∧c u v<0)→Wp (K (.ext 2,[.int .i64 (i':Int),y],g)) Q) :
  Wp ((a0v (a4u (.msl 2 o 0 N) (.int .i64 (b:Int)) cmp) [.int .i64 (i:Int),x0] g).bind K) Q:=by
 refine Wp.loop (fun n ds g'=>g'=g∧∃ x,∃ j:Nat,ds=[.int .i64 (j:Int),x]∧n+j=b∧i≤j∧Srt c a j l)
  (fun r=>r.1 = .ext 2∧r.2.2=g∧∃ x,∃ j:Nat,r.2.1=[.int .i64 (j:Int),x]∧i≤j∧j≤b∧Srt c a j l∧(j<b→∃ u v,l[j]?=some u∧l[j - 1]?=some v∧c u v<0)) (b - i) ⟨rfl,_,i,rfl,by omega,Nat.le_refl _,st⟩ ?_ ?_
 ·rintro n ds g' ⟨rfl,x,j,rfl,hn,hj,st⟩
  simp only [a4u,a0g,a0i,bs,b9Y,a0r]
  by_cases h0:j<b
  ·have d0:decide ((j:Int)<(b:Int))=true:=decide_eq_true (by omega)
   obtain ⟨u,hu⟩:∃ u,l[j]?=some u:=⟨_,c0l (by omega)⟩
   obtain ⟨v,hv⟩:∃ v,l[j - 1]?=some v:=⟨_,c0l (by omega)⟩
   have w1:IntKind.wrap .i64 ((j:Int) - 1)=((j - 1:Nat):Int):=by rw [wrap_i64 (by omega) (by omega)];omega
   have w2:=wi_ j (by omega)
   simp only [d0,a0u,a0w,if_true,bs,a0n,w1,adP (show j<N by omega),adP (show j - 1<N by omega),a0P ho hu,a0P ho hv,hcmp.ap,a0r,a0Y,a0l]
   by_cases hc:c u v<0
   ·simp only [hc,decide_true,c0g,a0b,b9Z,if_false]
    exact .some (.inr ⟨by simp,rfl,rfl,_,j,rfl,hj,by omega,st,fun _=>⟨u,v,hu,hv,hc⟩⟩)
   ·simp only [hc,decide_false,c0h,a0b,if_true,a0k,w2,bs]
    exact .some (.inl ⟨rfl,n - 1,by omega,rfl,_,j+1,rfl,by omega,by omega,st.more od (by omega) (by omega) fun x y hx hy=>by
     rw [hu] at hx;injection hx with hx;subst hx
     rw [hv] at hy;injection hy with hy;subst hy
     exact hc⟩)
  ·have d0:decide ((j:Int)<(b:Int))=false:=decide_eq_false (by omega)
   simp only [d0,a0u,a0w,a1n,reduceCtorEq,b9Z,if_false,bs,a0l,a0b]
   exact .some (.inr ⟨by simp,rfl,rfl,_,j,rfl,hj,by omega,st,fun h=>absurd h h0⟩)
 ·rintro ⟨ex,ds,g'⟩ ⟨rfl,rfl,y,j,hds,h1,h2,h3,h4⟩
  simp only at hds
  subst hds
  exact k j y h1 h2 h3 h4
theorem b5h {c:Pr→Pr→Int} (od:CmO c) {cmp:D} (hcmp:CmpFP cmp c) {o N:Nat} (hN:N≤1000000) {g:Hp} {l:List Pr} (hl:l.length=N) (ho:g[o]?=some (.row a0d 2 (l.map prr))) (a i j:Nat) (hi:i≤N) (haj:a≤j) (hji:j<i) (st:SrtX c a i j l) (lw:Low c a i l) (x0 x1:D) {β:Type} {K:Out→Option β} {Q:β→Prop}
  (k:∀ u v w g' l',g'[o]?=some (.row a0d 2 (l'.map prr))→Seg a i l l'→Srt c a i l'→Same o g g'→Wp (K (.ext 4,[u,v,w],g')) Q) :
  Wp ((a0v (a4v (.msl 2 o 0 N) cmp) [.int .i64 (j:Int),x0,x1] g).bind K) Q:=by
 refine Wp.loop (fun n ds g'=>∃ u v,∃ l',ds=[.int .i64 (n:Int),u,v]∧a≤n∧n<i∧g'[o]?=some (.row a0d 2 (l'.map prr))∧Seg a i l l'∧SrtX c a i n l'∧Same o g g')
  (fun r=>r.1 = .ext 4∧(∃ u v w,r.2.1=[u,v,w])∧∃ l',r.2.2[o]?=some (.row a0d 2 (l'.map prr))∧Seg a i l l'∧Srt c a i l'∧Same o g r.2.2) j ⟨_,_,l,rfl,haj,hji,ho,.refl _ _ _,st,.refl _ _⟩ ?_ ?_
 ·rintro n ds g' ⟨u0,v0,l',rfl,hn,hni,ho',sg,sx,sm⟩
  have hl':=sg.len.trans hl
  simp only [a4v,a0g,a0i,bs,b9Y,a0E]
  cases n with
  | zero =>
   have d0:decide (((0:Nat):Int)≥1)=false:=rfl
   simp only [d0,a0b,b9Z,if_false]
   exact .some (.inr ⟨by simp,rfl,⟨_,_,_,rfl⟩,l',ho',sg,sx.stop od (fun h=>by omega),sm⟩)
  | succ m =>
   have d0:decide (((m+1:Nat):Int)≥1)=true:=decide_eq_true (by omega)
   have w1:IntKind.wrap .i64 (((m+1:Nat):Int) - 1)=(m:Int):=by rw [wrap_i64 (by omega) (by omega)];omega
   obtain ⟨u,hu⟩:∃ u,l'[m+1]?=some u:=⟨_,c0l (by omega)⟩
   obtain ⟨v,hv⟩:∃ v,l'[m]?=some v:=⟨_,c0l (by omega)⟩
   simp only [d0,a0b,if_true,a0n,w1,bs,adP (show m+1<N by omega),adP (show m<N by omega),a0P ho' hu,a0P ho' hv,hcmp.ap,a0r,a0Y]
   by_cases hc:c u v<0
   ·have ham:a≤m:=by
      rcases Nat.lt_or_ge m a with h1 | h1
      ·exact absurd hc (od.asm _ _ (lw.seg sg m (m+1) v u h1 hn hni hv hu))
      ·exact h1
    simp only [hc,decide_true,c0g,a0b,b9Z,if_false]
    refine swP ho' hu hv fun g2 p2 s2=>?_
    try simp only [bs]
    exact .some (.inl ⟨rfl,m,by omega,_,_,_,rfl,ham,by omega,p2,sg.trans (a1l hu hv (by omega) (by omega) (by omega) (by omega)),sx.step od ham hni hu hv hc,sm.trans s2⟩)
   ·simp only [hc,decide_false,c0h,a0b,if_true]
    exact .some (.inr ⟨by simp,rfl,⟨_,_,_,rfl⟩,l',ho',sg,sx.stop od (fun h x y hx hy=>by
     rw [hu] at hx;injection hx with hx;subst hx
     rw [show m+1 - 1=m from rfl,hv] at hy;injection hy with hy;subst hy
     exact hc),sm⟩)
 ·rintro ⟨ex,ds,g'⟩ ⟨rfl,⟨u,v,w,hds⟩,l',h1,h2,h3,h4⟩
  simp only at hds
  subst hds
  exact k u v w g' l' h1 h2 h3 h4
theorem b5i {c:Pr→Pr→Int} {cmp:D} (hcmp:CmpFP cmp c) {o N:Nat} (hN:N≤1000000) {g:Hp} {l:List Pr} (hl:l.length=N) (ho:g[o]?=some (.row a0d 2 (l.map prr))) (i j b:Nat) (hb:b≤N) (hij:i<j) (hjb:j≤b) (x0 x1:D) {β:Type} {K:Out→Option β} {Q:β→Prop}
  (k:∀ u v w g' l',g'[o]?=some (.row a0d 2 (l'.map prr))→Seg i b l l'→Same o g g'→Wp (K (.ext 6,[u,v,w],g')) Q) :
  Wp ((a0v (a4w (.msl 2 o 0 N) (.int .i64 (b:Int)) cmp) [.int .i64 (j:Int),x0,x1] g).bind K) Q:=by
 refine Wp.loop (fun n ds g'=>∃ u v,∃ m:Nat,∃ l',ds=[.int .i64 (m:Int),u,v]∧n+m=b∧i<m∧g'[o]?=some (.row a0d 2 (l'.map prr))∧Seg i b l l'∧Same o g g')
  (fun r=>r.1 = .ext 6∧(∃ u v w,r.2.1=[u,v,w])∧∃ l',r.2.2[o]?=some (.row a0d 2 (l'.map prr))∧Seg i b l l'∧Same o g r.2.2) (b - j) ⟨_,_,j,l,rfl,by omega,hij,ho,.refl _ _ _,.refl _ _⟩ ?_ ?_
 ·rintro n ds g' ⟨u0,v0,m,l',rfl,hn,him,ho',sg,sm⟩
  have hl':=sg.len.trans hl
  simp only [a4w,a0g,a0i,bs,b9Y,a0r]
  by_cases h0:m<b
  ·have d0:decide ((m:Int)<(b:Int))=true:=decide_eq_true (by omega)
   have w1:IntKind.wrap .i64 ((m:Int) - 1)=((m - 1:Nat):Int):=by rw [wrap_i64 (by omega) (by omega)];omega
   have w2:=wi_ m (by omega)
   obtain ⟨u,hu⟩:∃ u,l'[m]?=some u:=⟨_,c0l (by omega)⟩
   obtain ⟨v,hv⟩:∃ v,l'[m - 1]?=some v:=⟨_,c0l (by omega)⟩
   simp only [d0,a0b,if_true,a0n,w1,bs,adP (show m<N by omega),adP (show m - 1<N by omega),a0P ho' hu,a0P ho' hv,hcmp.ap,a0r,a0Y]
   by_cases hc:c u v<0
   ·simp only [hc,decide_true,c0g,a0b,b9Z,if_false]
    refine swP ho' hu hv fun g2 p2 s2=>?_
    simp only [bs,a0k,w2]
    exact .some (.inl ⟨rfl,n - 1,by omega,_,_,m+1,_,rfl,by omega,by omega,p2,sg.trans (a1l hu hv (by omega) (by omega) (by omega) (by omega)),sm.trans s2⟩)
   ·simp only [hc,decide_false,c0h,a0b,if_true]
    exact .some (.inr ⟨by simp,rfl,⟨_,_,_,rfl⟩,l',ho',sg,sm⟩)
  ·have d0:decide ((m:Int)<(b:Int))=false:=decide_eq_false (by omega)
   simp only [d0,a0b,b9Z,if_false]
   exact .some (.inr ⟨by simp,rfl,⟨_,_,_,rfl⟩,l',ho',sg,sm⟩)
 ·rintro ⟨ex,ds,g'⟩ ⟨rfl,⟨u,v,w,hds⟩,l',h1,h2,h3⟩
  simp only at hds
  subst hds
  exact k u v w g' l' h1 h2 h3
theorem b7y {c:Pr→Pr→Int} (od:CmO c) {cmp:D} (hcmp:CmpFP cmp c) {o N:Nat} (hN:N≤1000000) {g:Hp} {l:List Pr} (hl:l.length=N) (ho:g[o]?=some (.row a0d 2 (l.map prr))) (a b:Nat) (hab:a<b) (hb:b≤N) (lw:Low c a b l) :
  Wp (R a8M [.msl 2 o 0 N,.int .i64 (a:Int),.int .i64 (b:Int),cmp] g) fun p=>∃ (d:Bool) (l':List Pr),p.1 = .bool d∧p.2[o]?=some (.row a0d 2 (l'.map prr))∧Seg a b l l'∧(d=true→Srt c a b l')∧Same o g p.2:=by
 rw [b6s]
 have w1:=wi_ a (by omega)
 have w2:IntKind.wrap .i64 ((b:Int) - (a:Int))=((b - a:Nat):Int):=by rw [wrap_i64 (by omega) (by omega)];omega
 simp only [b3B,bs,a0k,w1,b9Y]
 refine Wp.loop (fun n ds g'=>∃ x0 x3 x4 x5 x6 x7 x8 x9 y1 y2 y3 y4 y5,∃ i s:Nat,∃ l',ds=[x0,.int .i64 (i:Int),.int .i64 (s:Int),x3,x4,x5,x6,x7,x8,x9,y1,y2,y3,y4,y5]∧n+s=5∧a<i∧i≤b∧g'[o]?=some (.row a0d 2 (l'.map prr))∧Seg a b l l'∧Srt c a i l'∧Same o g g')
  (fun r=>(r.1 = .ext 0∧∃ l',r.2.2[o]?=some (.row a0d 2 (l'.map prr))∧Seg a b l l'∧Same o g r.2.2)∨(r.1 = .ret∧∃ (d:Bool) (l':List Pr),nth 0 r.2.1 = .bool d∧r.2.2[o]?=some (.row a0d 2 (l'.map prr))∧Seg a b l l'∧(d=true→Srt c a b l')∧Same o g r.2.2)) 5 ⟨_,_,_,_,_,_,_,_,_,_,_,_,_,a+1,0,l,rfl,rfl,by omega,by omega,ho,.refl _ _ _,.one,.refl _ _⟩ ?_ ?_
 ·rintro n ds g' ⟨x0,x3,x4,x5,x6,x7,x8,x9,y1,y2,y3,y4,y5,i,s,l',rfl,hn,hi,hib,ho',sg,st,sm⟩
  have hl':=sg.len.trans hl
  have ws:=wi_ s (by omega)
  simp only [a6G,a0g,a0i,bs,b9Y,a0r]
  refine Wp.dif ?_ ?_
  ·intro h0
   have h0:s<5:=dl_ h0
   refine b5g od hcmp hN hl' ho' a b i hb hi hib st _ fun j y hij hjb st2 hd=>?_
   simp only [a0o,a0p,bs,a0g,a0i,a1z,a0n,w2,a0r,b9Y]
   by_cases hjb2:j=b
   ·subst hjb2
    simp only [decide_true,a0b,if_true]
    exact .some (.inr ⟨by simp,.inr ⟨rfl,true,l',rfl,ho',sg,fun _=>st2,sm⟩⟩)
   ·have d1:decide ((j:Int)=(b:Int))=false:=decide_eq_false (by omega)
    simp only [d1,a0b,b9Z,if_false,bs]
    by_cases h50:b - a<50
    ·have d2:decide (((b - a:Nat):Int)<50)=true:=decide_eq_true (by omega)
     simp only [d2,a0b,if_true]
     exact .some (.inr ⟨by simp,.inr ⟨rfl,false,l',rfl,ho',sg,(fun h=>by cases h),sm⟩⟩)
    ·have d2:decide (((b - a:Nat):Int)<50)=false:=decide_eq_false (by omega)
     obtain ⟨u,v,hu,hv,hc⟩:=hd (by omega)
     obtain ⟨m,rfl⟩:∃ m,j=m+1:=⟨j - 1,by omega⟩
     rw [show m+1 - 1=m from rfl] at hv
     have w3:IntKind.wrap .i64 (((m+1:Nat):Int) - 1)=(m:Int):=by rw [wrap_i64 (by omega) (by omega)];omega
     have w4:IntKind.wrap .i64 (((m+1:Nat):Int) - (a:Int))=((m+1 - a:Nat):Int):=by rw [wrap_i64 (by omega) (by omega)];omega
     have w5:IntKind.wrap .i64 ((b:Int) - ((m+1:Nat):Int))=((b - (m+1):Nat):Int):=by rw [wrap_i64 (by omega) (by omega)];omega
     have w6:IntKind.wrap .i64 (((m+1:Nat):Int)+1)=((m+2:Nat):Int):=by rw [wrap_i64 (by omega) (by omega)];omega
     simp only [d2,a0b,b9Z,if_false,w3,bs,adP (show m+1<N by omega),adP (show m<N by omega),a0P ho' hu,a0P ho' hv]
     refine swP ho' hu hv fun g2 p2 s2=>?_
     have hsg2:Seg a b l' ((l'.set (m+1) v).set m u):=a1l hu hv (by omega) (by omega) (by omega) (by omega)
     have sx2:=st2.swX hu hv
     have hl2:=hsg2.len.trans hl'
     generalize (l'.set (m+1) v).set m u=l2 at p2 hsg2 sx2 hl2
     simp only [bs,a0n,w4,a0E,b9Y]
     refine Wp.bind (P:=fun r=>r.1 = .nrm∧∃ l3,r.2.2[o]?=some (.row a0d 2 (l3.map prr))∧Seg a b l2 l3∧Srt c a (m+1) l3∧Same o g2 r.2.2) ?_ ?_
     ·by_cases hge:m+1 - a≥2
      ·have d3:decide (((m+1 - a:Nat):Int)≥2)=true:=decide_eq_true (by omega)
       simp only [d3,a0b,if_true,w3,bs,b9Y]
       refine b5h od hcmp hN hl2 p2 a (m+1) m (by omega) (by omega) (by omega) sx2 (fun p q x y h1 h2 h3 hx hy=>(lw.seg (sg.trans hsg2)) p q x y h1 h2 (by omega) hx hy) _ _ fun u1 v1 w1' g3 l3 p3 s3 st3 m3=>?_
       simp only [a0o,bs]
       exact .some ⟨rfl,l3,p3,s3.mono (Nat.le_refl _) (by omega),st3,m3⟩
      ·have d3:decide (((m+1 - a:Nat):Int)≥2)=false:=decide_eq_false (by omega)
       simp only [d3,a0b,b9Z,if_false]
       have:m=a:=by omega
       subst this
       exact .some ⟨rfl,l2,p2,.refl _ _ _,.one,.refl _ _⟩
     ·rintro ⟨ex,ds3,g3⟩ ⟨rfl,l3,p3,s3,st3,m3⟩
      simp only at p3 m3
      have hl3:=s3.len.trans hl2
      simp only [a0p,bs,a0n,w5,a0E,b9Y]
      refine Wp.bind (P:=fun r=>r.1 = .nrm∧∃ l4,r.2.2[o]?=some (.row a0d 2 (l4.map prr))∧Seg (m+1) b l3 l4∧Same o g3 r.2.2) ?_ ?_
      ·by_cases hge:b - (m+1)≥2
       ·have d3:decide (((b - (m+1):Nat):Int)≥2)=true:=decide_eq_true (by omega)
        simp only [d3,a0b,if_true,a0k,w6,bs,b9Y]
        refine b5i hcmp hN hl3 p3 (m+1) (m+2) b hb (by omega) (by omega) _ _ fun u1 v1 w1' g4 l4 p4 s4 m4=>?_
        simp only [a0o,bs]
        exact .some ⟨rfl,l4,p4,s4,m4⟩
       ·have d3:decide (((b - (m+1):Nat):Int)≥2)=false:=decide_eq_false (by omega)
        simp only [d3,a0b,b9Z,if_false]
        exact .some ⟨rfl,l3,p3,.refl _ _ _,.refl _ _⟩
      ·rintro ⟨ex,ds4,g4⟩ ⟨rfl,l4,p4,s4,m4⟩
       simp only at p4 m4
       simp only [a1b,a0p,bs,a0k,ws,a0g,a0i]
       exact .some (.inl ⟨rfl,n - 1,by omega,_,_,_,_,_,_,_,_,_,_,_,_,_,m+1,s+1,l4,rfl,by omega,by omega,by omega,p4,((sg.trans hsg2).trans s3).trans (s4.mono (by omega) (Nat.le_refl _)),st3.keep s4,((sm.trans s2).trans m3).trans m4⟩)
  ·intro h0
   exact .some (.inr ⟨by simp,.inl ⟨rfl,l',ho',sg,sm⟩⟩)
 ·rintro ⟨ex,ds,g'⟩ (⟨rfl,l',h1,h2,h3⟩ | ⟨rfl,d,l',hd,h1,h2,hs,h3⟩)
  ·simp only [a0o,a0p,bs,a0y]
   exact .some ⟨false,l',rfl,h1,h2,(fun h=>by cases h),h3⟩
  ·simp only at hd
   simp only [a0Q,a1L,a1r,bs,a0g,hd,a0y]
   exact .some ⟨d,l',rfl,h1,h2,hs,h3⟩
theorem b5j {c:Pr→Pr→Int} {cmp:D} (hcmp:CmpFP cmp c) {o N:Nat} (hN:N≤1000000) {g:Hp} {l:List Pr} (hl:l.length=N) (ho:g[o]?=some (.row a0d 2 (l.map prr))) (a b i j:Nat) (p:Pr) (hb:b≤N) (hp:PI c a b i j p l) (x0:D) {β:Type} {K:Out→Option β} {Q:β→Prop}
  (k:∀ (i':Nat) y,PI c a b i' j p l→i≤i'→(i'≤j→∃ u,l[i']?=some u∧¬ c u p<0)→Wp (K (.ext 0,[.int .i64 (i':Int),y],g)) Q) :
  Wp ((a0v (a4x (.msl 2 o 0 N) (.int .i64 (a:Int)) cmp (.int .i64 (j:Int))) [.int .i64 (i:Int),x0] g).bind K) Q:=by
 have hab:a<b:=by have:=hp.i1;have:=hp.ij;have:=hp.jb;omega
 refine Wp.loop (fun n ds g'=>g'=g∧∃ x,∃ i':Nat,ds=[.int .i64 (i':Int),x]∧n+i'=j+1∧PI c a b i' j p l∧i≤i')
  (fun r=>r.1 = .ext 0∧r.2.2=g∧∃ x,∃ i':Nat,r.2.1=[.int .i64 (i':Int),x]∧PI c a b i' j p l∧i≤i'∧(i'≤j→∃ u,l[i']?=some u∧¬ c u p<0)) (j+1 - i) ⟨rfl,_,i,rfl,by have:=hp.ij;omega,hp,Nat.le_refl _⟩ ?_ ?_
 ·rintro n ds g' ⟨rfl,x,i',rfl,hn,hp',hi⟩
  have hjb:=hp'.jb
  simp only [a4x,a0g,a0i,bs,b9Y,a0O]
  by_cases h0:i'≤j
  ·have d0:decide ((i':Int)≤(j:Int))=true:=decide_eq_true (by omega)
   obtain ⟨u,hu⟩:∃ u,l[i']?=some u:=⟨_,c0l (by omega)⟩
   have w2:IntKind.wrap .i64 ((i':Int)+1)=((i'+1:Nat):Int):=by rw [wrap_i64 (by omega) (by omega)];omega
   simp only [d0,a0u,a0w,if_true,bs,adP (show i'<N by omega),adP (show a<N by omega),a0P ho hu,a0P ho hp'.pv,hcmp.ap,a0r,a0l]
   by_cases hc:c u p<0
   ·simp only [hc,decide_true,a0b,if_true,a0k,w2,bs]
    exact .some (.inl ⟨rfl,n - 1,by omega,rfl,_,i'+1,rfl,by omega,hp'.up h0 hu hc,by omega⟩)
   ·simp only [hc,decide_false,a0b,b9Z,if_false]
    exact .some (.inr ⟨by simp,rfl,rfl,_,i',rfl,hp',hi,fun _=>⟨u,hu,hc⟩⟩)
  ·have d0:decide ((i':Int)≤(j:Int))=false:=decide_eq_false (by omega)
   simp only [d0,a0u,a0w,a1n,reduceCtorEq,b9Z,if_false,bs,a0l,a0b]
   exact .some (.inr ⟨by simp,rfl,rfl,_,i',rfl,hp',hi,fun h=>absurd h h0⟩)
 ·rintro ⟨ex,ds,g'⟩ ⟨rfl,rfl,y,i',hds,h1,h2,h3⟩
  simp only at hds
  subst hds
  exact k i' y h1 h2 h3
theorem b5k {c:Pr→Pr→Int} {cmp:D} (hcmp:CmpFP cmp c) {o N:Nat} (hN:N≤1000000) {g:Hp} {l:List Pr} (hl:l.length=N) (ho:g[o]?=some (.row a0d 2 (l.map prr))) (a b i j:Nat) (p:Pr) (hb:b≤N) (hp:PI c a b i j p l) (r_1:Out) (hr:nth 0 r_1.2.1 = .int .i64 (i:Int)) (x0:D) {β:Type} {K:Out→Option β} {Q:β→Prop}
  (k:∀ (j':Nat) y,PI c a b i j' p l→j'≤j→(i≤j'→∃ u,l[j']?=some u∧c u p<0)→Wp (K (.ext 2,[.int .i64 (j':Int),y],g)) Q) :
  Wp ((a0v (a4y (.msl 2 o 0 N) (.int .i64 (a:Int)) cmp r_1) [.int .i64 (j:Int),x0] g).bind K) Q:=by
 have hab:a<b:=by have:=hp.i1;have:=hp.ij;have:=hp.jb;omega
 refine Wp.loop (fun n ds g'=>g'=g∧∃ x,ds=[.int .i64 (n:Int),x]∧n≤j∧PI c a b i n p l)
  (fun r=>r.1 = .ext 2∧r.2.2=g∧∃ x,∃ j':Nat,r.2.1=[.int .i64 (j':Int),x]∧PI c a b i j' p l∧j'≤j∧(i≤j'→∃ u,l[j']?=some u∧c u p<0)) j ⟨rfl,_,rfl,Nat.le_refl _,hp⟩ ?_ ?_
 ·rintro n ds g' ⟨rfl,x,rfl,hn,hp'⟩
  have hjb:=hp'.jb
  simp only [a4y,a0g,a0i,bs,b9Y,hr,a0O]
  by_cases h0:i≤n
  ·have d0:decide ((i:Int)≤(n:Int))=true:=decide_eq_true (by omega)
   obtain ⟨u,hu⟩:∃ u,l[n]?=some u:=⟨_,c0l (by omega)⟩
   simp only [d0,a0u,a0w,if_true,bs,adP (show n<N by omega),adP (show a<N by omega),a0P ho hu,a0P ho hp'.pv,hcmp.ap,a0r,a0Y,a0l]
   by_cases hc:c u p<0
   ·simp only [hc,decide_true,c0g,a0b,b9Z,if_false]
    exact .some (.inr ⟨by simp,rfl,rfl,_,n,rfl,hp',hn,fun _=>⟨u,hu,hc⟩⟩)
   ·obtain ⟨m,rfl⟩:∃ m,n=m+1:=⟨n - 1,by have:=hp'.i1;omega⟩
    have w2:IntKind.wrap .i64 (((m+1:Nat):Int) - 1)=(m:Int):=by rw [wrap_i64 (by omega) (by omega)];omega
    simp only [hc,decide_false,c0h,a0b,if_true,a0n,w2,bs]
    exact .some (.inl ⟨rfl,m,by omega,rfl,_,rfl,by omega,hp'.down h0 hu hc⟩)
  ·have d0:decide ((i:Int)≤(n:Int))=false:=decide_eq_false (by omega)
   simp only [d0,a0u,a0w,a1n,reduceCtorEq,b9Z,if_false,bs,a0l,a0b]
   exact .some (.inr ⟨by simp,rfl,rfl,_,n,rfl,hp',hn,fun h=>absurd h h0⟩)
 ·rintro ⟨ex,ds,g'⟩ ⟨rfl,rfl,y,j',hds,h1,h2,h3⟩
  simp only at hds
  subst hds
  exact k j' y h1 h2 h3
theorem b5l {c:Pr→Pr→Int} {cmp:D} (hcmp:CmpFP cmp c) {o N:Nat} (hN:N≤1000000) {g:Hp} {l:List Pr} (hl:l.length=N) (ho:g[o]?=some (.row a0d 2 (l.map prr))) (a b i j:Nat) (p:Pr) (hb:b≤N) (hp:PI c a b i j p l) (ds2:List D) (hr:nth 1 ds2 = .int .i64 (j:Int)) (x0:D) {β:Type} {K:Out→Option β} {Q:β→Prop}
  (k:∀ (i':Nat) y,PI c a b i' j p l→i≤i'→(i'≤j→∃ u,l[i']?=some u∧¬ c u p<0)→Wp (K (.ext 6,[.int .i64 (i':Int),y],g)) Q) :
  Wp ((a0v (a4z (.msl 2 o 0 N) (.int .i64 (a:Int)) cmp ds2) [.int .i64 (i:Int),x0] g).bind K) Q:=by
 have hab:a<b:=by have:=hp.i1;have:=hp.ij;have:=hp.jb;omega
 refine Wp.loop (fun n ds g'=>g'=g∧∃ x,∃ i':Nat,ds=[.int .i64 (i':Int),x]∧n+i'=j+1∧PI c a b i' j p l∧i≤i')
  (fun r=>r.1 = .ext 6∧r.2.2=g∧∃ x,∃ i':Nat,r.2.1=[.int .i64 (i':Int),x]∧PI c a b i' j p l∧i≤i'∧(i'≤j→∃ u,l[i']?=some u∧¬ c u p<0)) (j+1 - i) ⟨rfl,_,i,rfl,by have:=hp.ij;omega,hp,Nat.le_refl _⟩ ?_ ?_
 ·rintro n ds g' ⟨rfl,x,i',rfl,hn,hp',hi⟩
  have hjb:=hp'.jb
  simp only [a4z,a0g,a0i,bs,b9Y,hr,a0O]
  by_cases h0:i'≤j
  ·have d0:decide ((i':Int)≤(j:Int))=true:=decide_eq_true (by omega)
   obtain ⟨u,hu⟩:∃ u,l[i']?=some u:=⟨_,c0l (by omega)⟩
   have w2:IntKind.wrap .i64 ((i':Int)+1)=((i'+1:Nat):Int):=by rw [wrap_i64 (by omega) (by omega)];omega
   simp only [d0,a0u,a0w,if_true,bs,adP (show i'<N by omega),adP (show a<N by omega),a0P ho hu,a0P ho hp'.pv,hcmp.ap,a0r,a0l]
   by_cases hc:c u p<0
   ·simp only [hc,decide_true,a0b,if_true,a0k,w2,bs]
    exact .some (.inl ⟨rfl,n - 1,by omega,rfl,_,i'+1,rfl,by omega,hp'.up h0 hu hc,by omega⟩)
   ·simp only [hc,decide_false,a0b,b9Z,if_false]
    exact .some (.inr ⟨by simp,rfl,rfl,_,i',rfl,hp',hi,fun _=>⟨u,hu,hc⟩⟩)
  ·have d0:decide ((i':Int)≤(j:Int))=false:=decide_eq_false (by omega)
   simp only [d0,a0u,a0w,a1n,reduceCtorEq,b9Z,if_false,bs,a0l,a0b]
   exact .some (.inr ⟨by simp,rfl,rfl,_,i',rfl,hp',hi,fun h=>absurd h h0⟩)
 ·rintro ⟨ex,ds,g'⟩ ⟨rfl,rfl,y,i',hds,h1,h2,h3⟩
  simp only at hds
  subst hds
  exact k i' y h1 h2 h3
theorem b5m {c:Pr→Pr→Int} {cmp:D} (hcmp:CmpFP cmp c) {o N:Nat} (hN:N≤1000000) {g:Hp} {l:List Pr} (hl:l.length=N) (ho:g[o]?=some (.row a0d 2 (l.map prr))) (a b i j:Nat) (p:Pr) (hb:b≤N) (hp:PI c a b i j p l) (r_1:Out) (hr:nth 0 r_1.2.1 = .int .i64 (i:Int)) (x0:D) {β:Type} {K:Out→Option β} {Q:β→Prop}
  (k:∀ (j':Nat) y,PI c a b i j' p l→j'≤j→(i≤j'→∃ u,l[j']?=some u∧c u p<0)→Wp (K (.ext 8,[.int .i64 (j':Int),y],g)) Q) :
  Wp ((a0v (a4A (.msl 2 o 0 N) (.int .i64 (a:Int)) cmp r_1) [.int .i64 (j:Int),x0] g).bind K) Q:=by
 have hab:a<b:=by have:=hp.i1;have:=hp.ij;have:=hp.jb;omega
 refine Wp.loop (fun n ds g'=>g'=g∧∃ x,ds=[.int .i64 (n:Int),x]∧n≤j∧PI c a b i n p l)
  (fun r=>r.1 = .ext 8∧r.2.2=g∧∃ x,∃ j':Nat,r.2.1=[.int .i64 (j':Int),x]∧PI c a b i j' p l∧j'≤j∧(i≤j'→∃ u,l[j']?=some u∧c u p<0)) j ⟨rfl,_,rfl,Nat.le_refl _,hp⟩ ?_ ?_
 ·rintro n ds g' ⟨rfl,x,rfl,hn,hp'⟩
  have hjb:=hp'.jb
  simp only [a4A,a0g,a0i,bs,b9Y,hr,a0O]
  by_cases h0:i≤n
  ·have d0:decide ((i:Int)≤(n:Int))=true:=decide_eq_true (by omega)
   obtain ⟨u,hu⟩:∃ u,l[n]?=some u:=⟨_,c0l (by omega)⟩
   simp only [d0,a0u,a0w,if_true,bs,adP (show n<N by omega),adP (show a<N by omega),a0P ho hu,a0P ho hp'.pv,hcmp.ap,a0r,a0Y,a0l]
   by_cases hc:c u p<0
   ·simp only [hc,decide_true,c0g,a0b,b9Z,if_false]
    exact .some (.inr ⟨by simp,rfl,rfl,_,n,rfl,hp',hn,fun _=>⟨u,hu,hc⟩⟩)
   ·obtain ⟨m,rfl⟩:∃ m,n=m+1:=⟨n - 1,by have:=hp'.i1;omega⟩
    have w2:IntKind.wrap .i64 (((m+1:Nat):Int) - 1)=(m:Int):=by rw [wrap_i64 (by omega) (by omega)];omega
    simp only [hc,decide_false,c0h,a0b,if_true,a0n,w2,bs]
    exact .some (.inl ⟨rfl,m,by omega,rfl,_,rfl,by omega,hp'.down h0 hu hc⟩)
  ·have d0:decide ((i:Int)≤(n:Int))=false:=decide_eq_false (by omega)
   simp only [d0,a0u,a0w,a1n,reduceCtorEq,b9Z,if_false,bs,a0l,a0b]
   exact .some (.inr ⟨by simp,rfl,rfl,_,n,rfl,hp',hn,fun h=>absurd h h0⟩)
 ·rintro ⟨ex,ds,g'⟩ ⟨rfl,rfl,y,j',hds,h1,h2,h3⟩
  simp only at hds
  subst hds
  exact k j' y h1 h2 h3
theorem b7z {c:Pr→Pr→Int} (od:CmO c) {cmp:D} (hcmp:CmpFP cmp c) {o N:Nat} (hN:N≤1000000) {g:Hp} {l:List Pr} (hl:l.length=N) (ho:g[o]?=some (.row a0d 2 (l.map prr))) (a b pv:Nat) (hb:b≤N) (hp1:a≤pv) (hp2:pv<b) :
  Wp (R a8N [.msl 2 o 0 N,.int .i64 (a:Int),.int .i64 (b:Int),.int .i64 (pv:Int),cmp] g) fun r=>∃ (m:Nat) (d:Bool) (l':List Pr),r.1 = .tup [.int .i64 (m:Int),.bool d]∧r.2[o]?=some (.row a0d 2 (l'.map prr))∧Seg a b l l'∧Part c a b m l'∧Same o g r.2:=by
 rw [b6t]
 obtain ⟨x,hx⟩:∃ x,l[a]?=some x:=⟨_,c0l (by omega)⟩
 obtain ⟨p,hp⟩:∃ p,l[pv]?=some p:=⟨_,c0l (by omega)⟩
 have w1:=wi_ a (by omega)
 have w2:IntKind.wrap .i64 ((b:Int) - 1)=((b - 1:Nat):Int):=by rw [wrap_i64 (by omega) (by omega)];omega
 simp only [b3C,bs,adP (show pv<N by omega),adP (show a<N by omega),a0P ho hx,a0P ho hp,b9Y]
 refine swP ho hx hp fun g1 p1 s1=>?_
 have sg1:Seg a b l ((l.set a p).set pv x):=a1l hx hp (by omega) (by omega) (by omega) (by omega)
 have pv1:((l.set a p).set pv x)[a]?=some p:=by
  rw [a2U hx hp]
  split
  ·rename_i e
   subst e
   rw [hx] at hp
   exact hp
  ·rw [if_pos rfl]
 have hl1:=sg1.len.trans hl
 generalize (l.set a p).set pv x=l1 at p1 sg1 pv1 hl1
 have P1:PI c a b (a+1) (b - 1) p l1:=⟨pv1,by omega,by omega,by omega,fun k x h1 h2=>by omega,fun k x h1 h2=>by omega⟩
 simp only [bs,a0k,w1,a0n,w2,b9Y]
 refine b5j hcmp hN hl1 p1 a b _ _ p hb P1 _ fun i1 y1 P2 hi1 hd1=>?_
 simp only [a0o,a0p,bs,a0g,a0i,b9Y]
 refine b5k hcmp hN hl1 p1 a b _ _ p hb P2 _ (by rfl) _ fun j1 y2 P3 hj1 hd2=>?_
 have hjb3:=P3.jb
 have hi3:=P3.i1
 have hij3:=P3.ij
 simp only [a0o,a0p,bs,a0g,a0i,a1c,b9Y]
 obtain ⟨q,hq⟩:∃ q,l1[j1]?=some q:=⟨_,c0l (by omega)⟩
 by_cases hij:i1>j1
 ·have d0:decide ((i1:Int)>(j1:Int))=true:=decide_eq_true (by omega)
  have e1:i1=j1+1:=by omega
  subst e1
  simp only [d0,a0b,if_true,adP (show a<N by omega),adP (show j1<N by omega),a0P p1 pv1,a0P p1 hq,bs]
  refine swP p1 hq pv1 fun g2 p2 s2=>?_
  obtain ⟨pt,sg2⟩:=P3.part hq
  simp only [bs,a0H]
  exact .some ⟨j1,true,_,rfl,p2,sg1.trans sg2,pt,s1.trans s2⟩
 ·have d0:decide ((i1:Int)>(j1:Int))=false:=decide_eq_false (by omega)
  obtain ⟨u,hu,hcu⟩:=hd1 (by omega)
  obtain ⟨v,hv,hcv⟩:=hd2 (by omega)
  have hne:i1≠j1:=fun e=>by
   subst e
   rw [hu] at hv
   injection hv with hv
   subst hv
   exact hcu hcv
  have w3:=wi_ i1 (by omega)
  have w4:IntKind.wrap .i64 ((j1:Int) - 1)=((j1 - 1:Nat):Int):=by rw [wrap_i64 (by omega) (by omega)];omega
  simp only [d0,a0b,b9Z,if_false,adP (show i1<N by omega),adP (show j1<N by omega),a0P p1 hu,a0P p1 hv,bs,b9Y]
  refine swP p1 hu hv fun g2 p2 s2=>?_
  have P4:=P3.swap (by omega) hu hv hcu hcv
  have sg2:Seg a b l1 ((l1.set i1 v).set j1 u):=a1l hu hv (by omega) (by omega) (by omega) (by omega)
  have hl2:=sg2.len.trans hl1
  generalize (l1.set i1 v).set j1 u=l2 at p2 P4 sg2 hl2
  simp only [bs,a0k,a0n,w3,w4,b9Y]
  refine Wp.loop (fun n ds g'=>∃ x2 x3 x4,∃ i j:Nat,∃ l',ds=[.int .i64 (i:Int),.int .i64 (j:Int),x2,x3,x4]∧n+i=j+1∧g'[o]?=some (.row a0d 2 (l'.map prr))∧Seg a b l2 l'∧PI c a b i j p l'∧Same o g2 g')
   (fun r=>r.1 = .ext 4∧∃ j:Nat,∃ l',nth 1 r.2.1 = .int .i64 (j:Int)∧r.2.2[o]?=some (.row a0d 2 (l'.map prr))∧Seg a b l2 l'∧PI c a b (j+1) j p l'∧Same o g2 r.2.2) (j1 - 1+1 - (i1+1)) ⟨_,_,_,i1+1,j1 - 1,l2,rfl,by omega,p2,.refl _ _ _,P4,.refl _ _⟩ ?_ ?_
  ·rintro n ds g' ⟨x2,x3,x4,i,j,l',rfl,hn,ho',sg,hP,sm⟩
   have hl':=sg.len.trans hl2
   simp only [a6H,a0g,a0i,bs,b9Y]
   refine b5l hcmp hN hl' ho' a b _ _ p hb hP _ (by rfl) _ fun i2 y3 P5 hi2 hd3=>?_
   simp only [a0o,a0p,bs,a0g,a0i,b9Y]
   refine b5m hcmp hN hl' ho' a b _ _ p hb P5 _ (by rfl) _ fun j2 y4 P6 hj2 hd4=>?_
   have hjb6:=P6.jb
   have hi6:=P6.i1
   have hij6:=P6.ij
   simp only [a0o,a0p,bs,a0g,a0i,a1c,b9Y]
   by_cases hij:i2>j2
   ·have d0:decide ((i2:Int)>(j2:Int))=true:=decide_eq_true (by omega)
    have e1:i2=j2+1:=by omega
    subst e1
    simp only [d0,a0b,if_true]
    exact .some (.inr ⟨by simp,rfl,j2,l',rfl,ho',sg,P6,sm⟩)
   ·have d0:decide ((i2:Int)>(j2:Int))=false:=decide_eq_false (by omega)
    obtain ⟨u2,hu2,hcu2⟩:=hd3 (by omega)
    obtain ⟨v2,hv2,hcv2⟩:=hd4 (by omega)
    have hne2:i2≠j2:=fun e=>by
     subst e
     rw [hu2] at hv2
     injection hv2 with hv2
     subst hv2
     exact hcu2 hcv2
    have w5:=wi_ i2 (by omega)
    have w6:IntKind.wrap .i64 ((j2:Int) - 1)=((j2 - 1:Nat):Int):=by rw [wrap_i64 (by omega) (by omega)];omega
    simp only [d0,a0b,b9Z,if_false,adP (show i2<N by omega),adP (show j2<N by omega),a0P ho' hu2,a0P ho' hv2,bs,b9Y]
    refine swP ho' hu2 hv2 fun g3 p3 s3=>?_
    simp only [bs,a0k,a0n,w5,w6]
    exact .some (.inl ⟨rfl,j2 - 1+1 - (i2+1),by omega,_,_,_,i2+1,j2 - 1,_,rfl,by omega,p3,sg.trans (a1l hu2 hv2 (by omega) (by omega) (by omega) (by omega)),P6.swap (by omega) hu2 hv2 hcu2 hcv2,sm.trans s3⟩)
  ·rintro ⟨ex,ds,g3⟩ ⟨rfl,j3,l3,hj3,p3,sg3,P7,sm3⟩
   simp only at hj3 p3 sm3
   have hl3:=sg3.len.trans hl2
   have hjb7:=P7.jb
   obtain ⟨q3,hq3⟩:∃ q,l3[j3]?=some q:=⟨_,c0l (by omega)⟩
   simp only [a0o,a0p,bs,a0g,a0i,hj3,adP (show a<N by omega),adP (show j3<N by omega),a0P p3 P7.pv,a0P p3 hq3,b9Y]
   refine swP p3 hq3 P7.pv fun g4 p4 s4=>?_
   obtain ⟨pt,sg4⟩:=P7.part hq3
   simp only [bs,a0H]
   exact .some ⟨j3,false,_,rfl,p4,((sg1.trans sg2).trans sg3).trans sg4,pt,((s1.trans s2).trans sm3).trans s4⟩
def b5L:List UInt8:=(List.range 256).map fun v=>if v=0 then 0 else if v<2 then 1 else if v<4 then 2 else if v<8 then 3 else if v<16 then 4 else if v<32 then 5 else if v<64 then 6 else if v<128 then 7 else 8
set_option maxRecDepth 20000 in
theorem a9e:([0,1,2,2,3,3,3,3,4,4,4,4,4,4,4,4,5,5,5,5,5,5,5,5,5,5,5,5,5,5,5,5,6,6,6,6,6,6,6,6,6,6,6,6,6,6,6,6,6,6,6,6,6,6,6,6,6,6,6,6,6,6,6,6,7,7,7,7,7,7,7,7,7,7,7,7,7,7,7,7,7,7,7,7,7,7,7,7,7,7,7,7,7,7,7,7,7,7,7,7,7,7,7,7,7,7,7,7,7,7,7,7,7,7,7,7,7,7,7,7,7,7,7,7,7,7,7,7,8,8,8,8,8,8,8,8,8,8,8,8,8,8,8,8,8,8,8,8,8,8,8,8,8,8,8,8,8,8,8,8,8,8,8,8,8,8,8,8,8,8,8,8,8,8,8,8,8,8,8,8,8,8,8,8,8,8,8,8,8,8,8,8,8,8,8,8,8,8,8,8,8,8,8,8,8,8,8,8,8,8,8,8,8,8,8,8,8,8,8,8,8,8,8,8,8,8,8,8,8,8,8,8,8,8,8,8,8,8,8,8,8,8,8,8,8,8,8,8,8,8,8,8,8,8,8,8]:List UInt8)=b5L:=by kernel_rfl
theorem b0G:((List.range 256).all fun v=>match b5L[v]? with | some w=>decide (w.toNat≤8)&&(decide (v=0)||decide (2 ^ w.toNat≤2*v)) | none=>false)=true:=by kernel_rfl
theorem a9f (v:Nat) (hv:v<256):∃ w,b5L[v]?=some w∧w.toNat≤8∧(1≤v→2 ^ w.toNat≤2*v):=by
 have h:=List.all_eq_true.1 b0G v (List.mem_range.2 hv)
 cases hw:b5L[v]? with
 | none=>rw [hw] at h;cases h
 | some w =>
  rw [hw] at h
  simp only [Bool.and_eq_true,Bool.or_eq_true,decide_eq_true_eq] at h
  exact ⟨w,rfl,h.1,fun h1=>by
   rcases h.2 with h2 | h2
   ·omega
   ·exact h2⟩
theorem ix8 (s:Str) (i:Nat) (c:UInt8) (hc:s[i]?=some c):a3U tab ty9 (.str s) (.int .u8 (i:Int))=some (.int .u8 c.toNat):=by
 show (if (0:Int)≤(i:Int) then (match s[(i:Int).toNat]? with | some c=>some (D.int .u8 c.toNat) | none=>none) else none)=_
 simp [-bind_some, hc]
theorem b7e (x:Nat) (hx:x<65536) (h:Hp):∃ k:Nat,R a8H [.int .u64 (x:Int)] h=some (.int .i64 (k:Int),h)∧k≤16∧(1≤x→2 ^ k≤2*x):=by
 have w8:∀ v:Nat,v<256→IntKind.wrap .u8 (v:Int)=(v:Int):=fun v hv=>by rw [b1e];omega
 have d1:decide ((x:Int)≥4294967296)=false:=decide_eq_false (by omega)
 have d2:decide ((x:Int)≥65536)=false:=decide_eq_false (by omega)
 by_cases h0:x<256
 ·obtain ⟨w,hw,h1,h2⟩:=a9f x h0
  have d3:decide ((x:Int)≥256)=false:=decide_eq_false (by omega)
  have wi:IntKind.wrap .i64 ((w.toNat:Nat):Int)=((w.toNat:Nat):Int):=wrap_i64 (by omega) (by omega)
  have wz:IntKind.wrap .i64 ((0:Int)+((w.toNat:Nat):Int))=((w.toNat:Nat):Int):=by rw [wrap_i64 (by omega) (by omega)];omega
  refine ⟨w.toNat,?_,by omega,h2⟩
  rw [b4e]
  simp only [b1J,a0E,d1,d2,d3,a0b,b9Z,if_false,bs,a0p,a0g,a0i,a6V,w8 x h0,a9e,ix8 _ _ _ hw,b1V,wi,a0k,wz,a0y]
 ·obtain ⟨v,hv⟩:∃ v,v=x / 256:=⟨_,rfl⟩
  obtain ⟨w,hw,h1,h2⟩:=a9f v (by omega)
  have d3:decide ((x:Int)≥256)=true:=decide_eq_true (by omega)
  have fd:Int.fdiv (x:Int) (2 ^ min (8:Int).toNat IntKind.u64.bits)=(v:Int):=by
   have e:(2:Int) ^ min (8:Int).toNat IntKind.u64.bits=256:=by decide
   rw [e,Int.fdiv_eq_ediv_of_nonneg _ (by omega)]
   omega
  have wi:IntKind.wrap .i64 ((w.toNat:Nat):Int)=((w.toNat:Nat):Int):=wrap_i64 (by omega) (by omega)
  have w0:IntKind.wrap .i64 ((0:Int)+8)=8:=rfl
  have wz:IntKind.wrap .i64 ((8:Int)+((w.toNat:Nat):Int))=((8+w.toNat:Nat):Int):=by rw [wrap_i64 (by omega) (by omega)];omega
  refine ⟨8+w.toNat,?_,by omega,fun _=>?_⟩
  ·rw [b4e]
   simp only [b1J,a0E,d1,d2,d3,a0b,b9Z,if_false,if_true,bs,a0p,a0g,a0i,a6Z,show ¬ (8:Int)<0 by omega,fd,a0k,w0,a6V,w8 v (by omega),a9e,ix8 _ _ _ hw,b1V,wi,wz,a0y]
  ·have h3:=h2 (by omega)
   rw [Nat.pow_add]
   have:(2:Nat) ^ 8=256:=rfl
   omega
theorem a9C (x:Nat) (hx:x<65536) (h:Hp):∃ k:Nat,R a3x [.int .u64 (x:Int)] h=some (.int .i64 (k:Int),h)∧k≤16∧(1≤x→2 ^ k≤2*x):=by
 obtain ⟨k,e,h1⟩:=b7e x hx h
 refine ⟨k,?_,h1⟩
 rw [b6n]
 simp only [b3w,a0b,b9Z,if_false,e,bs,a0y]
theorem b4W (x:Nat) (h0:1≤x) (hx:x<65536) (h:Hp):∃ m:Nat,R a7j [.int .i64 (x:Int)] h=some (.int .u64 (m:Int),h)∧1≤m∧m≤2*x:=by
 obtain ⟨k,e,h1,h2⟩:=a9C x hx h
 have hp:=h2 h0
 have hp1:1≤2 ^ k:=Nat.one_le_two_pow
 have w1:IntKind.wrap .u64 (x:Int)=(x:Int):=a1H (by omega) (by omega)
 have w2:IntKind.wrap .u64 ((1:Int)*2 ^ min ((k:Int).toNat) IntKind.u64.bits)=((2 ^ k:Nat):Int):=by
  have e1:min ((k:Int).toNat) IntKind.u64.bits=k:=by
   have:IntKind.u64.bits=64:=rfl
   rw [this];omega
  have e2:(1:Int)*2 ^ k=((2 ^ k:Nat):Int):=by rw [Int.one_mul];exact (Int.natCast_pow 2 k).symm
  rw [e1,e2,a1H (by omega) (by omega)]
 refine ⟨2 ^ k,?_,hp1,hp⟩
 rw [b6B]
 simp only [b3K,a3q,w1,bs,e,a4L,show ¬ ((k:Int)<0) by omega,if_false,w2,a0y]
theorem b4X {q:Nat} {g:Hp} {s:Int} (hq:g[q]?=some (.row a0B 1 [[.int .u64 s]])):Wp (R a7k [.ptr q 0 0] g) fun p=>∃ s':Int,p.1 = .int .u64 s'∧p.2[q]?=some (.row a0B 1 [[.int .u64 s']])∧Same q g p.2:=by
 have ld:∀ (g':Hp) (s:Int),g'[q]?=some (.row a0B 1 [[.int .u64 s]])→a0f tab g' a0B (.ptr q 0 0)=some (.int .u64 s):=fun g' s h=>by rw [b2v,a2b h];rfl
 rw [b6C]
 simp only [b3L,a2i,bs,ld _ _ hq,a4L,show ¬ (13:Int)<0 by omega,if_false,a4M,b9Y]
 refine a3J (kk:=0) (off:=0) hq (row:=[.int .u64 s]) (by rfl) (by rfl) (by simp) (by rfl) fun g2 p2 s2=>?_
 replace p2:g2[q]?=some (.row a0B 1 [[_]]):=p2
 simp only [bs,ld _ _ p2,a6Z,show ¬ (7:Int)<0 by omega,if_false,a4M,b9Y]
 refine a3J (kk:=0) (off:=0) p2 (row:=[_]) (by rfl) (by rfl) (by simp) (by rfl) fun g3 p3 s3=>?_
 replace p3:g3[q]?=some (.row a0B 1 [[_]]):=p3
 simp only [bs,ld _ _ p3,a4L,show ¬ (17:Int)<0 by omega,if_false,a4M,b9Y]
 refine a3J (kk:=0) (off:=0) p3 (row:=[_]) (by rfl) (by rfl) (by simp) (by rfl) fun g4 p4 s4=>?_
 replace p4:g4[q]?=some (.row a0B 1 [[_]]):=p4
 simp only [bs,ld _ _ p4,a0y]
 exact .some ⟨_,rfl,p4,(s2.trans s3).trans s4⟩
theorem b1f (s:Int) (m:Nat) (h1:1≤m) (hm:m≤1000000):∃ v:Nat,v<m∧IntKind.wrap .u64 ((BitVec.ofInt IntKind.u64.bits s &&& BitVec.ofInt IntKind.u64.bits ((m - 1:Nat):Int)).toNat:Int)=(v:Int):=by
 refine ⟨(BitVec.ofInt IntKind.u64.bits s &&& BitVec.ofInt IntKind.u64.bits ((m - 1:Nat):Int)).toNat,?_,a9T _⟩
 rw [BitVec.toNat_and]
 have h2:(BitVec.ofInt IntKind.u64.bits ((m - 1:Nat):Int)).toNat=m - 1:=by
  rw [BitVec.toNat_ofInt]
  have:IntKind.u64.bits=64:=rfl
  rw [this]
  omega
 rw [h2]
 have:=Nat.and_le_right (n:=(BitVec.ofInt IntKind.u64.bits s).toNat) (m:=m - 1)
 omega
theorem b7v {o N:Nat} (hN:N≤60000) {g:Hp} {l:List Pr} (hl:l.length=N) (ho:g[o]?=some (.row a0d 2 (l.map prr))) (a b:Nat) (hab:a+8≤b) (hb:b≤N) (cmp:D) :
  Wp (R a8K [.msl 2 o 0 N,.int .i64 (a:Int),.int .i64 (b:Int),cmp] g) fun p=>∃ l',p.2[o]?=some (.row a0d 2 (l'.map prr))∧Seg a b l l'∧Same o g p.2:=by
 obtain ⟨n,hn⟩:∃ n,n=b - a:=⟨_,rfl⟩
 obtain ⟨k,hk⟩:∃ k,k=n / 4:=⟨_,rfl⟩
 have ho':o<g.length:=(c0m.1 ho).1
 have w1:IntKind.wrap .i64 ((b:Int) - (a:Int))=((n:Nat):Int):=by rw [wrap_i64 (by omega) (by omega)];omega
 have wq:IntKind.wrap .i64 (Int.tdiv (n:Int) 4)=((k:Nat):Int):=by
  rw [show Int.tdiv (n:Int) 4=((n / 4:Nat):Int) from by rw [Int.tdiv_eq_ediv_of_nonneg (by omega)];omega,wrap_i64 (by omega) (by omega)];omega
 have wu:IntKind.wrap .u64 (n:Int)=(n:Int):=a1H (by omega) (by omega)
 have w2:IntKind.wrap .i64 ((k:Int)*2)=((2*k:Nat):Int):=by rw [wrap_i64 (by omega) (by omega)];omega
 have w3:IntKind.wrap .i64 ((a:Int)+((2*k:Nat):Int))=((a+2*k:Nat):Int):=by rw [wrap_i64 (by omega) (by omega)];omega
 have w4:IntKind.wrap .i64 (((a+2*k:Nat):Int) - 1)=((a+2*k - 1:Nat):Int):=by rw [wrap_i64 (by omega) (by omega)];omega
 have w5:IntKind.wrap .i64 (((a+2*k:Nat):Int)+1)=((a+2*k+1:Nat):Int):=by rw [wrap_i64 (by omega) (by omega)];omega
 have g8:decide ((n:Int)≥8)=true:=decide_eq_true (by omega)
 rw [b6p]
 simp only [b3y,bs,a0n,w1,a0E,g8,a0b,if_true,a6W,wu,b9Y]
 have q0:(a1p g a0B 1 [[.int .u64 0]])[g.length]?=some (.row a0B 1 [[.int .u64 0]]):=a2K _ _ _ _
 have l0:(a1p g a0B 1 [[.int .u64 0]]).length=g.length+1:=a5c _ _ _ _
 have k0:∀ q,q<g.length→(a1p g a0B 1 [[.int .u64 0]])[q]?=g[q]?:=fun q hq=>a2L _ _ _ _ hq
 refine a3J (kk:=0) (off:=0) q0 (row:=[.int .u64 0]) (by rfl) (by rfl) (by simp) (by rfl) fun g1 p1 s1=>?_
 replace p1:g1[g.length]?=some (.row a0B 1 [[.int .u64 (n:Int)]]):=p1
 obtain ⟨m,em,m1,m2⟩:=b4W n (by omega) (by omega) g1
 have wm:IntKind.wrap .u64 ((m:Int) - 1)=((m - 1:Nat):Int):=by rw [a1H (by omega) (by omega)];omega
 simp only [bs,em,a1B,show ¬ (4:Int)=0 by omega,if_false,wq,a1A,w2,a0k,w3,a0n,w4,b9Y]
 refine Wp.loop (fun j ds g'=>∃ x1 x2 x3,∃ i:Nat,∃ s:Int,∃ l',ds=[.int .i64 (i:Int),x1,x2,x3]∧j+i=a+2*k+2∧a+2*k - 1≤i∧g'[o]?=some (.row a0d 2 (l'.map prr))∧g'[g.length]?=some (.row a0B 1 [[.int .u64 s]])∧Seg a b l l'∧Grow g.length o g g')
  (fun r=>r.1 = .ext 0∧∃ l',r.2.2[o]?=some (.row a0d 2 (l'.map prr))∧Seg a b l l'∧Grow g.length o g r.2.2) 3 ⟨_,_,_,a+2*k - 1,(n:Int),l,rfl,by omega,Nat.le_refl _,by rw [s1.2 o (by omega),k0 o ho'];exact ho,p1,.refl _ _ _,by have:=s1.1;omega,fun q hq hne=>by rw [s1.2 q (by omega),k0 q hq]⟩ ?_ ?_
 ·rintro j ds g' ⟨x1,x2,x3,i,s,l',rfl,hj,hi,ho2,hq2,sg,gr⟩
  have hl':=sg.len.trans hl
  have w6:=wi_ i (by omega)
  simp only [a6E,a0g,a0i,bs,a1B,show ¬ (4:Int)=0 by omega,if_false,wq,a1A,w2,a0k,w3,w5,a0O,b9Y]
  refine Wp.dif ?_ ?_
  ·intro h0
   have h0:i≤a+2*k+1:=by
    have:(i:Int)≤((a+2*k+1:Nat):Int):=by simpa using h0
    omega
   refine Wp.bind (b4X hq2) ?_
   rintro ⟨d,g3⟩ ⟨s',hd,hq3,sm3⟩
   simp only at hd hq3 sm3
   subst hd
   obtain ⟨v,hv,ev⟩:=b1f s' m m1 (by omega)
   have wv:IntKind.wrap .i64 (v:Int)=(v:Int):=wrap_i64 (by omega) (by omega)
   have ho3:g3[o]?=some (.row a0d 2 (l'.map prr)):=by rw [sm3.2 o (by omega)];exact ho2
   simp only [bs,a0n,wm,a6X,ev,a8m,wv,a0E,b9Y]
   refine Wp.bind (P:=fun r=>r.1 = .nrm∧r.2.2=g3∧∃ w:Nat,r.2.1=[.int .i64 (w:Int)]∧w<n) ?_ ?_
   ·by_cases hvn:v≥n
    ·have d0:decide ((v:Int)≥(n:Int))=true:=decide_eq_true (by omega)
     have w7:IntKind.wrap .i64 ((v:Int) - (n:Int))=((v - n:Nat):Int):=by rw [wrap_i64 (by omega) (by omega)];omega
     simp only [d0,a0b,if_true,a0n,w7,bs]
     exact .some ⟨rfl,rfl,v - n,rfl,by omega⟩
    ·have d0:decide ((v:Int)≥(n:Int))=false:=decide_eq_false (by omega)
     simp only [d0,a0b,b9Z,if_false]
     exact .some ⟨rfl,rfl,v,rfl,by omega⟩
   ·rintro ⟨ex,ds2,g4⟩ ⟨rfl,rfl,w,hds,hw⟩
    simp only at hds
    subst hds
    have w8:IntKind.wrap .i64 ((a:Int)+(w:Int))=((a+w:Nat):Int):=by rw [wrap_i64 (by omega) (by omega)];omega
    obtain ⟨x,hx⟩:∃ x,l'[i]?=some x:=⟨_,c0l (by omega)⟩
    obtain ⟨y,hy⟩:∃ y,l'[a+w]?=some y:=⟨_,c0l (by omega)⟩
    simp only [a0p,a0g,a0k,w8,bs,adP (show i<N by omega),adP (show a+w<N by omega),a0P ho3 hx,a0P ho3 hy,b9Y]
    refine swP ho3 hx hy fun g5 p5 s5=>?_
    simp only [bs,a0k,w6]
    exact .some (.inl ⟨rfl,j - 1,by omega,_,_,_,i+1,s',_,rfl,by omega,by omega,p5,by rw [s5.2 _ (by omega)];exact hq3,sg.trans (a1l hx hy (by omega) (by omega) (by omega) (by omega)),gr.trans ⟨by show g'.length≤g5.length;have:=s5.1;have:=sm3.1;omega,fun q hq hne=>by show g5[q]?=g'[q]?;rw [s5.2 q hne,sm3.2 q (by omega)]⟩⟩)
  ·intro h0
   exact .some (.inr ⟨by simp,rfl,l',ho2,sg,gr⟩)
 ·rintro ⟨ex,ds,g2⟩ ⟨rfl,l2,p2,sg,gr⟩
  simp only at p2 gr
  simp only [a0o,a1j,bs]
  obtain ⟨e1,e2,e3⟩:=a4k (d:=a0s []) (d':=a0s []) (by rfl) (.tup _ fun d hd=>by cases hd) gr (fun T sz rows hr row hrow d hd=>by
   rw [p2] at hr
   injection hr with hr
   injection hr with _ _ hr
   subst hr
   obtain ⟨x,_,rfl⟩:=c0t.1 hrow
   exact b2B _ x d hd)
  rw [e1]
  exact .some ⟨l2,by rw [e3 o ho'];exact p2,sg,e2⟩
theorem Low.pre {α:Type} {c:α→α→Int} {a m b:Nat} {l l':List α} (h:Low c (m+1) b l) (s:Seg a m l l'):Low c (m+1) b l':=fun i j x y h1 h2 h3 hx hy=>by
 rw [s.out j (by omega)] at hy
 by_cases hi:a≤i∧i<m
 ·exact (AllIn.seg (Q:=fun x=>c x y<0) (fun k z z1 z2 hz=>h k j z y (by omega) h2 h3 hz hy) s) i x hi.1 hi.2 hx
 ·rw [s.out i (by omega)] at hx
  exact h i j x y h1 h2 h3 hx hy
theorem Low.post {α:Type} {c:α→α→Int} {a m p b:Nat} {l l':List α} (h:Low c a m l) (s:Seg p b l l') (hp:a≤p) (hm:m≤p):Low c a m l':=fun i j x y h1 h2 h3 hx hy=>by
 rw [s.out j (by omega)] at hy
 rw [s.out i (by omega)] at hx
 exact h i j x y h1 h2 h3 hx hy
theorem a9K {α:Type} {c:α→α→Int} {l:List α} (h:Srt c 0 l.length l):l.Pairwise fun x y=>¬ c y x<0 :=
 List.pairwise_iff_getElem.2 fun i j hi hj hij=>h i j _ _ (Nat.zero_le _) hij hj (c0l hi) (c0l hj)
theorem b5f {c:Pr→Pr→Int} (od:CmO c) {cmp:D} (hcmp:CmpFP cmp c) {o N:Nat} (hN:N≤1000000) {g:Hp} {l:List Pr} (hl:l.length=N) (ho:g[o]?=some (.row a0d 2 (l.map prr))) (a b:Nat) (hab:a≤b) (hb:b≤N) :
  Wp (R a3y [.msl 2 o 0 N,.int .i64 (a:Int),.int .i64 (b:Int),cmp] g) fun p=>∃ l',p.2[o]?=some (.row a0d 2 (l'.map prr))∧Seg a b l l'∧Srt c a b l'∧Same o g p.2:=by
 have e:=a7C l hab
 rw [← List.append_assoc] at e
 have h1:(l.take a).length=a:=by rw [c0q];omega
 have h2:((l.take b).drop a).length=b - a:=by rw [c0p,c0q];omega
 obtain ⟨⟨d,g'⟩,e1,C,q1,q2,q3,q4⟩:=b2n od.od hcmp (g:=g) (o:=o) (N:=N) (P:=l.take a) (A:=(l.take b).drop a) (Q:=l.drop b) (by omega) (by rw [← e];exact hl) (List.pairwise_of_forall fun _ _=>trivial) (by rw [← e];exact ho) (a:Int) (b:Int) (by rw [h1]) (by rw [h1,h2];omega)
 refine ⟨(d,g'),e1,_,q3,?_,?_,q4⟩
 ·have:=a9D (P:=l.take a) (Q:=l.drop b) q1
  rw [← e,h1,h2,show a+(b - a)=b by omega] at this
  exact this
 ·have:=b1F (c:=c) (P:=l.take a) (Q:=l.drop b) q2
  rw [q1.length_eq,h1,h2,show a+(b - a)=b by omega] at this
  exact this
theorem b1h (wb wp:Bool) (t:Int) (F:D→Option Out):((gd (.bool wb) true (some (.bool wp))).bind fun t70=>(a0S (.bool wb) t70 (.bool false)).bind fun t71=>(gd t71 true (some (.int .i64 t))).bind fun t73=>(gd t71 true (a0h tab .eql a6d t73 (.int .i64 1))).bind fun t74=>(a0S t71 t74 (.bool false)).bind F)=F (.bool (wb&&wp&&decide (t=1))):=by
 cases wb <;> cases wp <;> simp [-bind_some]
theorem b7s {c:Pr→Pr→Int} (od:CmO c) {cmp:D} (hcmp:CmpFP cmp c) {o N:Nat} (hN:N≤60000):∀ (n:Nat) (g:Hp) (l:List Pr) (a b:Nat) (lim:Int),b - a=n→l.length=N→g[o]?=some (.row a0d 2 (l.map prr))→a≤b→b≤N→Low c a b l→Nd c l →
  Wp (R a4a [.msl 2 o 0 N,.int .i64 (a:Int),.int .i64 (b:Int),.int .i64 lim,cmp] g) fun p=>∃ l',p.2[o]?=some (.row a0d 2 (l'.map prr))∧Seg a b l l'∧Srt c a b l'∧Same o g p.2:=by
 intro n
 induction n using Nat.strongRecOn with
 | _ n ih =>
  intro g l a b lim hn hl ho hab hb lw nd
  rw [b4h]
  simp only [b1M,bs,b9Y]
  refine Wp.loop (fun k ds g'=>∃ a' b':Nat,∃ lim':Int,∃ wb wp:Bool,∃ x5 x6 x7 x8 x9 y0 y1 y2 y3 y4 y5 y6 y7 y8 y9 z0 z1,∃ l',ds=[.int .i64 (a':Int),.int .i64 (b':Int),.int .i64 lim',.bool wb,.bool wp,x5,x6,x7,x8,x9,y0,y1,y2,y3,y4,y5,y6,y7,y8,y9,z0,z1]∧k=b' - a'∧a≤a'∧a'≤b'∧b'≤b∧g'[o]?=some (.row a0d 2 (l'.map prr))∧Seg a b l l'∧Low c a' b' l'∧Out2 c a b a' b' l'∧Same o g g')
   (fun r=>r.1 = .ret∧∃ l',r.2.2[o]?=some (.row a0d 2 (l'.map prr))∧Seg a b l l'∧Srt c a b l'∧Same o g r.2.2) (b - a)
   ⟨a,b,lim,true,true,_,_,_,_,_,_,_,_,_,_,_,_,_,_,_,_,_,l,rfl,rfl,Nat.le_refl _,hab,Nat.le_refl _,ho,.refl _ _ _,lw,fun i j x y h1 h2 h3 h4=>absurd ⟨h1,h3⟩ h4,.refl _ _⟩ ?_ ?_
  ·rintro k ds g' ⟨a',b',lim',wb,wp,x5,x6,x7,x8,x9,y0,y1,y2,y3,y4,y5,y6,y7,y8,y9,z0,z1,l',rfl,rfl,ha,hab',hbb,ho',sg,lw',out,sm⟩
   have hl':=sg.len.trans hl
   have wlen:IntKind.wrap .i64 ((b':Int) - (a':Int))=((b' - a':Nat):Int):=by rw [wrap_i64 (by omega) (by omega)];omega
   simp only [a4q,a0g,a0i,bs,b9Y,a0n,wlen,a0O]
   by_cases h12:b' - a'≤12
   ·have d0:decide (((b' - a':Nat):Int)≤12)=true:=decide_eq_true (by omega)
    simp only [d0,a0b,if_true,bs,b9Y]
    refine Wp.bind (b5f od hcmp (by omega) hl' ho' a' b' hab' (by omega)) ?_
    rintro ⟨d,g2⟩ ⟨l2,p2,s2,st2,m2⟩
    exact .some (.inr ⟨by simp,rfl,l2,p2,sg.trans (s2.mono ha hbb),(out.seg s2 ha hbb).all st2,sm.trans m2⟩)
   ·have d0:decide (((b' - a':Nat):Int)≤12)=false:=decide_eq_false (by omega)
    simp only [d0,a0b,b9Z,if_false,bs,a1z,b9Y]
    by_cases hlim:lim'=0
    ·simp only [hlim,decide_true,a0b,if_true,bs,b9Y]
     refine Wp.bind (b7u od hcmp (by omega) hl' ho' a' b' (by omega) (by omega)) ?_
     rintro ⟨d,g2⟩ ⟨l2,p2,s2,st2,m2⟩
     exact .some (.inr ⟨by simp,rfl,l2,p2,sg.trans (s2.mono ha hbb),(out.seg s2 ha hbb).all st2,sm.trans m2⟩)
    ·simp only [hlim,decide_false,a0b,b9Z,if_false,bs,a0Y,b9Y]
     refine Wp.bind (P:=fun r=>r.1 = .nrm∧∃ (lim2:Int) (l2:List Pr),r.2.1=[.int .i64 lim2]∧r.2.2[o]?=some (.row a0d 2 (l2.map prr))∧Seg a' b' l' l2∧Same o g' r.2.2) ?_ ?_
     ·cases wb with
      | true =>
       simp only [c0g,a0b,b9Z,if_false]
       exact .some ⟨rfl,lim',l',rfl,ho',.refl _ _ _,.refl _ _⟩
      | false =>
       simp only [c0h,a0b,if_true]
       refine Wp.bind (b7v hN hl' ho' a' b' (by omega) (by omega) cmp) ?_
       rintro ⟨d,g2⟩ ⟨l2,p2,s2,m2⟩
       simp only [a0n,bs]
       exact .some ⟨rfl,_,l2,rfl,p2,s2,m2⟩
     ·rintro ⟨ex,ds1,g2⟩ ⟨rfl,lim2,l2,hds,p2,s2,m2⟩
      simp only at hds p2 m2
      subst hds
      have hl2:=s2.len.trans hl'
      obtain ⟨pv,t,e35,pv1,pv2⟩:=b7w hcmp (by omega) hl2 p2 a' b' (by omega) (by omega)
      simp only [a0p,a0g,a0i,e35,bs,a0K,c0a,c0b,a1z,b9Y]
      refine Wp.bind (P:=fun r=>r.1 = .nrm∧∃ (pv:Nat) (t:Int) (l3:List Pr),r.2.1=[.int .i64 (pv:Int),.int .i64 t]∧a'≤pv∧pv<b'∧r.2.2[o]?=some (.row a0d 2 (l3.map prr))∧Seg a' b' l2 l3∧Same o g2 r.2.2) ?_ ?_
      ·by_cases h2:t=2
       ·have w1:IntKind.wrap .i64 ((b':Int) - 1)=((b' - 1:Nat):Int):=by rw [wrap_i64 (by omega) (by omega)];omega
        have w2:IntKind.wrap .i64 ((pv:Int) - (a':Int))=((pv - a':Nat):Int):=by rw [wrap_i64 (by omega) (by omega)];omega
        have w3:IntKind.wrap .i64 (((b' - 1:Nat):Int) - ((pv - a':Nat):Int))=((b' - 1 - (pv - a'):Nat):Int):=by rw [wrap_i64 (by omega) (by omega)];omega
        simp only [h2,decide_true,a0b,if_true]
        refine Wp.bind (b7x (by omega) hl2 p2 a' b' (by omega) (by omega) cmp) ?_
        rintro ⟨d,g3⟩ ⟨l3,p3,s3,m3⟩
        simp only [a0n,w1,w2,w3,bs]
        exact .some ⟨rfl,b' - 1 - (pv - a'),1,l3,rfl,by omega,by omega,p3,s3,m3⟩
       ·simp only [h2,decide_false,a0b,b9Z,if_false]
        exact .some ⟨rfl,pv,t,l2,rfl,pv1,pv2,p2,.refl _ _ _,.refl _ _⟩
      ·rintro ⟨ex,ds2,g3⟩ ⟨rfl,pv,t,l3,hds,pv1,pv2,p3,s3,m3⟩
       simp only at hds p3 m3
       subst hds
       have hl3:=s3.len.trans hl2
       simp only [a0p,a0g,a0i,b1h,b9Y]
       refine Wp.bind (P:=fun r=>(r.1 = .nrm∧∃ x l4,r.2.1=[x]∧r.2.2[o]?=some (.row a0d 2 (l4.map prr))∧Seg a' b' l3 l4∧Same o g3 r.2.2)∨(r.1 = .ret∧∃ x l4,r.2.1=[x]∧r.2.2[o]?=some (.row a0d 2 (l4.map prr))∧Seg a' b' l3 l4∧Srt c a' b' l4∧Same o g3 r.2.2)) ?_ ?_
       ·cases (wb&&wp&&decide (t=1)) with
        | false =>
         simp only [a0b,b9Z,if_false]
         exact .some (.inl ⟨rfl,_,l3,rfl,p3,.refl _ _ _,.refl _ _⟩)
        | true =>
         simp only [a0b,if_true]
         refine Wp.bind (b7y od hcmp (by omega) hl3 p3 a' b' (by omega) (by omega) (lw'.seg (s2.trans s3))) ?_
         rintro ⟨d,g4⟩ ⟨bb,l4,hd,p4,s4,st4,m4⟩
         simp only at hd p4 m4
         subst hd
         cases bb with
         | true =>
          simp only [a0b,if_true]
          exact .some (.inr ⟨rfl,_,l4,rfl,p4,s4,st4 rfl,m4⟩)
         | false =>
          simp only [a0b,b9Z,if_false]
          exact .some (.inl ⟨rfl,_,l4,rfl,p4,s4,m4⟩)
       ·rintro ⟨ex,ds3,g4⟩ (⟨rfl,x,l4,hds,p4,s4,m4⟩ | ⟨rfl,x,l4,hds,p4,s4,st4,m4⟩)
        ·simp only at hds p4 m4
         subst hds
         have hl4:=s4.len.trans hl3
         have sgA:=(s2.trans s3).trans s4
         have lw4:=lw'.seg sgA
         obtain ⟨v,hv⟩:∃ v,l4[pv]?=some v:=⟨_,c0l (by omega)⟩
         have h0:decide ((a':Int)>0)=false∨(decide ((a':Int)>0)=true∧∃ u,l4[a' - 1]?=some u∧c u v<0∧IntKind.wrap .i64 ((a':Int) - 1)=((a' - 1:Nat):Int)∧a' - 1<N):=by
          by_cases hh:0<a'
          ·obtain ⟨u,hu⟩:∃ u,l4[a' - 1]?=some u:=⟨_,c0l (by omega)⟩
           exact .inr ⟨decide_eq_true (by omega),u,hu,lw4 (a' - 1) pv u v (by omega) pv1 pv2 hu hv,by rw [wrap_i64 (by omega) (by omega)];omega,by omega⟩
          ·exact .inl (decide_eq_false (by omega))
         simp only [a0p,a0g,a0i,a1c]
         rcases h0 with dg | ⟨dg,u,hu,hcu,wa,hlt⟩
         all_goals
          simp only [dg,a0u,a0w,a1n,reduceCtorEq,b9Z,if_false,if_true,bs,a0n,a0l,a0b,b9Y]
          try simp only [wa,adP hlt,adP (show pv<N by omega),a0P p4 hu,a0P p4 hv,hcmp.ap,a0r,hcu,decide_true,a0Y,c0g,bs,a0l,a0b,b9Z,if_false,if_true,b9Y]
          refine Wp.bind (b7z od hcmp (by omega) hl4 p4 a' b' pv (by omega) pv1 pv2) ?_
          rintro ⟨d,g5⟩ ⟨m,dd,l5,hd,p5,s5,pt,m5⟩
          simp only at hd p5 m5
          subst hd
          have hl5:=s5.len.trans hl4
          have pl:=pt.lo
          have ph:=pt.hi
          have sgB:=sgA.trans s5
          have sg5:=sg.trans (sgB.mono ha hbb)
          have lw5:=lw'.seg sgB
          have out5:=out.seg sgB ha hbb
          have nd5:Nd c l5:=nd.pm sg5.pm
          have sm5:=(((sm.trans m2).trans m3).trans m4).trans m5
          have w6:IntKind.wrap .i64 ((m:Int) - (a':Int))=((m - a':Nat):Int):=by rw [wrap_i64 (by omega) (by omega)];omega
          have w7:IntKind.wrap .i64 ((b':Int) - (m:Int))=((b' - m:Nat):Int):=by rw [wrap_i64 (by omega) (by omega)];omega
          have w8:=wi_ m (by omega)
          simp only [bs,a0K,c0a,c0b,a0n,w6,w7,a1B,show ¬ (8:Int)=0 by omega,if_false,a0r,b9Y]
          by_cases hlr:m - a'<b' - m
          ·have d2:decide (((m - a':Nat):Int)<((b' - m:Nat):Int))=true:=decide_eq_true (by omega)
           simp only [d2,a0b,if_true,a0E,bs,b9Y]
           refine Wp.bind (ih (m - a') (by omega) g5 l5 a' m lim2 rfl hl5 p5 pl (by omega) (lw5.lft pt) nd5) ?_
           rintro ⟨d,g6⟩ ⟨l6,p6,s6,st6,m6⟩
           simp only [bs,a0k,w8,a1b,a0g,a0i]
           exact .some (.inl ⟨rfl,b' - (m+1),by omega,m+1,b',lim2,_,dd,_,_,_,_,_,_,_,_,_,_,_,_,_,_,_,_,_,l6,rfl,rfl,by omega,by omega,hbb,p6,sg5.trans (s6.mono ha (by omega)),(lw5.rgt od pt nd5 (by omega)).pre s6,out5.left od pt (by omega) s6 st6 ha hbb,sm5.trans m6⟩)
          ·have d2:decide (((m - a':Nat):Int)<((b' - m:Nat):Int))=false:=decide_eq_false (by omega)
           simp only [d2,a0b,b9Z,if_false,a0E,a0k,w8,bs,b9Y]
           refine Wp.bind (ih (b' - (m+1)) (by omega) g5 l5 (m+1) b' lim2 rfl hl5 p5 (by omega) (by omega) (lw5.rgt od pt nd5 (by omega)) nd5) ?_
           rintro ⟨d,g6⟩ ⟨l6,p6,s6,st6,m6⟩
           simp only [bs,a1b,a0g,a0i]
           exact .some (.inl ⟨rfl,m - a',by omega,a',m,lim2,_,dd,_,_,_,_,_,_,_,_,_,_,_,_,_,_,_,_,_,l6,rfl,rfl,ha,pl,by omega,p6,sg5.trans (s6.mono (by omega) hbb),(lw5.lft pt).post s6 (by omega) (by omega),out5.right od pt (by omega) s6 st6 ha hbb,sm5.trans m6⟩)
        ·simp only at hds p4 m4
         subst hds
         have sgA:=(s2.trans s3).trans s4
         simp only [a1L,a0Q,a0g,a0i,bs]
         exact .some (.inr ⟨by simp,rfl,l4,p4,sg.trans (sgA.mono ha hbb),(out.seg sgA ha hbb).all st4,((sm.trans m2).trans m3).trans m4⟩)
  ·rintro ⟨ex,ds,g'⟩ ⟨rfl,l',h1,h2,h3,h4⟩
   simp only [a0Q,a1r]
   exact .some ⟨l',h1,h2,h3,h4⟩
end Go.Proofs.YtkpnnfhodlanjaaDoor

/- Append and copy. No program is named here. -/
import Derived.Test.YtkpnnfhodlanjaaGreatDoorPiK
set_option linter.unusedSimpArgs false
set_option linter.unusedVariables false
set_option linter.unnecessarySimpa false
namespace Go.Pi
open Go.Eng
section ap
variable {P:Program} {T:Tab} {g:Gh} {h:Hp}
structure Takes (P:Program) (u e sz:Nat) (y:Value) (w:World) (m:Nat) (news:List Value):Prop where
 len:news.length=m*sz
 nz:∃ d,P.underlying u=some d∧((d = .string∨(∃ e',d = .slice e'))∧(∀ w1,(Builtin.lenOf y).run P w1 = .ok m w1)∧(∀ (k:Nat) (w1:World),k≤m→w1.heap=w.heap→(Builtin.firstCells sz k y).run P w1 = .ok (news.take (k*sz)).toArray w1)
  ∨ (∃ k,d = .int k)∧y = .int .i64 (m:Int)∧(∃ inf z,P.info? e=some inf∧inf.zero=some z∧m*inf.bytes≤281474976710656∧(m:Int)≤9223372036854775807∧(m*sz≠0→Builtin.zeroCells z.cells m=news.toArray)))
theorem a3d {u e sz m n cap:Nat} {t ty:TypeId} {y:Value} {w:World} {news:List Value} {ad:Addr} {inf:TypeInfo} (ht:P.underlying t=some (.slice e)) (hi:P.info? e=some inf) (hs:inf.size=sz) (hk:Takes P u e sz y w m news) (hr:n+m≤cap) :
  (Builtin.append_ #[t,u] ty #[.slice (some ad) n cap,y]).run P w=((storeCells (ad.add (n*sz)) news).run P w).andThen fun _ w' => .ok (.slice (some ad) (n+m) cap) w':=by
 subst hs
 obtain ⟨d,hu,hc⟩:=hk.nz
 rcases hc with ⟨hd,h1,h2⟩ | ⟨⟨k,hd⟩,rfl,inf',z,hi',hz,hb,h63,hzc⟩
 ·have h2:=h2 _ w (Nat.le_refl _) rfl
  rw [List.take_of_length_le (by rw [hk.len];exact Nat.le_refl _)] at h2
  rcases hd with rfl | ⟨e',rfl⟩ <;> simp [Builtin.append_,run_underlying ht,run_underlying hu,sizeOf,typeInfo,hi,h1,hr,h2]
 ·subst hd
  rw [hi] at hi'
  injection hi' with hi'
  subst hi'
  have hw:IntKind.i64.wrap (m:Int)=m:=a5l (by omega) (by omega)
  have hb':¬ ((m:Int)*(inf.bytes:Int)>2 ^ 48):=by
   have:(m:Int)*(inf.bytes:Int)=((m*inf.bytes:Nat):Int):=by push_cast;rfl
   rw [this];omega
  have hb'':¬ (281474976710656<(m:Int)*(inf.bytes:Int)):=by omega
  have hneg:¬ ((m:Int)<0):=by omega
  by_cases h0:m*inf.size=0
  ·have hn0:news=[]:=List.eq_nil_of_length_eq_zero (by rw [hk.len];exact h0)
   subst hn0
   simp [Builtin.append_,run_underlying ht,run_underlying hu,sizeOf,typeInfo,hi,asInt,asIntOf,hw,hneg,hb'',hr,h0,storeCells]
  ·have hzc:=hzc h0
   simp [Builtin.append_,run_underlying ht,run_underlying hu,sizeOf,typeInfo,hi,asInt,asIntOf,hw,hneg,hb'',hr,h0,zeroValue,hz,hzc]
theorem a3c {u e sz m n cap:Nat} {t ty:TypeId} {y:Value} {w:World} {olds news:List Value} {a:Option Addr} {inf:TypeInfo} {z:Value} (ht:P.underlying t=some (.slice e)) (hi:P.info? e=some inf) (hz:inf.zero=some z) (hs:inf.size=sz) (hk:Takes P u e sz y w m news) (hr:cap<n+m)
  (ho:∀ w1:World,w1.heap=w.heap→(Builtin.firstCells sz n (.slice a n cap)).run P w1 = .ok olds.toArray w1) (h63:n+m≤9223372036854775807) (hb:(n+m)*inf.bytes≤140737488355328) :
  ∃ c,n+m≤c∧c≤9223372036854775807∧(Builtin.append_ #[t,u] ty #[.slice a n cap,y]).run P w = .ok (.slice (some ⟨w.heap.size,0,none⟩) (n+m) c) (w.drew.alloc (.cells (olds.toArray++news.toArray++Builtin.zeroCells z.cells (c - (n+m))) e)):=by
 subst hs
 obtain ⟨d,hu,hc⟩:=hk.nz
 have hfit:=growslice_fits hr hb
 have hfit':¬ (281474976710656<Builtin.nextslicecap (n+m) cap*inf.bytes):=by omega
 have h63':¬ (9223372036854775807<((n:Int)+(m:Int))):=by omega
 have hr':¬ (n+m≤cap):=by omega
 have hcut:n+m≤grownCap w (n+m) cap e∧grownCap w (n+m) cap e≤9223372036854775807:=by
  show n+m≤(n+m)+w.tape w.drawn (.appendCap (n+m) cap e) % (2 ^ 63 - (n+m))∧(n+m)+w.tape w.drawn (.appendCap (n+m) cap e) % (2 ^ 63 - (n+m))≤9223372036854775807
  have hp:0<2 ^ 63 - (n+m):=by omega
  have:=Nat.mod_lt (w.tape w.drawn (.appendCap (n+m) cap e)) hp
  generalize w.tape w.drawn (.appendCap (n+m) cap e) % (2 ^ 63 - (n+m))=q at this
  omega
 refine ⟨grownCap w (n+m) cap e,hcut.1,hcut.2,?_⟩
 have ho1:=ho w.drew rfl
 rcases hc with ⟨hd,h1,h2⟩ | ⟨⟨k,hd⟩,rfl,inf',z',hi',hz',hb',h63'',hzc⟩
 ·have h2:=h2 _ w.drew (Nat.le_refl _) rfl
  rw [List.take_of_length_le (by rw [hk.len];exact Nat.le_refl _)] at h2
  rcases hd with rfl | ⟨e',rfl⟩ <;> simp [Builtin.append_,run_underlying ht,run_underlying hu,sizeOf,typeInfo,zeroValue,hi,hz,h1,hr',h63',hfit',Question.forced,ho1,h2,newRow,grownCap] <;> (rw [← Array.append_assoc];simp)
 ·subst hd
  rw [hi] at hi'
  injection hi' with hi'
  subst hi'
  rw [hz] at hz'
  injection hz' with hz'
  subst hz'
  have hw:IntKind.i64.wrap (m:Int)=m:=a5l (by omega) (by omega)
  have hb2:¬ (281474976710656<(m:Int)*(inf.bytes:Int)):=by
   have:(m:Int)*(inf.bytes:Int)=((m*inf.bytes:Nat):Int):=by push_cast;rfl
   rw [this];omega
  have hneg:¬ ((m:Int)<0):=by omega
  by_cases h0:m*inf.size=0
  ·have hn0:news=[]:=List.eq_nil_of_length_eq_zero (by rw [hk.len];exact h0)
   subst hn0
   simp [Builtin.append_,run_underlying ht,run_underlying hu,sizeOf,typeInfo,zeroValue,hi,hz,asInt,asIntOf,hw,hneg,hb2,hr',h63',hfit',Question.forced,ho1,h0,newRow,grownCap]
  ·have hzc:=hzc h0
   simp [Builtin.append_,run_underlying ht,run_underlying hu,sizeOf,typeInfo,zeroValue,hi,hz,asInt,asIntOf,hw,hneg,hb2,hr',h63',hfit',Question.forced,ho1,h0,hzc,newRow,grownCap]
   rw [← Array.append_assoc]
   simp
theorem a8a {u e sz n cap:Nat} {t ty:TypeId} {y:Value} {w:World} {news:List Value} {a:Option Addr} {inf:TypeInfo} (ht:P.underlying t=some (.slice e)) (hi:P.info? e=some inf) (hs:inf.size=sz) (hk:Takes P u e sz y w 0 news) (hr:n≤cap) :
  (Builtin.append_ #[t,u] ty #[.slice a n cap,y]).run P w = .ok (.slice a n cap) w:=by
 cases a with
 | some ad =>
  rw [a3d ht hi hs hk hr]
  have:news=[]:=List.eq_nil_of_length_eq_zero (by rw [hk.len];simp)
  subst this
  simp [storeCells]
 | none =>
  subst hs
  have hn0:news=[]:=List.eq_nil_of_length_eq_zero (by rw [hk.len];simp)
  subst hn0
  obtain ⟨d,hu,hc⟩:=hk.nz
  rcases hc with ⟨hd,h1,h2⟩ | ⟨⟨k,hd⟩,rfl,inf',z,hi',hz,hb,h63,hzc⟩
  ·have h2:=h2 _ w (Nat.le_refl _) rfl
   rw [List.take_of_length_le (by rw [hk.len];exact Nat.le_refl _)] at h2
   rcases hd with rfl | ⟨e',rfl⟩ <;> simp [Builtin.append_,run_underlying ht,run_underlying hu,sizeOf,typeInfo,hi,h1,hr,h2]
  ·subst hd
   have hw:IntKind.i64.wrap (((0:Nat):Int))=0:=a5l (by omega) (by omega)
   simp only [Int.natCast_zero] at hw
   have hw':IntKind.i64.wrap 0=0:=by simpa using hw
   simp [Builtin.append_,run_underlying ht,run_underlying hu,sizeOf,typeInfo,hi,asInt,asIntOf,hw',hr]
theorem a3I (s:List UInt8):RepL g (s.map fun b=>Value.int .u8 b.toNat) (a1E s).flatten:=by
 unfold a1E
 induction s with
 | nil=>simpa using RepL.nil
 | cons c r ih=>simpa using RepL.cons (.int .u8 c.toNat) ih
theorem b3f (hT:TabOK P T) (hi:Inv g h) {u e:Nat} {iu j:TI} (hu:T u=some iu) (hj:T e=some j) {y:Value} {dy:D} (hy:Rep g y dy) {ys:List (List D)} (hd:b5p h iu j dy=some ys) (hpos:0<j.sz) :
  ∃ news,Takes P u e j.sz y g.w ys.length news∧RepL g news ys.flatten∧(∀ v∈news,v.oneCell'=true)∧(∀ r∈ys,r.length=j.sz):=by
 unfold b5p at hd
 split at hd
 ·rename_i htd
  split at hd
  ·rename_i s hjd
   split at hd
   ·rename_i hs1
    injection hd with hd
    subst hd
    have hyv:y = .string ⟨s.toArray⟩:=by cases hy;rfl
    subst hyv
    refine ⟨s.map fun b=>Value.int .u8 b.toNat,⟨by simp [a1E,hs1],.string,hT.str hu htd,.inl ⟨.inl rfl,fun w1=>by simp [Builtin.lenOf,a1E,a2I],fun k w1 hk _=>?_⟩⟩,a3I s,fun v hv=>?_,fun r hr=>?_⟩
    ·simp only [Builtin.firstCells]
     have:(ByteArray.mk s.toArray).extract 0 k=ByteArray.mk (s.take k).toArray:=by
      apply ByteArray.ext
      simp
     simp [this,hs1,List.map_take]
    ·obtain ⟨b,_,rfl⟩:=c9k.1 hv
     rfl
    ·obtain ⟨b,_,rfl⟩:=c9k.1 hr
     simp [hs1]
   ·cases hd
  ·cases hd
 ·rename_i e' htd
  obtain ⟨a,cap,news,rfl,hrl,hnl,hrep,h1,hat⟩:=a5g hi hy hd hpos
  refine ⟨news,⟨hnl,.slice e',hT.sl hu htd,.inl ⟨.inr ⟨e',rfl⟩,fun w1=>by simp [Builtin.lenOf],fun k w1 hk hw1=>?_⟩⟩,hrep,h1,hrl⟩
  cases a with
  | none =>
   have hne:ys=[]:=by
    rcases ys with _ | ⟨r0,rr⟩
    ·rfl
    ·obtain ⟨b,o,hh,_⟩:=hat (by simp)
     cases hh
   subst hne
   have:news=[]:=List.eq_nil_of_length_eq_zero (by simpa using hnl)
   subst this
   simp [Builtin.firstCells]
  | some ad =>
   refine run_firstCells_some w1 j.sz k ad _ cap (news.take (k*j.sz)) (by
    have:k*j.sz≤ys.length*j.sz:=Nat.mul_le_mul_right _ hk
    simp;omega) fun q v hq=>?_
   rw [List.getElem?_take] at hq
   split at hq
   case isFalse=>cases hq
   have hne:ys≠[]:=fun hh=>by
    subst hh
    have:news=[]:=List.eq_nil_of_length_eq_zero (by simpa using hnl)
    subst this
    cases hq
   obtain ⟨b,o,hh,hat2⟩:=hat hne
   injection hh with hh
   rw [hh,Addr.add_lit]
   have:=hat2.1 q v hq
   have hc:w1.cell? ⟨b,o+q,none⟩=g.w.cell? ⟨b,o+q,none⟩:=World.cell?_of_block (by rw [hw1])
   rw [hc];exact this
 ·rename_i k htd
  split at hd
  ·rename_i n
   split at hd
   ·rename_i hc
    obtain ⟨h0,hlim⟩:=hc
    injection hd with hd
    subst hd
    simp only [lim,Bool.and_eq_true] at hlim
    have hl1:=Nat.le_of_ble_eq_true hlim.1
    have hl2:=Nat.le_of_ble_eq_true hlim.2
    obtain ⟨inf,ud,z,q1,q2,q3,rfl,q5,q6,_⟩:=hT.get hj
    simp only at hpos hl1
    have hzl:z.cells.toList.length=inf.size:=by simpa using q5
    have hr:=a1x g z.cells.toList
    have hyv:y = .int .i64 ((n.toNat:Nat):Int):=by
     have:((n.toNat:Nat):Int)=n:=by omega
     rw [this]
     cases hy;rfl
    refine ⟨(List.replicate n.toNat z.cells.toList).flatten,⟨by simp [hzl],.int k,hT.int hu htd,.inr ⟨⟨k,rfl⟩,by simpa using hyv,inf,z,q1,q3,by simp;omega,by simp;omega,fun _=>?_⟩⟩,a1N hr _,fun v hv=>?_,fun r hr=>?_⟩
    ·have:=a3y hzl n.toNat
     simp only [List.length_replicate]
     rw [← this]
    ·obtain ⟨l,hl,hv⟩:=List.mem_flatten.1 hv
     have:=(List.mem_replicate.1 hl).2
     subst this
     exact q6 v hv
    ·have:=(List.mem_replicate.1 hr).2
     subst this
     simpa using hzl
   ·cases hd
  ·cases hd
 ·cases hd
end ap
end Go.Pi

/- Operations at the types of this seat. -/
import Derived.Test.YthaajlepgblimaaGreatDoorC2
import Derived.Test.YthaajlepgblimaaGreatDoorPiZ
set_option linter.unusedSimpArgs false
set_option linter.unusedVariables false
set_option linter.unnecessarySimpa false
set_option maxRecDepth 20000
set_option maxHeartbeats 2000000
namespace Go.Proofs.YthaajlepgblimaaGreatDoor
open Go.Eng Go.Pi
@[simp] theorem b4S {α:Type} {f:α→List D} {l:List α} {d:D} (h:SlOf 3 f l d):a0t tab a1V d=some (.int .i64 l.length) := 
 by
  rcases h with ⟨rfl,rfl⟩ | ⟨b,rfl⟩
  ·rfl
  ·show some (D.int .i64 ((l.map f).length:Nat))=_;simp
theorem c1l {h:Hp} {n0 e z:Nat} {rows:List (List D)} {d:D} (hd:Own h n0 e z rows d):a0t tab a1V d=some (.int .i64 rows.length):=by
 rcases hd with ⟨rfl,rfl⟩ | ⟨o,_,rfl,_⟩ <;> rfl
@[simp] theorem a4F (h:Hp) (o k f:Nat):a0c tab h a0n (.ptr o k f)=(h.row o k).bind fun row=>a8u 2 (row.drop f):=by show (match h.row o k with | some row=>_ | none=>none)=_;cases h.row o k <;> rfl
@[simp] theorem c8r (f:Bool) (rows:List (List D)) (i:Int):a0b tab a1V (.sl 3 f rows) (.int .i64 i)=if 0≤i then (rows[i.toNat]?).map .fptr else none:=by show (if 3=3∧0≤i then (match rows[i.toNat]? with | some row=>some (D.fptr row) | none=>none) else none)=_;by_cases h:0≤i <;> simp [h] <;> cases rows[i.toNat]? <;> rfl
@[simp] theorem c4j (o r n:Nat) (i:Int):a0b tab a1V (.msl 3 o r n) (.int .i64 i)=if 0≤i∧i<n then some (.ptr o (r+i.toNat) 0) else none:=by show (if 3=3∧0≤i∧i<n then some (D.ptr o (r+i.toNat) 0) else none)=_;simp
@[simp] theorem b7Z {α:Type} {f:α→List D} {l:List α} {d:D} (h:SlOf 3 f l d) (i:Int):a0b tab a1V d (.int .i64 i)=if 0≤i then (l[i.toNat]?).map fun p => .fptr (f p) else none := 
 by
  rcases h with ⟨rfl,rfl⟩ | ⟨b,rfl⟩
  ·show none=_;simp
  ·rw [c8r];simp [Function.comp_def]
@[simp] theorem a9X (h:Hp) (o k f:Nat):a0c tab h a0u (.ptr o k f)=(h.row o k).bind fun row=>a8u 3 (row.drop f):=by show (match h.row o k with | some row=>_ | none=>none)=_;cases h.row o k <;> rfl
theorem a4k {h:Hp} {o T sz kk off:Nat} {rows:List (List D)} {row:List D} {v:D} (ho:h[o]?=some (.row T sz rows)) (hr:rows[kk]?=some row) (hv:(a0B v).length=2) (hl:off+2≤row.length) (hk:v.okv=true) {β:Type} {f:Hp→Option β} {Q:β→Prop}
  (k:∀ h',h'[o]?=some (.row T sz (rows.set kk (spl row off (a0B v))))→Same o h h'→Wp (f h') Q):Wp ((a0p tab h a0n (.ptr o kk off) v).bind f) Q := 
 by rw [show a0p tab h a0n (.ptr o kk off) v=pSt 2 h (.ptr o kk off) v from rfl];exact a3j ho hr hv hl hk k
@[simp] theorem b8o {α:Type} {f:α→List D} {l:List α} {d:D} (h:SlOf 10 f l d):a0t tab a3f d=some (.int .i64 l.length) := 
 by
  rcases h with ⟨rfl,rfl⟩ | ⟨b,rfl⟩
  ·rfl
  ·show some (D.int .i64 ((l.map f).length:Nat))=_;simp
@[simp] theorem c8M (z o r n:Nat):a0t tab a3f (.msl z o r n)=some (.int .i64 n):=id rfl
@[simp] theorem c8Q:a0t tab a3f .nils=some (.int .i64 0):=id rfl
@[simp] theorem c3H  : a0U tab a0n [] []=some (.agg [.nils,.nils]):=id rfl
@[simp] theorem d9w (f:Bool) (rows:List (List D)) (i:Int):a0b tab a3f (.sl 10 f rows) (.int .i64 i)=if 0≤i then (rows[i.toNat]?).map .fptr else none:=by show (if 10=10∧0≤i then (match rows[i.toNat]? with | some row=>some (D.fptr row) | none=>none) else none)=_;by_cases h:0≤i <;> simp [h] <;> cases rows[i.toNat]? <;> rfl
@[simp] theorem d5l (o r n:Nat) (i:Int):a0b tab a3f (.msl 10 o r n) (.int .i64 i)=if 0≤i∧i<n then some (.ptr o (r+i.toNat) 0) else none:=by show (if 10=10∧0≤i∧i<n then some (D.ptr o (r+i.toNat) 0) else none)=_;simp
@[simp] theorem c8v {α:Type} {f:α→List D} {l:List α} {d:D} (h:SlOf 10 f l d) (i:Int):a0b tab a3f d (.int .i64 i)=if 0≤i then (l[i.toNat]?).map fun p => .fptr (f p) else none := 
 by
  rcases h with ⟨rfl,rfl⟩ | ⟨b,rfl⟩
  ·show none=_;simp
  ·rw [d9w];simp [Function.comp_def]
@[simp] theorem b8j (h:Hp) (o k f:Nat):a0c tab h a0y (.ptr o k f)=(h.row o k).bind fun row=>a8u 10 (row.drop f):=by show (match h.row o k with | some row=>_ | none=>none)=_;cases h.row o k <;> rfl
@[simp] theorem a1z {α:Type} {f:α→List D} {l:List α} {d:D} (h:SlOf 1 f l d):a0t tab a0L d=some (.int .i64 l.length) := 
 by
  rcases h with ⟨rfl,rfl⟩ | ⟨b,rfl⟩
  ·rfl
  ·show some (D.int .i64 ((l.map f).length:Nat))=_;simp
theorem c8R {h:Hp} {n0 e z:Nat} {rows:List (List D)} {d:D} (hd:Own h n0 e z rows d):a0t tab a0L d=some (.int .i64 rows.length):=by
 rcases hd with ⟨rfl,rfl⟩ | ⟨o,_,rfl,_⟩ <;> rfl
@[simp] theorem d9B (z:Nat) (f:Bool) (rows:List (List D)):a0t tab a0L (.sl z f rows)=some (.int .i64 rows.length):=id rfl
@[simp] theorem b8m (z o r n:Nat):a0t tab a0L (.msl z o r n)=some (.int .i64 n):=id rfl
@[simp] theorem d7p:a0t tab a0L .nils=some (.int .i64 0):=id rfl
@[simp] theorem c0Q (c0:D) (cs:List D):a0a tab a0u 0 (.fptr (c0::cs))=some (.fptr (c0::cs)):=id rfl
@[simp] theorem ld3 (c:D) (cs:List D) (h:Hp):a0c tab h ty3 (.fptr (c::cs))=some c:=id rfl
@[simp] theorem a6D (h:Hp) (o k f:Nat):a0c tab h ty3 (.ptr o k f)=(h.row o k).bind fun row=>(row.drop f).head?:=by show (match h.row o k with | some row=>_ | none=>none)=_;cases h.row o k <;> rfl
@[simp] theorem b3T (c0 c1 c2:D) (cs:List D):a0a tab a0u 2 (.fptr (c0::c1::c2::cs))=some (.fptr (c2::cs)):=id rfl
@[simp] theorem b0X (o k f:Nat):a0a tab a0u 2 (.ptr o k f)=some (.ptr o k (f+2)):=id rfl
@[simp] theorem a7W (c:D) (cs:List D) (h:Hp):a0c tab h a0S (.fptr (c::cs))=some c:=id rfl
@[simp] theorem c2B (h:Hp) (o k f:Nat):a0c tab h a0S (.ptr o k f)=(h.row o k).bind fun row=>(row.drop f).head?:=by show (match h.row o k with | some row=>_ | none=>none)=_;cases h.row o k <;> rfl
@[simp] theorem a4e {α:Type} {f:α→List D} {l:List α} {d:D} (h:SlOf 11 f l d):a0t tab a0S d=some (.int .i64 l.length) := 
 by
  rcases h with ⟨rfl,rfl⟩ | ⟨b,rfl⟩
  ·rfl
  ·show some (D.int .i64 ((l.map f).length:Nat))=_;simp
theorem c4z {h:Hp} {n0 e z:Nat} {rows:List (List D)} {d:D} (hd:Own h n0 e z rows d):a0t tab a0S d=some (.int .i64 rows.length):=by
 rcases hd with ⟨rfl,rfl⟩ | ⟨o,_,rfl,_⟩ <;> rfl
@[simp] theorem c2e (k:IntKind) (n:Int):a1m tab ty3 a3u (.int k n)=some (.int .u32 (IntKind.wrap .u32 n)):=id rfl
theorem b2Q {h:Hp} {n0:Nat} (hn0:n0≤h.length) {rows:List (List D)} {x y:D} (hx:Own h n0 ty5 1 rows x) {ys:List (List D)} (hy:a1a h 1 y=some ys) (hl:(rows.length+ys.length)*1≤140737488355328) {β:Type} {f:D × Hp→Option β} {Q:β→Prop}
  (k:∀ x' h',Own h' n0 ty5 1 (rows++ys) x'→h.length≤h'.length→(∀ q,q<n0→h'[q]?=h[q]?)→(∀ q,q<h.length→¬ x.inOb q→h'[q]?=h[q]?)→(∀ q,x'.inOb q→x.inOb q∨h.length≤q)→Wp (f (x',h')) Q):Wp ((a0q tab h a0L a0L x y).bind f) Q := 
 a5f (T:=tab) (i:=ti22) (j:=ti5) (id rfl) (id rfl) (id rfl) (by decide) hn0 hx hy (a2n hl (by omega)) k
@[simp] theorem d5k (f:Bool) (rows:List (List D)) (i:Int):a0b tab a0S (.sl 11 f rows) (.int .i64 i)=if 0≤i then (rows[i.toNat]?).map .fptr else none:=by show (if 11=11∧0≤i then (match rows[i.toNat]? with | some row=>some (D.fptr row) | none=>none) else none)=_;by_cases h:0≤i <;> simp [h] <;> cases rows[i.toNat]? <;> rfl
@[simp] theorem c8t (o r n:Nat) (i:Int):a0b tab a0S (.msl 11 o r n) (.int .i64 i)=if 0≤i∧i<n then some (.ptr o (r+i.toNat) 0) else none:=by show (if 11=11∧0≤i∧i<n then some (D.ptr o (r+i.toNat) 0) else none)=_;simp
@[simp] theorem a6T {α:Type} {f:α→List D} {l:List α} {d:D} (h:SlOf 11 f l d) (i:Int):a0b tab a0S d (.int .i64 i)=if 0≤i then (l[i.toNat]?).map fun p => .fptr (f p) else none := 
 by
  rcases h with ⟨rfl,rfl⟩ | ⟨b,rfl⟩
  ·show none=_;simp
  ·rw [d5k];simp [Function.comp_def]
@[simp] theorem b2y (h:Hp) (o k f:Nat):a0c tab h a0z (.ptr o k f)=(h.row o k).bind fun row=>a8u 11 (row.drop f):=by show (match h.row o k with | some row=>_ | none=>none)=_;cases h.row o k <;> rfl
theorem a6K {h:Hp} {o T sz kk off:Nat} {rows:List (List D)} {row:List D} {v:D} (ho:h[o]?=some (.row T sz rows)) (hr:rows[kk]?=some row) (hv:(a0B v).length=11) (hl:off+11≤row.length) (hk:v.okv=true) {β:Type} {f:Hp→Option β} {Q:β→Prop}
  (k:∀ h',h'[o]?=some (.row T sz (rows.set kk (spl row off (a0B v))))→Same o h h'→Wp (f h') Q):Wp ((a0p tab h a0z (.ptr o kk off) v).bind f) Q := 
 by rw [show a0p tab h a0z (.ptr o kk off) v=pSt 11 h (.ptr o kk off) v from rfl];exact a3j ho hr hv hl hk k
@[simp] theorem a2D (k:IntKind) (n:Int):a1m tab ty3 a1h (.int k n)=some (.int .u64 (IntKind.wrap .u64 n)):=id rfl
theorem b2S {h:Hp} {o T sz kk off:Nat} {rows:List (List D)} {row:List D} {v:D} (ho:h[o]?=some (.row T sz rows)) (hr:rows[kk]?=some row) (hv:(a0B v).length=3) (hl:off+3≤row.length) (hk:v.okv=true) {β:Type} {f:Hp→Option β} {Q:β→Prop}
  (k:∀ h',h'[o]?=some (.row T sz (rows.set kk (spl row off (a0B v))))→Same o h h'→Wp (f h') Q):Wp ((a0p tab h a0u (.ptr o kk off) v).bind f) Q := 
 by rw [show a0p tab h a0u (.ptr o kk off) v=pSt 3 h (.ptr o kk off) v from rfl];exact a3j ho hr hv hl hk k
theorem b5S {α:Type} {f:α→List D} {l:List α} {d:D} (hd:SlOf 1 f l d) {k:IntKind} {n:Int} (h0:0≤n) (h1:n≤l.length) :
  ∃ d',a0D tab a0L true false false [d,.int k n]=some d'∧SlOf 1 f (l.drop n.toNat) d':=a8g (T:=tab) (i:=ti22) (j:=ti5) (id rfl) (id rfl) (id rfl) (id rfl) hd h0 h1
@[simp] theorem a8v (n0:Int) (n1:Int):a0U tab a0u [0,1] [.int .i64 n0,.int .i64 n1]=some (.agg [.int .i64 n0,.int .i64 n1,.nils]):=id rfl
theorem b9K {h:Hp} {n0:Nat} (hn0:n0≤h.length) {rows:List (List D)} {x y:D} (hx:Own h n0 a0z 11 rows x) {ys:List (List D)} (hy:a1a h 11 y=some ys) (hl:(rows.length+ys.length)*144≤140737488355328) {β:Type} {f:D × Hp→Option β} {Q:β→Prop}
  (k:∀ x' h',Own h' n0 a0z 11 (rows++ys) x'→h.length≤h'.length→(∀ q,q<n0→h'[q]?=h[q]?)→(∀ q,q<h.length→¬ x.inOb q→h'[q]?=h[q]?)→(∀ q,x'.inOb q→x.inOb q∨h.length≤q)→Wp (f (x',h')) Q):Wp ((a0q tab h a0S a0S x y).bind f) Q := 
 a5f (T:=tab) (i:=b9C) (j:=d6C) (id rfl) (id rfl) (id rfl) (by decide) hn0 hx hy (a2n hl (by omega)) k
theorem c3j {h:Hp} {o T sz kk off:Nat} {rows:List (List D)} {row:List D} {v:D} (ho:h[o]?=some (.row T sz rows)) (hr:rows[kk]?=some row) (hv:(a0B v).length=1) (hl:off+1≤row.length) (hk:v.okv=true) {β:Type} {f:Hp→Option β} {Q:β→Prop}
  (k:∀ h',h'[o]?=some (.row T sz (rows.set kk (spl row off (a0B v))))→Same o h h'→Wp (f h') Q):Wp ((a0p tab h a0S (.ptr o kk off) v).bind f) Q := 
 by rw [show a0p tab h a0S (.ptr o kk off) v=pSt 1 h (.ptr o kk off) v from rfl];exact a3j ho hr hv hl hk k
@[simp] theorem b0O (k:IntKind) (n:Int):a1m tab a3u a1h (.int k n)=some (.int .u64 (IntKind.wrap .u64 n)):=id rfl
theorem c1D {α:Type} {f:α→List D} {l:List α} {d:D} (hd:SlOf 1 f l d) {k:IntKind} {n:Int} (h0:0≤n) (h1:n≤l.length) :
  ∃ d',a0D tab a0L false true false [d,.int k n]=some d'∧SlOf 1 f (l.take n.toNat) d':=b9v (T:=tab) (i:=ti22) (j:=ti5) (id rfl) (id rfl) (id rfl) (id rfl) hd h0 h1
@[simp] theorem c3I (d0:D) (h0:d0.one=true):a0U tab a5e [0] [d0]=some (.agg [d0,.int .i64 0]):=by
 have c0:=a0O h0
 refine c0j (T:=tab) (i:=ti101) (fs:=[(25,0,1),(3,1,1)]) (id rfl) (id rfl) ?_
 rw [show ti101.zero=[.nils,.int .i64 0] from id rfl]
 rw [a4x (off:=0) (sz:=1) (id rfl) (by rw [c0.1];rfl) (by simp [spl,a3K,a3L,a3p,a3J]) c0.2,c0.1]
 exact id rfl
@[simp] theorem b4R {α:Type} {f:α→List D} {l:List α} {d:D} (h:SlOf 1 f l d):a0t tab a2a d=some (.int .i64 l.length) := 
 by
  rcases h with ⟨rfl,rfl⟩ | ⟨b,rfl⟩
  ·rfl
  ·show some (D.int .i64 ((l.map f).length:Nat))=_;simp
@[simp] theorem c8q (f:Bool) (rows:List (List D)) (i:Int):a0b tab a2a (.sl 1 f rows) (.int .i64 i)=if 0≤i then (rows[i.toNat]?).map .fptr else none:=by show (if 1=1∧0≤i then (match rows[i.toNat]? with | some row=>some (D.fptr row) | none=>none) else none)=_;by_cases h:0≤i <;> simp [h] <;> cases rows[i.toNat]? <;> rfl
@[simp] theorem b2u {α:Type} {f:α→List D} {l:List α} {d:D} (h:SlOf 1 f l d) (i:Int):a0b tab a2a d (.int .i64 i)=if 0≤i then (l[i.toNat]?).map fun p => .fptr (f p) else none := 
 by
  rcases h with ⟨rfl,rfl⟩ | ⟨b,rfl⟩
  ·show none=_;simp
  ·rw [c8q];simp [Function.comp_def]
@[simp] theorem d5y (c:D) (cs:List D) (h:Hp):a0c tab h a0L (.fptr (c::cs))=some c:=id rfl
@[simp] theorem c8J (h:Hp) (o k f:Nat):a0c tab h a0L (.ptr o k f)=(h.row o k).bind fun row=>(row.drop f).head?:=by show (match h.row o k with | some row=>_ | none=>none)=_;cases h.row o k <;> rfl
theorem c5n {h:Hp} {n0:Nat} (hn0:n0≤h.length) {rows:List (List D)} {x y:D} (hx:Own h n0 a0y 10 rows x) {ys:List (List D)} (hy:a1a h 10 y=some ys) (hl:(rows.length+ys.length)*128≤140737488355328) {β:Type} {f:D × Hp→Option β} {Q:β→Prop}
  (k:∀ x' h',Own h' n0 a0y 10 (rows++ys) x'→h.length≤h'.length→(∀ q,q<n0→h'[q]?=h[q]?)→(∀ q,q<h.length→¬ x.inOb q→h'[q]?=h[q]?)→(∀ q,x'.inOb q→x.inOb q∨h.length≤q)→Wp (f (x',h')) Q):Wp ((a0q tab h a3f a3f x y).bind f) Q := 
 a5f (T:=tab) (i:=d6B) (j:=d6A) (id rfl) (id rfl) (id rfl) (by decide) hn0 hx hy (a2n hl (by omega)) k
@[simp] theorem a9H (c0:D) (cs:List D):a0a tab a0n 0 (.fptr (c0::cs))=some (.fptr (c0::cs)):=id rfl
@[simp] theorem a7M (o k f:Nat):a0a tab a0n 0 (.ptr o k f)=some (.ptr o k (f+0)):=id rfl
@[simp] theorem b8h (c:D) (cs:List D) (h:Hp):a0c tab h a0E (.fptr (c::cs))=some c:=id rfl
@[simp] theorem b2x (h:Hp) (o k f:Nat):a0c tab h a0E (.ptr o k f)=(h.row o k).bind fun row=>(row.drop f).head?:=by show (match h.row o k with | some row=>_ | none=>none)=_;cases h.row o k <;> rfl
@[simp] theorem c0P (c0 c1:D) (cs:List D):a0a tab a0n 1 (.fptr (c0::c1::cs))=some (.fptr (c1::cs)):=id rfl
@[simp] theorem a6c (o k f:Nat):a0a tab a0n 1 (.ptr o k f)=some (.ptr o k (f+1)):=id rfl
@[simp] theorem d9z (c:D) (cs:List D) (h:Hp):a0c tab h a1C (.fptr (c::cs))=some c:=id rfl
@[simp] theorem c8K (h:Hp) (o k f:Nat):a0c tab h a1C (.ptr o k f)=(h.row o k).bind fun row=>(row.drop f).head?:=by show (match h.row o k with | some row=>_ | none=>none)=_;cases h.row o k <;> rfl
@[simp] theorem d7i (c0 c1:D) (cs:List D):a0a tab a0z 1 (.fptr (c0::c1::cs))=some (.fptr (c1::cs)):=id rfl
@[simp] theorem a2I (o k f:Nat):a0a tab a0z 1 (.ptr o k f)=some (.ptr o k (f+1)):=id rfl
@[simp] theorem b7e (c0:D) (cs:List D):a0a tab a0y 0 (.fptr (c0::cs))=some (.fptr (c0::cs)):=id rfl
@[simp] theorem a9I (o k f:Nat):a0a tab a0y 0 (.ptr o k f)=some (.ptr o k (f+0)):=id rfl
@[simp] theorem b7f (c0 c1:D) (cs:List D):a0a tab a0y 1 (.fptr (c0::c1::cs))=some (.fptr (c1::cs)):=id rfl
@[simp] theorem a9J (o k f:Nat):a0a tab a0y 1 (.ptr o k f)=some (.ptr o k (f+1)):=id rfl
@[simp] theorem a7L (c0 c1 c2 c3 c4:D) (cs:List D):a0a tab a0y 4 (.fptr (c0::c1::c2::c3::c4::cs))=some (.fptr (c4::cs)):=id rfl
@[simp] theorem a2c (o k f:Nat):a0a tab a0y 4 (.ptr o k f)=some (.ptr o k (f+4)):=id rfl
@[simp] theorem b1R (c:D) (cs:List D) (h:Hp):a0c tab h a1j (.fptr (c::cs))=some c:=id rfl
@[simp] theorem a7b (h:Hp) (o k f:Nat):a0c tab h a1j (.ptr o k f)=(h.row o k).bind fun row=>(row.drop f).head?:=by show (match h.row o k with | some row=>_ | none=>none)=_;cases h.row o k <;> rfl
@[simp] theorem a2L {α:Type} {f:α→List D} {l:List α} {d:D} (h:SlOf 3 f l d):a0t tab a1j d=some (.int .i64 l.length) := 
 by
  rcases h with ⟨rfl,rfl⟩ | ⟨b,rfl⟩
  ·rfl
  ·show some (D.int .i64 ((l.map f).length:Nat))=_;simp
theorem c2D {h:Hp} {n0 e z:Nat} {rows:List (List D)} {d:D} (hd:Own h n0 e z rows d):a0t tab a1j d=some (.int .i64 rows.length):=by
 rcases hd with ⟨rfl,rfl⟩ | ⟨o,_,rfl,_⟩ <;> rfl
@[simp] theorem c8L (z o r n:Nat):a0t tab a1j (.msl z o r n)=some (.int .i64 n):=id rfl
@[simp] theorem c8O:a0t tab a1j .nils=some (.int .i64 0):=id rfl
@[simp] theorem a3M (c0 c1 c2 c3:D) (cs:List D):a0a tab a0y 3 (.fptr (c0::c1::c2::c3::cs))=some (.fptr (c3::cs)):=id rfl
@[simp] theorem a7O (o k f:Nat):a0a tab a0y 3 (.ptr o k f)=some (.ptr o k (f+3)):=id rfl
theorem d0e {h:Hp} {o T sz kk off:Nat} {rows:List (List D)} {row:List D} {v:D} (ho:h[o]?=some (.row T sz rows)) (hr:rows[kk]?=some row) (hv:(a0B v).length=1) (hl:off+1≤row.length) (hk:v.okv=true) {β:Type} {f:Hp→Option β} {Q:β→Prop}
  (k:∀ h',h'[o]?=some (.row T sz (rows.set kk (spl row off (a0B v))))→Same o h h'→Wp (f h') Q):Wp ((a0p tab h a1C (.ptr o kk off) v).bind f) Q := 
 by rw [show a0p tab h a1C (.ptr o kk off) v=pSt 1 h (.ptr o kk off) v from rfl];exact a3j ho hr hv hl hk k
@[simp] theorem b0W (c0 c1 c2:D) (cs:List D):a0a tab a0y 2 (.fptr (c0::c1::c2::cs))=some (.fptr (c2::cs)):=id rfl
@[simp] theorem a5v (o k f:Nat):a0a tab a0y 2 (.ptr o k f)=some (.ptr o k (f+2)):=id rfl
@[simp] theorem b0F (n0:Int) (n1:Int) (n2:Int):a0U tab a0Q [0,1,2] [.int .i64 n0,.int .i64 n1,.int .i64 n2]=some (.agg [.int .i64 n0,.int .i64 n1,.int .i64 n2]):=id rfl
theorem b2R {h:Hp} {o T sz kk off:Nat} {rows:List (List D)} {row:List D} {v:D} (ho:h[o]?=some (.row T sz rows)) (hr:rows[kk]?=some row) (hv:(a0B v).length=1) (hl:off+1≤row.length) (hk:v.okv=true) {β:Type} {f:Hp→Option β} {Q:β→Prop}
  (k:∀ h',h'[o]?=some (.row T sz (rows.set kk (spl row off (a0B v))))→Same o h h'→Wp (f h') Q):Wp ((a0p tab h a0E (.ptr o kk off) v).bind f) Q := 
 by rw [show a0p tab h a0E (.ptr o kk off) v=pSt 1 h (.ptr o kk off) v from rfl];exact a3j ho hr hv hl hk k
@[simp] theorem a9K (o k f:Nat):a0a tab a0z 0 (.ptr o k f)=some (.ptr o k (f+0)):=id rfl
@[simp] theorem ld9 (c:D) (cs:List D) (h:Hp):a0c tab h ty9 (.fptr (c::cs))=some c:=id rfl
@[simp] theorem b0x (h:Hp) (o k f:Nat):a0c tab h ty9 (.ptr o k f)=(h.row o k).bind fun row=>(row.drop f).head?:=by show (match h.row o k with | some row=>_ | none=>none)=_;cases h.row o k <;> rfl
@[simp] theorem b7g (c0 c1 c2 c3 c4 c5:D) (cs:List D):a0a tab a0y 5 (.fptr (c0::c1::c2::c3::c4::c5::cs))=some (.fptr (c5::cs)):=id rfl
@[simp] theorem b2h (o k f:Nat):a0a tab a0y 5 (.ptr o k f)=some (.ptr o k (f+5)):=id rfl
@[simp] theorem c0r (d0:D) (d1:D) (d2:D) (d3:D) (h0:d0.one=true) (h1:d1.one=true) (h2:d2.one=true) (h3:d3.one=true):a0W tab a2a 4 [0,1,2,3] [d0,d1,d2,d3]=some (.sl 1 true [[d0],[d1],[d2],[d3]]):=a4V (T:=tab) (t:=a2a) (n:=4) (i:=a8l) (j:=ti22) (id rfl) (id rfl) (id rfl) (id rfl) [d0,d1,d2,d3] rfl (by decide) (by simp [h0,h1,h2,h3])
@[simp] theorem b8n {α:Type} {f:α→List D} {l:List α} {d:D} (h:SlOf 1 f l d):a0t tab a4s d=some (.int .i64 l.length) := 
 by
  rcases h with ⟨rfl,rfl⟩ | ⟨b,rfl⟩
  ·rfl
  ·show some (D.int .i64 ((l.map f).length:Nat))=_;simp
@[simp] theorem d9y (f:Bool) (rows:List (List D)) (i:Int):a0b tab a6X (.sl 1 f rows) (.int .i64 i)=if 0≤i then (rows[i.toNat]?).map .fptr else none:=by show (if 1=1∧0≤i then (match rows[i.toNat]? with | some row=>some (D.fptr row) | none=>none) else none)=_;by_cases h:0≤i <;> simp [h] <;> cases rows[i.toNat]? <;> rfl
@[simp] theorem d5m (o r n:Nat) (i:Int):a0b tab a6X (.msl 1 o r n) (.int .i64 i)=if 0≤i∧i<n then some (.ptr o (r+i.toNat) 0) else none:=by show (if 1=1∧0≤i∧i<n then some (D.ptr o (r+i.toNat) 0) else none)=_;simp
@[simp] theorem c8w {α:Type} {f:α→List D} {l:List α} {d:D} (h:SlOf 1 f l d) (i:Int):a0b tab a6X d (.int .i64 i)=if 0≤i then (l[i.toNat]?).map fun p => .fptr (f p) else none := 
 by
  rcases h with ⟨rfl,rfl⟩ | ⟨b,rfl⟩
  ·show none=_;simp
  ·rw [d9y];simp [Function.comp_def]
@[simp] theorem d5j (f:Bool) (rows:List (List D)) (i:Int):a0b tab a4s (.sl 1 f rows) (.int .i64 i)=if 0≤i then (rows[i.toNat]?).map .fptr else none:=by show (if 1=1∧0≤i then (match rows[i.toNat]? with | some row=>some (D.fptr row) | none=>none) else none)=_;by_cases h:0≤i <;> simp [h] <;> cases rows[i.toNat]? <;> rfl
@[simp] theorem c8u {α:Type} {f:α→List D} {l:List α} {d:D} (h:SlOf 1 f l d) (i:Int):a0b tab a4s d (.int .i64 i)=if 0≤i then (l[i.toNat]?).map fun p => .fptr (f p) else none := 
 by
  rcases h with ⟨rfl,rfl⟩ | ⟨b,rfl⟩
  ·show none=_;simp
  ·rw [d5j];simp [Function.comp_def]
theorem b9O {h:Hp} {o T sz kk off:Nat} {rows:List (List D)} {row:List D} {v:D} (ho:h[o]?=some (.row T sz rows)) (hr:rows[kk]?=some row) (hv:(a0B v).length=1) (hl:off+1≤row.length) (hk:v.okv=true) {β:Type} {f:Hp→Option β} {Q:β→Prop}
  (k:∀ h',h'[o]?=some (.row T sz (rows.set kk (spl row off (a0B v))))→Same o h h'→Wp (f h') Q):Wp ((a0p tab h ty3 (.ptr o kk off) v).bind f) Q := 
 by rw [show a0p tab h ty3 (.ptr o kk off) v=pSt 1 h (.ptr o kk off) v from rfl];exact a3j ho hr hv hl hk k
@[simp] theorem c0s (x0_0 x0_1 x0_2:D):a0W tab a1V 1 [0] [.agg [x0_0,x0_1,x0_2]]=some (.sl 3 true [[x0_0,x0_1,x0_2]]):=id rfl
theorem c5l {h:Hp} {n0:Nat} (hn0:n0≤h.length) {rows:List (List D)} {x y:D} (hx:Own h n0 a0u 3 rows x) {ys:List (List D)} (hy:a1a h 3 y=some ys) (hl:(rows.length+ys.length)*40≤140737488355328) {β:Type} {f:D × Hp→Option β} {Q:β→Prop}
  (k:∀ x' h',Own h' n0 a0u 3 (rows++ys) x'→h.length≤h'.length→(∀ q,q<n0→h'[q]?=h[q]?)→(∀ q,q<h.length→¬ x.inOb q→h'[q]?=h[q]?)→(∀ q,x'.inOb q→x.inOb q∨h.length≤q)→Wp (f (x',h')) Q):Wp ((a0q tab h a1V a1V x y).bind f) Q := 
 a5f (T:=tab) (i:=b9A) (j:=b9B) (id rfl) (id rfl) (id rfl) (by decide) hn0 hx hy (a2n hl (by omega)) k
@[simp] theorem b6H (k:IntKind) (n:Int):a1m tab a1h a3u (.int k n)=some (.int .u32 (IntKind.wrap .u32 n)):=id rfl
@[simp] theorem c0q (d0:D) (d1:D) (d2:D) (h0:d0.one=true) (h1:d1.one=true) (h2:d2.one=true):a0W tab a2a 3 [0,1,2] [d0,d1,d2]=some (.sl 1 true [[d0],[d1],[d2]]):=a4V (T:=tab) (t:=a2a) (n:=3) (i:=a8l) (j:=ti22) (id rfl) (id rfl) (id rfl) (id rfl) [d0,d1,d2] rfl (by decide) (by simp [h0,h1,h2])
@[simp] theorem c7L (k:IntKind) (n:Int):a1m tab a3u ty5 (.int k n)=some (.int .u8 (IntKind.wrap .u8 n)):=id rfl
@[simp] theorem c7A (n0:Int) (n1:Int) (n2:Int) (n3:Int):a0W tab a0L 4 [0,1,2,3] [.int .u8 n0,.int .u8 n1,.int .u8 n2,.int .u8 n3]=some (.sl 1 true [[.int .u8 n0],[.int .u8 n1],[.int .u8 n2],[.int .u8 n3]]):=id rfl
@[simp] theorem c0g (d0:D) (h0:d0.one=true):a0U tab a2j [0] [d0]=some (.agg [d0]):=by
 have c0:=a0O h0
 refine c0j (T:=tab) (i:=ti1101) (fs:=[(25,0,1)]) (id rfl) (id rfl) ?_
 rw [show ti1101.zero=[.nils] from id rfl]
 rw [a4x (off:=0) (sz:=1) (id rfl) (by rw [c0.1];rfl) (by simp [spl,a3K,a3L,a3p,a3J]) c0.2,c0.1]
 exact id rfl
@[simp] theorem a6e (o k f:Nat):a0a tab a2j 0 (.ptr o k f)=some (.ptr o k (f+0)):=id rfl
@[simp] theorem a7l (k:IntKind) (n:Int):a1m tab a1h ty5 (.int k n)=some (.int .u8 (IntKind.wrap .u8 n)):=id rfl
@[simp] theorem b3D (n0:Int):a0W tab a0L 1 [0] [.int .u8 n0]=some (.sl 1 true [[.int .u8 n0]]):=id rfl
@[simp] theorem a5Z (k:IntKind) (n:Int):a1m tab a1h ty3 (.int k n)=some (.int .i64 (IntKind.wrap .i64 n)):=id rfl
@[simp] theorem d9t (f:Bool) (rows:List (List D)) (i:Int):a0b tab a0L (.sl 1 f rows) (.int .i64 i)=if 0≤i then (rows[i.toNat]?).map .fptr else none:=by show (if 1=1∧0≤i then (match rows[i.toNat]? with | some row=>some (D.fptr row) | none=>none) else none)=_;by_cases h:0≤i <;> simp [h] <;> cases rows[i.toNat]? <;> rfl
@[simp] theorem c1f (o r n:Nat) (i:Int):a0b tab a0L (.msl 1 o r n) (.int .i64 i)=if 0≤i∧i<n then some (.ptr o (r+i.toNat) 0) else none:=by show (if 1=1∧0≤i∧i<n then some (D.ptr o (r+i.toNat) 0) else none)=_;simp
@[simp] theorem a5z {α:Type} {f:α→List D} {l:List α} {d:D} (h:SlOf 1 f l d) (i:Int):a0b tab a0L d (.int .i64 i)=if 0≤i then (l[i.toNat]?).map fun p => .fptr (f p) else none := 
 by
  rcases h with ⟨rfl,rfl⟩ | ⟨b,rfl⟩
  ·show none=_;simp
  ·rw [d9t];simp [Function.comp_def]
@[simp] theorem ld5 (c:D) (cs:List D) (h:Hp):a0c tab h ty5 (.fptr (c::cs))=some c:=id rfl
@[simp] theorem d5B (h:Hp) (o k f:Nat):a0c tab h ty5 (.ptr o k f)=(h.row o k).bind fun row=>(row.drop f).head?:=by show (match h.row o k with | some row=>_ | none=>none)=_;cases h.row o k <;> rfl
@[simp] theorem b6J (k:IntKind) (n:Int):a1m tab ty5 a3u (.int k n)=some (.int .u32 (IntKind.wrap .u32 n)):=id rfl
@[simp] theorem c7x  : a0U tab a0z [] []=some (.agg [.str [],.int .i64 0,.int .i64 0,.int .i64 0,.int .i64 0,.nils,.int .i64 0,.int .i64 0,.str [],.str [],.nils]):=id rfl
@[simp] theorem c0h (d0:D) (h0:d0.one=true):a0U tab a1O [0] [d0]=some (.agg [d0,.bool false]):=by
 have c0:=a0O h0
 refine c0j (T:=tab) (i:=ti1106) (fs:=[(25,0,1),(4,1,1)]) (id rfl) (id rfl) ?_
 rw [show ti1106.zero=[.nils,.bool false] from id rfl]
 rw [a4x (off:=0) (sz:=1) (id rfl) (by rw [c0.1];rfl) (by simp [spl,a3K,a3L,a3p,a3J]) c0.2,c0.1]
 exact id rfl
@[simp] theorem a6f (o k f:Nat):a0a tab a1O 1 (.ptr o k f)=some (.ptr o k (f+1)):=id rfl
@[simp] theorem d9A (h:Hp) (o k f:Nat):a0c tab h ty4 (.ptr o k f)=(h.row o k).bind fun row=>(row.drop f).head?:=by show (match h.row o k with | some row=>_ | none=>none)=_;cases h.row o k <;> rfl
@[simp] theorem a2p (o k f:Nat):a0a tab a1O 0 (.ptr o k f)=some (.ptr o k (f+0)):=id rfl
@[simp] theorem d0o (o k f:Nat):a0a tab a5e 0 (.ptr o k f)=some (.ptr o k (f+0)):=id rfl
@[simp] theorem d0p (o k f:Nat):a0a tab a5e 1 (.ptr o k f)=some (.ptr o k (f+1)):=id rfl
@[simp] theorem d7B (k:IntKind) (n:Int):a1m tab ty5 ty3 (.int k n)=some (.int .i64 (IntKind.wrap .i64 n)):=id rfl
@[simp] theorem c2f (k:IntKind) (n:Int):a1m tab a3u ty3 (.int k n)=some (.int .i64 (IntKind.wrap .i64 n)):=id rfl
@[simp] theorem c0o (d0:D) (h0:d0.one=true):a0W tab a2a 1 [0] [d0]=some (.sl 1 true [[d0]]):=a4V (T:=tab) (t:=a2a) (n:=1) (i:=a8l) (j:=ti22) (id rfl) (id rfl) (id rfl) (id rfl) [d0] rfl (by decide) (by simp [h0])
theorem c5k {h:Hp} {n0:Nat} (hn0:n0≤h.length) {rows:List (List D)} {x y:D} (hx:Own h n0 a0L 1 rows x) {ys:List (List D)} (hy:a1a h 1 y=some ys) (hl:(rows.length+ys.length)*24≤140737488355328) {β:Type} {f:D × Hp→Option β} {Q:β→Prop}
  (k:∀ x' h',Own h' n0 a0L 1 (rows++ys) x'→h.length≤h'.length→(∀ q,q<n0→h'[q]?=h[q]?)→(∀ q,q<h.length→¬ x.inOb q→h'[q]?=h[q]?)→(∀ q,x'.inOb q→x.inOb q∨h.length≤q)→Wp (f (x',h')) Q):Wp ((a0q tab h a2a a2a x y).bind f) Q := 
 a5f (T:=tab) (i:=a8l) (j:=ti22) (id rfl) (id rfl) (id rfl) (by decide) hn0 hx hy (a2n hl (by omega)) k
@[simp] theorem b5u (d0:D) (d1:D) (h0:d0.one=true) (h1:d1.one=true):a0U tab a0n [0,1] [d0,d1]=some (.agg [d0,d1]):=by
 have c0:=a0O h0
 have c1:=a0O h1
 refine c0j (T:=tab) (i:=ti1009) (fs:=[(48,0,1),(49,1,1)]) (id rfl) (id rfl) ?_
 rw [show ti1009.zero=[.nils,.nils] from id rfl]
 rw [a4x (off:=0) (sz:=1) (id rfl) (by rw [c0.1];rfl) (by simp [spl,a3K,a3L,a3p,a3J]) c0.2,c0.1]
 rw [a4x (off:=1) (sz:=1) (id rfl) (by rw [c1.1];rfl) (by simp [spl,a3K,a3L,a3p,a3J]) c1.2,c1.1]
 exact id rfl
@[simp] theorem c0f (x0_0 x0_1:D):a0U tab a1o [0] [.agg [x0_0,x0_1]]=some (.agg [x0_0,x0_1,.nils]):=id rfl
@[simp] theorem a6d (o k f:Nat):a0a tab a1o 0 (.ptr o k f)=some (.ptr o k (f+0)):=id rfl
@[simp] theorem a7N (o k f:Nat):a0a tab a1o 1 (.ptr o k f)=some (.ptr o k (f+2)):=id rfl
@[simp] theorem c4x (h:Hp) (o k f:Nat):a0c tab h a3f (.ptr o k f)=(h.row o k).bind fun row=>(row.drop f).head?:=by show (match h.row o k with | some row=>_ | none=>none)=_;cases h.row o k <;> rfl
@[simp] theorem c7F (n0:Int) (n1:Int) (n2:Int) (n3:Int):a0W tab a6X 4 [0,1,2,3] [.int .i64 n0,.int .i64 n1,.int .i64 n2,.int .i64 n3]=some (.sl 1 true [[.int .i64 n0],[.int .i64 n1],[.int .i64 n2],[.int .i64 n3]]):=id rfl
@[simp] theorem a3b {α:Type} {f:α→List D} {l:List α} {d:D} (h:SlOf 3 f l d):a0t tab a0E d=some (.int .i64 l.length) := 
 by
  rcases h with ⟨rfl,rfl⟩ | ⟨b,rfl⟩
  ·rfl
  ·show some (D.int .i64 ((l.map f).length:Nat))=_;simp
@[simp] theorem c1k (z o r n:Nat):a0t tab a0E (.msl z o r n)=some (.int .i64 n):=id rfl
@[simp] theorem c8p (f:Bool) (rows:List (List D)) (i:Int):a0b tab a0E (.sl 3 f rows) (.int .i64 i)=if 0≤i then (rows[i.toNat]?).map .fptr else none:=by show (if 3=3∧0≤i then (match rows[i.toNat]? with | some row=>some (D.fptr row) | none=>none) else none)=_;by_cases h:0≤i <;> simp [h] <;> cases rows[i.toNat]? <;> rfl
@[simp] theorem b7Y (o r n:Nat) (i:Int):a0b tab a0E (.msl 3 o r n) (.int .i64 i)=if 0≤i∧i<n then some (.ptr o (r+i.toNat) 0) else none:=by show (if 3=3∧0≤i∧i<n then some (D.ptr o (r+i.toNat) 0) else none)=_;simp
@[simp] theorem a6B {α:Type} {f:α→List D} {l:List α} {d:D} (h:SlOf 3 f l d) (i:Int):a0b tab a0E d (.int .i64 i)=if 0≤i then (l[i.toNat]?).map fun p => .fptr (f p) else none := 
 by
  rcases h with ⟨rfl,rfl⟩ | ⟨b,rfl⟩
  ·show none=_;simp
  ·rw [c8p];simp [Function.comp_def]
@[simp] theorem c4w (h:Hp) (o k f:Nat):a0c tab h a0Q (.ptr o k f)=(h.row o k).bind fun row=>a8u 3 (row.drop f):=by show (match h.row o k with | some row=>_ | none=>none)=_;cases h.row o k <;> rfl
@[simp] theorem c0k (a0 b0:Int) (a1 b1:Int) (a2 b2:Int):a0i tab .neq a0Q (.agg [.int .i64 a0,.int .i64 a1,.int .i64 a2]) (.agg [.int .i64 b0,.int .i64 b1,.int .i64 b2])=some (.bool (!(a0==b0&&(a1==b1&&(a2==b2&&true))))):=id rfl
@[simp] theorem a5j {α:Type} {f:α→List D} {l:List α} {d:D} (h:SlOf 3 f l d):a0t tab a1C d=some (.int .i64 l.length) := 
 by
  rcases h with ⟨rfl,rfl⟩ | ⟨b,rfl⟩
  ·rfl
  ·show some (D.int .i64 ((l.map f).length:Nat))=_;simp
@[simp] theorem c8N (z o r n:Nat):a0t tab a1C (.msl z o r n)=some (.int .i64 n):=id rfl
@[simp] theorem d9x (f:Bool) (rows:List (List D)) (i:Int):a0b tab a1C (.sl 3 f rows) (.int .i64 i)=if 0≤i then (rows[i.toNat]?).map .fptr else none:=by show (if 3=3∧0≤i then (match rows[i.toNat]? with | some row=>some (D.fptr row) | none=>none) else none)=_;by_cases h:0≤i <;> simp [h] <;> cases rows[i.toNat]? <;> rfl
@[simp] theorem c4k (o r n:Nat) (i:Int):a0b tab a1C (.msl 3 o r n) (.int .i64 i)=if 0≤i∧i<n then some (.ptr o (r+i.toNat) 0) else none:=by show (if 3=3∧0≤i∧i<n then some (D.ptr o (r+i.toNat) 0) else none)=_;simp
@[simp] theorem b8a {α:Type} {f:α→List D} {l:List α} {d:D} (h:SlOf 3 f l d) (i:Int):a0b tab a1C d (.int .i64 i)=if 0≤i then (l[i.toNat]?).map fun p => .fptr (f p) else none := 
 by
  rcases h with ⟨rfl,rfl⟩ | ⟨b,rfl⟩
  ·show none=_;simp
  ·rw [d9x];simp [Function.comp_def]
@[simp] theorem c8H (h:Hp) (o k f:Nat):a0c tab h a1k (.ptr o k f)=(h.row o k).bind fun row=>a8u 3 (row.drop f):=by show (match h.row o k with | some row=>_ | none=>none)=_;cases h.row o k <;> rfl
@[simp] theorem c3K (a0 b0:Int) (a1 b1:List UInt8) (a2 b2:Int):a0i tab .neq a1k (.agg [.int .i64 a0,.str a1,.int .i64 a2]) (.agg [.int .i64 b0,.str b1,.int .i64 b2])=some (.bool (!(a0==b0&&(a1==b1&&(a2==b2&&true))))):=id rfl
@[simp] theorem d0n (c0 c1 c2:D) (cs:List D):a0a tab a0Q 2 (.fptr (c0::c1::c2::cs))=some (.fptr (c2::cs)):=id rfl
@[simp] theorem b7j (o k f:Nat):a0a tab a0Q 2 (.ptr o k f)=some (.ptr o k (f+2)):=id rfl
@[simp] theorem d2Q (c0:D) (cs:List D):a0a tab a1k 0 (.fptr (c0::cs))=some (.fptr (c0::cs)):=id rfl
@[simp] theorem d2R (c0 c1:D) (cs:List D):a0a tab a1k 1 (.fptr (c0::c1::cs))=some (.fptr (c1::cs)):=id rfl
theorem d0b {h:Hp} {n0:Nat} (hn0:n0≤h.length) {rows:List (List D)} {x y:D} (hx:Own h n0 a1k 3 rows x) {ys:List (List D)} (hy:a1a h 3 y=some ys) (hl:(rows.length+ys.length)*32≤140737488355328) {β:Type} {f:D × Hp→Option β} {Q:β→Prop}
  (k:∀ x' h',Own h' n0 a1k 3 (rows++ys) x'→h.length≤h'.length→(∀ q,q<n0→h'[q]?=h[q]?)→(∀ q,q<h.length→¬ x.inOb q→h'[q]?=h[q]?)→(∀ q,x'.inOb q→x.inOb q∨h.length≤q)→Wp (f (x',h')) Q):Wp ((a0q tab h a1C a1C x y).bind f) Q := 
 a5f (T:=tab) (i:=ti58) (j:=ti106) (id rfl) (id rfl) (id rfl) (by decide) hn0 hx hy (a2n hl (by omega)) k
@[simp] theorem b3U (o k f:Nat):a0a tab a1k 2 (.ptr o k f)=some (.ptr o k (f+2)):=id rfl
@[simp] theorem b1V (n0:Int) (s1:List UInt8) (n2:Int):a0U tab a1k [0,1,2] [.int .i64 n0,.str s1,.int .i64 n2]=some (.agg [.int .i64 n0,.str s1,.int .i64 n2]):=id rfl
@[simp] theorem c2c (x0_0 x0_1 x0_2:D):a0W tab a1C 1 [0] [.agg [x0_0,x0_1,x0_2]]=some (.sl 3 true [[x0_0,x0_1,x0_2]]):=id rfl
@[simp] theorem d9u (f:Bool) (rows:List (List D)) (i:Int):a0b tab a1j (.sl 3 f rows) (.int .i64 i)=if 0≤i then (rows[i.toNat]?).map .fptr else none:=by show (if 3=3∧0≤i then (match rows[i.toNat]? with | some row=>some (D.fptr row) | none=>none) else none)=_;by_cases h:0≤i <;> simp [h] <;> cases rows[i.toNat]? <;> rfl
@[simp] theorem c1g (o r n:Nat) (i:Int):a0b tab a1j (.msl 3 o r n) (.int .i64 i)=if 0≤i∧i<n then some (.ptr o (r+i.toNat) 0) else none:=by show (if 3=3∧0≤i∧i<n then some (D.ptr o (r+i.toNat) 0) else none)=_;simp
@[simp] theorem b1v {α:Type} {f:α→List D} {l:List α} {d:D} (h:SlOf 3 f l d) (i:Int):a0b tab a1j d (.int .i64 i)=if 0≤i then (l[i.toNat]?).map fun p => .fptr (f p) else none := 
 by
  rcases h with ⟨rfl,rfl⟩ | ⟨b,rfl⟩
  ·show none=_;simp
  ·rw [d9u];simp [Function.comp_def]
@[simp] theorem b7h (c0:D) (cs:List D):a0a tab a1Z 0 (.fptr (c0::cs))=some (.fptr (c0::cs)):=id rfl
@[simp] theorem a3F (o k f:Nat):a0a tab a1Z 0 (.ptr o k f)=some (.ptr o k (f+0)):=id rfl
theorem b5W {h:Hp} {n0:Nat} (hn0:n0≤h.length) {rows:List (List D)} {x y:D} (hx:Own h n0 a1Z 3 rows x) {ys:List (List D)} (hy:a1a h 3 y=some ys) (hl:(rows.length+ys.length)*32≤140737488355328) {β:Type} {f:D × Hp→Option β} {Q:β→Prop}
  (k:∀ x' h',Own h' n0 a1Z 3 (rows++ys) x'→h.length≤h'.length→(∀ q,q<n0→h'[q]?=h[q]?)→(∀ q,q<h.length→¬ x.inOb q→h'[q]?=h[q]?)→(∀ q,x'.inOb q→x.inOb q∨h.length≤q)→Wp (f (x',h')) Q):Wp ((a0q tab h a1j a1j x y).bind f) Q := 
 a5f (T:=tab) (i:=c5I) (j:=ti78) (id rfl) (id rfl) (id rfl) (by decide) hn0 hx hy (a2n hl (by omega)) k
theorem b2T {h:Hp} {o T sz kk off:Nat} {rows:List (List D)} {row:List D} {v:D} (ho:h[o]?=some (.row T sz rows)) (hr:rows[kk]?=some row) (hv:(a0B v).length=1) (hl:off+1≤row.length) (hk:v.okv=true) {β:Type} {f:Hp→Option β} {Q:β→Prop}
  (k:∀ h',h'[o]?=some (.row T sz (rows.set kk (spl row off (a0B v))))→Same o h h'→Wp (f h') Q):Wp ((a0p tab h a1j (.ptr o kk off) v).bind f) Q := 
 by rw [show a0p tab h a1j (.ptr o kk off) v=pSt 1 h (.ptr o kk off) v from rfl];exact a3j ho hr hv hl hk k
@[simp] theorem d0l (c0:D) (cs:List D):a0a tab a0Q 0 (.fptr (c0::cs))=some (.fptr (c0::cs)):=id rfl
@[simp] theorem d0m (c0 c1:D) (cs:List D):a0a tab a0Q 1 (.fptr (c0::c1::cs))=some (.fptr (c1::cs)):=id rfl
theorem c4X {α:Type} {f:α→List D} {l:List α} {d:D} (hd:SlOf 3 f l d) {k:IntKind} {n:Int} (h0:0≤n) (h1:n≤l.length) :
  ∃ d',a0D tab a0E false true false [d,.int k n]=some d'∧SlOf 3 f (l.take n.toNat) d':=b9v (T:=tab) (i:=a8k) (j:=ti1006) (id rfl) (id rfl) (id rfl) (id rfl) hd h0 h1
theorem b2P {h:Hp} {n0:Nat} (hn0:n0≤h.length) {rows:List (List D)} {x y:D} (hx:Own h n0 a0Q 3 rows x) {ys:List (List D)} (hy:a1a h 3 y=some ys) (hl:(rows.length+ys.length)*24≤140737488355328) {β:Type} {f:D × Hp→Option β} {Q:β→Prop}
  (k:∀ x' h',Own h' n0 a0Q 3 (rows++ys) x'→h.length≤h'.length→(∀ q,q<n0→h'[q]?=h[q]?)→(∀ q,q<h.length→¬ x.inOb q→h'[q]?=h[q]?)→(∀ q,x'.inOb q→x.inOb q∨h.length≤q)→Wp (f (x',h')) Q):Wp ((a0q tab h a0E a0E x y).bind f) Q := 
 a5f (T:=tab) (i:=a8k) (j:=ti1006) (id rfl) (id rfl) (id rfl) (by decide) hn0 hx hy (a2n hl (by omega)) k
@[simp] theorem c0n (x0_0 x0_1 x0_2:D):a0W tab a0E 1 [0] [.agg [x0_0,x0_1,x0_2]]=some (.sl 3 true [[x0_0,x0_1,x0_2]]):=id rfl
theorem c4Y {α:Type} {f:α→List D} {l:List α} {d:D} (hd:SlOf 3 f l d) {k:IntKind} {n:Int} (h0:0≤n) (h1:n≤l.length) :
  ∃ d',a0D tab a0E true false false [d,.int k n]=some d'∧SlOf 3 f (l.drop n.toNat) d':=a8g (T:=tab) (i:=a8k) (j:=ti1006) (id rfl) (id rfl) (id rfl) (id rfl) hd h0 h1
@[simp] theorem c0p (d0:D) (d1:D) (h0:d0.one=true) (h1:d1.one=true):a0W tab a2a 2 [0,1] [d0,d1]=some (.sl 1 true [[d0],[d1]]):=a4V (T:=tab) (t:=a2a) (n:=2) (i:=a8l) (j:=ti22) (id rfl) (id rfl) (id rfl) (id rfl) [d0,d1] rfl (by decide) (by simp [h0,h1])
@[simp] theorem c3L (d0:D) (h0:d0.one=true):a0W tab a4s 1 [0] [d0]=some (.sl 1 true [[d0]]):=a4V (T:=tab) (t:=a4s) (n:=1) (i:=c1H) (j:=b9C) (id rfl) (id rfl) (id rfl) (id rfl) [d0] rfl (by decide) (by simp [h0])
theorem d0a {h:Hp} {n0:Nat} (hn0:n0≤h.length) {rows:List (List D)} {x y:D} (hx:Own h n0 a0S 1 rows x) {ys:List (List D)} (hy:a1a h 1 y=some ys) (hl:(rows.length+ys.length)*24≤140737488355328) {β:Type} {f:D × Hp→Option β} {Q:β→Prop}
  (k:∀ x' h',Own h' n0 a0S 1 (rows++ys) x'→h.length≤h'.length→(∀ q,q<n0→h'[q]?=h[q]?)→(∀ q,q<h.length→¬ x.inOb q→h'[q]?=h[q]?)→(∀ q,x'.inOb q→x.inOb q∨h.length≤q)→Wp (f (x',h')) Q):Wp ((a0q tab h a4s a4s x y).bind f) Q := 
 a5f (T:=tab) (i:=c1H) (j:=b9C) (id rfl) (id rfl) (id rfl) (by decide) hn0 hx hy (a2n hl (by omega)) k
@[simp] theorem b7i (c0 c1 c2:D) (cs:List D):a0a tab a1Z 2 (.fptr (c0::c1::c2::cs))=some (.fptr (c2::cs)):=id rfl
@[simp] theorem a3h (o k f:Nat):a0a tab a1Z 2 (.ptr o k f)=some (.ptr o k (f+2)):=id rfl
theorem d0f {h:Hp} {o T sz kk off:Nat} {rows:List (List D)} {row:List D} {v:D} (ho:h[o]?=some (.row T sz rows)) (hr:rows[kk]?=some row) (hv:(a0B v).length=1) (hl:off+1≤row.length) (hk:v.okv=true) {β:Type} {f:Hp→Option β} {Q:β→Prop}
  (k:∀ h',h'[o]?=some (.row T sz (rows.set kk (spl row off (a0B v))))→Same o h h'→Wp (f h') Q):Wp ((a0p tab h ty9 (.ptr o kk off) v).bind f) Q := 
 by rw [show a0p tab h ty9 (.ptr o kk off) v=pSt 1 h (.ptr o kk off) v from rfl];exact a3j ho hr hv hl hk k
@[simp] theorem d5C (h:Hp) (o k f:Nat):a0c tab h a1Z (.ptr o k f)=(h.row o k).bind fun row=>a8u 3 (row.drop f):=by show (match h.row o k with | some row=>_ | none=>none)=_;cases h.row o k <;> rfl
@[simp] theorem c7C (x0_0 x0_1 x0_2:D):a0W tab a1j 1 [0] [.agg [x0_0,x0_1,x0_2]]=some (.sl 3 true [[x0_0,x0_1,x0_2]]):=id rfl
theorem c1L {h:Hp} {o T sz kk off:Nat} {rows:List (List D)} {row:List D} {v:D} (ho:h[o]?=some (.row T sz rows)) (hr:rows[kk]?=some row) (hv:(a0B v).length=10) (hl:off+10≤row.length) (hk:v.okv=true) {β:Type} {f:Hp→Option β} {Q:β→Prop}
  (k:∀ h',h'[o]?=some (.row T sz (rows.set kk (spl row off (a0B v))))→Same o h h'→Wp (f h') Q):Wp ((a0p tab h a0y (.ptr o kk off) v).bind f) Q := 
 by rw [show a0p tab h a0y (.ptr o kk off) v=pSt 10 h (.ptr o kk off) v from rfl];exact a3j ho hr hv hl hk k
@[simp] theorem a5I (s:List UInt8):a0t tab ty9 (.str s)=some (.int .i64 s.length):=id rfl
@[simp] theorem c2k (c0 c1 c2 c3 c4 c5 c6:D) (cs:List D):a0a tab a0y 6 (.fptr (c0::c1::c2::c3::c4::c5::c6::cs))=some (.fptr (c6::cs)):=id rfl
@[simp] theorem b2i (o k f:Nat):a0a tab a0y 6 (.ptr o k f)=some (.ptr o k (f+6)):=id rfl
@[simp] theorem c2l (c0 c1 c2 c3 c4 c5 c6 c7:D) (cs:List D):a0a tab a0y 7 (.fptr (c0::c1::c2::c3::c4::c5::c6::c7::cs))=some (.fptr (c7::cs)):=id rfl
@[simp] theorem b2j (o k f:Nat):a0a tab a0y 7 (.ptr o k f)=some (.ptr o k (f+7)):=id rfl
@[simp] theorem c2m (c0 c1 c2 c3 c4 c5 c6 c7 c8:D) (cs:List D):a0a tab a0y 8 (.fptr (c0::c1::c2::c3::c4::c5::c6::c7::c8::cs))=some (.fptr (c8::cs)):=id rfl
@[simp] theorem b2k (o k f:Nat):a0a tab a0y 8 (.ptr o k f)=some (.ptr o k (f+8)):=id rfl
@[simp] theorem c2n (c0 c1 c2 c3 c4 c5 c6 c7 c8 c9:D) (cs:List D):a0a tab a0y 9 (.fptr (c0::c1::c2::c3::c4::c5::c6::c7::c8::c9::cs))=some (.fptr (c9::cs)):=id rfl
@[simp] theorem a4a (o k f:Nat):a0a tab a0y 9 (.ptr o k f)=some (.ptr o k (f+9)):=id rfl
@[simp] theorem b8i (c:D) (cs:List D) (h:Hp):a0c tab h a1p (.fptr (c::cs))=some c:=id rfl
@[simp] theorem c1j (h:Hp) (o k f:Nat):a0c tab h a1p (.ptr o k f)=(h.row o k).bind fun row=>(row.drop f).head?:=by show (match h.row o k with | some row=>_ | none=>none)=_;cases h.row o k <;> rfl
@[simp] theorem a2r {α:Type} {f:α→List D} {l:List α} {d:D} (h:SlOf 2 f l d):a0t tab a1p d=some (.int .i64 l.length) := 
 by
  rcases h with ⟨rfl,rfl⟩ | ⟨b,rfl⟩
  ·rfl
  ·show some (D.int .i64 ((l.map f).length:Nat))=_;simp
theorem c2E {h:Hp} {n0 e z:Nat} {rows:List (List D)} {d:D} (hd:Own h n0 e z rows d):a0t tab a1p d=some (.int .i64 rows.length):=by
 rcases hd with ⟨rfl,rfl⟩ | ⟨o,_,rfl,_⟩ <;> rfl
@[simp] theorem c2C (z o r n:Nat):a0t tab a1p (.msl z o r n)=some (.int .i64 n):=id rfl
@[simp] theorem c8P:a0t tab a1p .nils=some (.int .i64 0):=id rfl
@[simp] theorem b3C (d0:D) (d1:D) (d2:D) (d3:D) (h0:d0.one=true) (h1:d1.one=true) (h2:d2.one=true) (h3:d3.one=true):a0W tab a6r 4 [0,1,2,3] [d0,d1,d2,d3]=some (.sl 1 true [[d0],[d1],[d2],[d3]]):=a4V (T:=tab) (t:=a6r) (n:=4) (i:=b9E) (j:=b9D) (id rfl) (id rfl) (id rfl) (id rfl) [d0,d1,d2,d3] rfl (by decide) (by simp [h0,h1,h2,h3])
@[simp] theorem b8k (z:Nat) (f:Bool) (rows:List (List D)):a0t tab a6r (.sl z f rows)=some (.int .i64 rows.length):=id rfl
@[simp] theorem b1u (f:Bool) (rows:List (List D)) (i:Int):a0b tab a6r (.sl 1 f rows) (.int .i64 i)=if 0≤i then (rows[i.toNat]?).map .fptr else none:=by show (if 1=1∧0≤i then (match rows[i.toNat]? with | some row=>some (D.fptr row) | none=>none) else none)=_;by_cases h:0≤i <;> simp [h] <;> cases rows[i.toNat]? <;> rfl
@[simp] theorem b1y (c:D) (cs:List D) (h:Hp):a0c tab h c3g (.fptr (c::cs))=some c:=id rfl
@[simp] theorem c2o (c0 c1:D) (cs:List D):a0a tab a1Z 1 (.fptr (c0::c1::cs))=some (.fptr (c1::cs)):=id rfl
@[simp] theorem a3G (o k f:Nat):a0a tab a1Z 1 (.ptr o k f)=some (.ptr o k (f+1)):=id rfl
@[simp] theorem c7E (x0_0 x0_1:D):a0W tab a1p 1 [0] [.agg [x0_0,x0_1]]=some (.sl 2 true [[x0_0,x0_1]]):=id rfl
theorem c5m {h:Hp} {n0:Nat} (hn0:n0≤h.length) {rows:List (List D)} {x y:D} (hx:Own h n0 a0T 2 rows x) {ys:List (List D)} (hy:a1a h 2 y=some ys) (hl:(rows.length+ys.length)*32≤140737488355328) {β:Type} {f:D × Hp→Option β} {Q:β→Prop}
  (k:∀ x' h',Own h' n0 a0T 2 (rows++ys) x'→h.length≤h'.length→(∀ q,q<n0→h'[q]?=h[q]?)→(∀ q,q<h.length→¬ x.inOb q→h'[q]?=h[q]?)→(∀ q,x'.inOb q→x.inOb q∨h.length≤q)→Wp (f (x',h')) Q):Wp ((a0q tab h a1p a1p x y).bind f) Q := 
 a5f (T:=tab) (i:=d0G) (j:=ti109) (id rfl) (id rfl) (id rfl) (by decide) hn0 hx hy (a2n hl (by omega)) k
theorem c1K {h:Hp} {o T sz kk off:Nat} {rows:List (List D)} {row:List D} {v:D} (ho:h[o]?=some (.row T sz rows)) (hr:rows[kk]?=some row) (hv:(a0B v).length=1) (hl:off+1≤row.length) (hk:v.okv=true) {β:Type} {f:Hp→Option β} {Q:β→Prop}
  (k:∀ h',h'[o]?=some (.row T sz (rows.set kk (spl row off (a0B v))))→Same o h h'→Wp (f h') Q):Wp ((a0p tab h a1p (.ptr o kk off) v).bind f) Q := 
 by rw [show a0p tab h a1p (.ptr o kk off) v=pSt 1 h (.ptr o kk off) v from rfl];exact a3j ho hr hv hl hk k
@[simp] theorem d9v (f:Bool) (rows:List (List D)) (i:Int):a0b tab a1p (.sl 2 f rows) (.int .i64 i)=if 0≤i then (rows[i.toNat]?).map .fptr else none:=by show (if 2=2∧0≤i then (match rows[i.toNat]? with | some row=>some (D.fptr row) | none=>none) else none)=_;by_cases h:0≤i <;> simp [h] <;> cases rows[i.toNat]? <;> rfl
@[simp] theorem b5J (o r n:Nat) (i:Int):a0b tab a1p (.msl 2 o r n) (.int .i64 i)=if 0≤i∧i<n then some (.ptr o (r+i.toNat) 0) else none:=by show (if 2=2∧0≤i∧i<n then some (D.ptr o (r+i.toNat) 0) else none)=_;simp
@[simp] theorem a7a {α:Type} {f:α→List D} {l:List α} {d:D} (h:SlOf 2 f l d) (i:Int):a0b tab a1p d (.int .i64 i)=if 0≤i then (l[i.toNat]?).map fun p => .fptr (f p) else none := 
 by
  rcases h with ⟨rfl,rfl⟩ | ⟨b,rfl⟩
  ·show none=_;simp
  ·rw [d9v];simp [Function.comp_def]
@[simp] theorem b7d (c0:D) (cs:List D):a0a tab a0T 0 (.fptr (c0::cs))=some (.fptr (c0::cs)):=id rfl
@[simp] theorem a7p (o k f:Nat):a0a tab a0T 0 (.ptr o k f)=some (.ptr o k (f+0)):=id rfl
@[simp] theorem d2S (c0 c1:D) (cs:List D):a0a tab a0T 1 (.fptr (c0::c1::cs))=some (.fptr (c1::cs)):=id rfl
@[simp] theorem b3V (o k f:Nat):a0a tab a0T 1 (.ptr o k f)=some (.ptr o k (f+1)):=id rfl
@[simp] theorem a9x (k:IntKind) (n:Int):a1m tab ty5 a1h (.int k n)=some (.int .u64 (IntKind.wrap .u64 n)):=id rfl
@[simp] theorem b1Z (k:IntKind) (n:Int):a1m tab ty3 b0t (.int k n)=some (.int .u64 (IntKind.wrap .u64 n)):=id rfl
@[simp] theorem c8I (h:Hp) (o k f:Nat):a0c tab h a0T (.ptr o k f)=(h.row o k).bind fun row=>a8u 2 (row.drop f):=by show (match h.row o k with | some row=>_ | none=>none)=_;cases h.row o k <;> rfl
@[simp] theorem d0N (a0 b0:List UInt8) (a1 b1:List UInt8):a0i tab .neq a0T (.agg [.str a0,.str a1]) (.agg [.str b0,.str b1])=some (.bool (!(a0==b0&&(a1==b1&&true)))):=id rfl
@[simp] theorem c0m  : a0W tab a0E 0 [] []=some (.sl 3 true []):=id rfl
@[simp] theorem c2b  : a0W tab a1C 0 [] []=some (.sl 3 true []):=id rfl
theorem d6X {h:Hp} {o T sz kk off:Nat} {rows:List (List D)} {row:List D} {v:D} (ho:h[o]?=some (.row T sz rows)) (hr:rows[kk]?=some row) (hv:(a0B v).length=1) (hl:off+1≤row.length) (hk:v.okv=true) {β:Type} {f:Hp→Option β} {Q:β→Prop}
  (k:∀ h',h'[o]?=some (.row T sz (rows.set kk (spl row off (a0B v))))→Same o h h'→Wp (f h') Q):Wp ((a0p tab h a3f (.ptr o kk off) v).bind f) Q := 
 by rw [show a0p tab h a3f (.ptr o kk off) v=pSt 1 h (.ptr o kk off) v from rfl];exact a3j ho hr hv hl hk k
@[simp] theorem c8S {α:Type} {f:α→List D} {l:List α} {d:D} (h:SlOf 1 f l d):a0t tab a6X d=some (.int .i64 l.length) := 
 by
  rcases h with ⟨rfl,rfl⟩ | ⟨b,rfl⟩
  ·rfl
  ·show some (D.int .i64 ((l.map f).length:Nat))=_;simp
@[simp] theorem b5v (n0:Int) (n1:Int) (n2:Int):a0U tab a0y [0,1,2] [.int .i64 n0,.int .i64 n1,.int .i64 n2]=some (.agg [.int .i64 n0,.int .i64 n1,.int .i64 n2,.int .i64 0,.nils,.int .i64 0,.int .i64 0,.str [],.str [],.nils]):=id rfl
@[simp] theorem b5w (n0:Int) (n1:Int) (s2:List UInt8):a0U tab a1Z [0,1,2] [.int .i64 n0,.int .i64 n1,.str s2]=some (.agg [.int .i64 n0,.int .i64 n1,.str s2]):=id rfl
def lt98_4:List (List UInt8):=[[115,97,109,112,108,101],[100,114,111,112],[116,111,111,45,108,111,110,103]]
@[simp] theorem b8z:a0W tab a5K 3 [0,1,2] [.str [115,97,109,112,108,101],.str [100,114,111,112],.str [116,111,111,45,108,111,110,103]]=some (.sl 1 true (lt98_4.map fun s=>[.str s])):=id rfl
@[simp] theorem c8s (f:Bool) (rows:List (List D)) (i:Int):a0b tab a5K (.sl 1 f rows) (.int .i64 i)=if 0≤i then (rows[i.toNat]?).map .fptr else none:=by show (if 1=1∧0≤i then (match rows[i.toNat]? with | some row=>some (D.fptr row) | none=>none) else none)=_;by_cases h:0≤i <;> simp [h] <;> cases rows[i.toNat]? <;> rfl
@[simp] theorem c0i (s0:List UInt8) (x1_0 x1_1 x1_2 x1_3 x1_4 x1_5 x1_6 x1_7 x1_8 x1_9:D):a0U tab a0z [0,1] [.str s0,.agg [x1_0,x1_1,x1_2,x1_3,x1_4,x1_5,x1_6,x1_7,x1_8,x1_9]]=some (.agg [.str s0,x1_0,x1_1,x1_2,x1_3,x1_4,x1_5,x1_6,x1_7,x1_8,x1_9]):=id rfl
def lt98_5:List (List UInt8):=[[116,49],[116,50],[],[49,58,50,58,48]]
@[simp] theorem b8A:a0W tab a5K 4 [0,1,2,3] [.str [116,49],.str [116,50],.str [],.str [49,58,50,58,48]]=some (.sl 1 true (lt98_5.map fun s=>[.str s])):=id rfl
def lt98_6:List (List UInt8):=[[109,97,105,110],[100,101,98,117,103]]
@[simp] theorem b8B:a0W tab a5K 2 [0,1] [.str [109,97,105,110],.str [100,101,98,117,103]]=some (.sl 1 true (lt98_6.map fun s=>[.str s])):=id rfl
@[simp] theorem c7y (x0_0 x0_1 x0_2 x0_3 x0_4 x0_5 x0_6 x0_7 x0_8 x0_9:D):a0U tab a0z [1] [.agg [x0_0,x0_1,x0_2,x0_3,x0_4,x0_5,x0_6,x0_7,x0_8,x0_9]]=some (.agg [.str [],x0_0,x0_1,x0_2,x0_3,x0_4,x0_5,x0_6,x0_7,x0_8,x0_9]):=id rfl
theorem d6Y {h:Hp} {o T sz kk off:Nat} {rows:List (List D)} {row:List D} {v:D} (ho:h[o]?=some (.row T sz rows)) (hr:rows[kk]?=some row) (hv:(a0B v).length=3) (hl:off+3≤row.length) (hk:v.okv=true) {β:Type} {f:Hp→Option β} {Q:β→Prop}
  (k:∀ h',h'[o]?=some (.row T sz (rows.set kk (spl row off (a0B v))))→Same o h h'→Wp (f h') Q):Wp ((a0p tab h a1Z (.ptr o kk off) v).bind f) Q := 
 by rw [show a0p tab h a1Z (.ptr o kk off) v=pSt 3 h (.ptr o kk off) v from rfl];exact a3j ho hr hv hl hk k
@[simp] theorem c7B  : a0W tab a1j 0 [] []=some (.sl 3 true []):=id rfl
@[simp] theorem c7D  : a0W tab a1p 0 [] []=some (.sl 2 true []):=id rfl
def lt98_7:List (List UInt8):=[[32],[32],[44,32],[61],[]]
@[simp] theorem b8C:a0W tab a5K 5 [0,1,2,3,4] [.str [32],.str [32],.str [44,32],.str [61],.str []]=some (.sl 1 true (lt98_7.map fun s=>[.str s])):=id rfl
def lt82_8:List Int:=[1,1,2,5,10,5040]
@[simp] theorem c8T:a0W tab a6X 6 [0,1,2,3,4,5] [.int .i64 1,.int .i64 1,.int .i64 2,.int .i64 5,.int .i64 10,.int .i64 5040]=some (.sl 1 true (lt82_8.map fun n=>[.int .i64 n])):=id rfl
def lt98_9:List (List UInt8):=[[99,111,100,101],[108,101,118,101,108],[109,115],[117,115,101,114]]
@[simp] theorem b5M:lt98_9.length=4:=id rfl
@[simp] theorem b8D:a0W tab a5K 4 [0,1,2,3] [.str [99,111,100,101],.str [108,101,118,101,108],.str [109,115],.str [117,115,101,114]]=some (.sl 1 true (lt98_9.map fun s=>[.str s])):=id rfl
@[simp] theorem d5D (z:Nat) (f:Bool) (rows:List (List D)):a0t tab a5K (.sl z f rows)=some (.int .i64 rows.length):=id rfl
@[simp] theorem b6q (s0:List UInt8) (s1:List UInt8):a0U tab a0T [0,1] [.str s0,.str s1]=some (.agg [.str s0,.str s1]):=id rfl
theorem b9N {h:Hp} {o T sz kk off:Nat} {rows:List (List D)} {row:List D} {v:D} (ho:h[o]?=some (.row T sz rows)) (hr:rows[kk]?=some row) (hv:(a0B v).length=2) (hl:off+2≤row.length) (hk:v.okv=true) {β:Type} {f:Hp→Option β} {Q:β→Prop}
  (k:∀ h',h'[o]?=some (.row T sz (rows.set kk (spl row off (a0B v))))→Same o h h'→Wp (f h') Q):Wp ((a0p tab h a0T (.ptr o kk off) v).bind f) Q := 
 by rw [show a0p tab h a0T (.ptr o kk off) v=pSt 2 h (.ptr o kk off) v from rfl];exact a3j ho hr hv hl hk k
@[simp] theorem b6p (n0:Int) (s1:List UInt8):a0U tab a1k [0,1] [.int .i64 n0,.str s1]=some (.agg [.int .i64 n0,.str s1,.int .i64 0]):=id rfl
@[simp] theorem b6I (k:IntKind) (n:Int):a1m tab b0t ty3 (.int k n)=some (.int .i64 (IntKind.wrap .i64 n)):=id rfl
def lt98_10:List (List UInt8):=[[103,101,116],[101,114,114,111,114],[119,97,114,110],[97,49],[117,115,101,114,95,55],[120],[84,105,109,101,111,117,116],[50,48,48],[71,69,84],[101,114,114,111],[122],[],[255],[97,46,98]]
@[simp] theorem c4C:lt98_10.length=14:=id rfl
@[simp] theorem c5D:a0W tab a5K 14 [0,1,2,3,4,5,6,7,8,9,10,11,12,13] [.str [103,101,116],.str [101,114,114,111,114],.str [119,97,114,110],.str [97,49],.str [117,115,101,114,95,55],.str [120],.str [84,105,109,101,111,117,116],.str [50,48,48],.str [71,69,84],.str [101,114,114,111],.str [122],.str [],.str [255],.str [97,46,98]]=some (.sl 1 true (lt98_10.map fun s=>[.str s])):=id rfl
def lt98_1:List (List UInt8):=[[119,97,114,110],[105,110,102,111],[55],[45,51],[51,49],[],[120,32,121],[57,57,57,57,57,57,57,57,57,57,57,57,57,57,57,57,57,57],[49,48,48,48,48,48,48,48,48,48,48,48,48,48,48,48,48,48,48],[48,55],[45]]
@[simp] theorem c5E:lt98_1.length=11:=id rfl
@[simp] theorem c8U:a0W tab a5K 11 [0,1,2,3,4,5,6,7,8,9,10] [.str [119,97,114,110],.str [105,110,102,111],.str [55],.str [45,51],.str [51,49],.str [],.str [120,32,121],.str [57,57,57,57,57,57,57,57,57,57,57,57,57,57,57,57,57,57],.str [49,48,48,48,48,48,48,48,48,48,48,48,48,48,48,48,48,48,48],.str [48,55],.str [45]]=some (.sl 1 true (lt98_1.map fun s=>[.str s])):=id rfl
theorem d0d {h:Hp} {o T sz kk off:Nat} {rows:List (List D)} {row:List D} {v:D} (ho:h[o]?=some (.row T sz rows)) (hr:rows[kk]?=some row) (hv:(a0B v).length=1) (hl:off+1≤row.length) (hk:v.okv=true) {β:Type} {f:Hp→Option β} {Q:β→Prop}
  (k:∀ h',h'[o]?=some (.row T sz (rows.set kk (spl row off (a0B v))))→Same o h h'→Wp (f h') Q):Wp ((a0p tab h a0L (.ptr o kk off) v).bind f) Q := 
 by rw [show a0p tab h a0L (.ptr o kk off) v=pSt 1 h (.ptr o kk off) v from rfl];exact a3j ho hr hv hl hk k
theorem d7w {h:Hp} {o T sz kk off:Nat} {rows:List (List D)} {row:List D} {v:D} (ho:h[o]?=some (.row T sz rows)) (hr:rows[kk]?=some row) (hv:(a0B v).length=1) (hl:off+1≤row.length) (hk:v.okv=true) {β:Type} {f:Hp→Option β} {Q:β→Prop}
  (k:∀ h',h'[o]?=some (.row T sz (rows.set kk (spl row off (a0B v))))→Same o h h'→Wp (f h') Q):Wp ((a0p tab h ty4 (.ptr o kk off) v).bind f) Q := 
 by rw [show a0p tab h ty4 (.ptr o kk off) v=pSt 1 h (.ptr o kk off) v from rfl];exact a3j ho hr hv hl hk k
@[simp] theorem a4c (d:D) (xs:List D) (h:Hp):a2U tab R "logtide/event.count" (.iface a4N d::xs) h=R b7M (d::xs) h:=by kernel_rfl
@[simp] theorem a2q (d:D) (xs:List D) (h:Hp):a2U tab R "logtide/event.number" (.iface a4N d::xs) h=R b7N (d::xs) h:=by kernel_rfl
@[simp] theorem a3z (d:D) (xs:List D) (h:Hp):a2U tab R "logtide/event.text" (.iface a4N d::xs) h=R b7O (d::xs) h:=by kernel_rfl
@[simp] theorem a4d (d:D) (xs:List D) (h:Hp):a2U tab R "logtide/event.count" (.iface a3W d::xs) h=R b4C (d::xs) h:=by kernel_rfl
@[simp] theorem a1J (d:D) (xs:List D) (h:Hp):a2U tab R "logtide/event.number" (.iface a3W d::xs) h=R b4D (d::xs) h:=by kernel_rfl
@[simp] theorem a3d (d:D) (xs:List D) (h:Hp):a2U tab R "logtide/event.text" (.iface a3W d::xs) h=R b4E (d::xs) h:=by kernel_rfl
end Go.Proofs.YthaajlepgblimaaGreatDoor

/- Operations at the types of this seat. -/
import Derived.Test.YtkpnnfhodlanjaaGreatDoorC9
import Derived.Test.YtkpnnfhodlanjaaGreatDoorPiZ
set_option linter.unusedSimpArgs false
set_option linter.unusedVariables false
set_option linter.unnecessarySimpa false
set_option maxRecDepth 20000
set_option maxHeartbeats 2000000
namespace Go.Proofs.YtkpnnfhodlanjaaGreatDoor
open Go.Eng Go.Pi
@[simp] theorem b6R (f:Bool) (rows:List (List D)) (i:Int):a0a tab a1d (.sl 1 f rows) (.int .i64 i)=if 0≤i then (rows[i.toNat]?).map .fptr else none:=by show (if 1=1∧0≤i then (match rows[i.toNat]? with | some row=>some (D.fptr row) | none=>none) else none)=_;by_cases h:0≤i <;> simp [h] <;> cases rows[i.toNat]? <;> rfl
@[simp] theorem a4u {α:Type} {f:α→List D} {l:List α} {d:D} (h:SlOf 1 f l d) (i:Int):a0a tab a1d d (.int .i64 i)=if 0≤i then (l[i.toNat]?).map fun p => .fptr (f p) else none := 
 by
  rcases h with ⟨rfl,rfl⟩ | ⟨b,rfl⟩
  ·show none=_;simp
  ·rw [b6R];simp [Function.comp_def]
@[simp] theorem ld9 (c:D) (cs:List D) (h:Hp):a0c tab h ty9 (.fptr (c::cs))=some c:=id rfl
@[simp] theorem c8M (h:Hp) (o k f:Nat):a0c tab h ty9 (.ptr o k f)=(h.row o k).bind fun row=>(row.drop f).head?:=by show (match h.row o k with | some row=>_ | none=>none)=_;cases h.row o k <;> rfl
@[simp] theorem b2m (h:Hp) (o k f:Nat):a0c tab h a0C (.ptr o k f)=(h.row o k).bind fun row=>a8d 10 (row.drop f):=by show (match h.row o k with | some row=>_ | none=>none)=_;cases h.row o k <;> rfl
@[simp] theorem b9g (x0_0 x0_1 x0_2 x0_3 x0_4 x0_5 x0_6 x0_7 x0_8 x0_9:D):a0N tab a2a [1] [.agg [x0_0,x0_1,x0_2,x0_3,x0_4,x0_5,x0_6,x0_7,x0_8,x0_9]]=some (.agg [.str [],x0_0,x0_1,x0_2,x0_3,x0_4,x0_5,x0_6,x0_7,x0_8,x0_9]):=id rfl
@[simp] theorem b9G (c0 c1 c2 c3 c4 c5:D) (cs:List D):a0b tab a0C 5 (.fptr (c0::c1::c2::c3::c4::c5::cs))=some (.fptr (c5::cs)):=id rfl
@[simp] theorem b6w (o k f:Nat):a0b tab a0C 5 (.ptr o k f)=some (.ptr o k (f+5)):=id rfl
@[simp] theorem ld3 (c:D) (cs:List D) (h:Hp):a0c tab h ty3 (.fptr (c::cs))=some c:=id rfl
@[simp] theorem c1O (h:Hp) (o k f:Nat):a0c tab h ty3 (.ptr o k f)=(h.row o k).bind fun row=>(row.drop f).head?:=by show (match h.row o k with | some row=>_ | none=>none)=_;cases h.row o k <;> rfl
@[simp] theorem b9D (c0:D) (cs:List D):a0b tab a0C 0 (.fptr (c0::cs))=some (.fptr (c0::cs)):=id rfl
@[simp] theorem c3q (o k f:Nat):a0b tab a0C 0 (.ptr o k f)=some (.ptr o k (f+0)):=id rfl
@[simp] theorem b9E (c0 c1:D) (cs:List D):a0b tab a0C 1 (.fptr (c0::c1::cs))=some (.fptr (c1::cs)):=id rfl
@[simp] theorem c3r (o k f:Nat):a0b tab a0C 1 (.ptr o k f)=some (.ptr o k (f+1)):=id rfl
@[simp] theorem b9F (c0 c1 c2:D) (cs:List D):a0b tab a0C 2 (.fptr (c0::c1::c2::cs))=some (.fptr (c2::cs)):=id rfl
@[simp] theorem c3s (o k f:Nat):a0b tab a0C 2 (.ptr o k f)=some (.ptr o k (f+2)):=id rfl
@[simp] theorem a2p {α:Type} {f:α→List D} {l:List α} {d:D} (h:SlOf 20 f l d):a0B tab a0P d=some (.int .i64 l.length) := 
 by
  rcases h with ⟨rfl,rfl⟩ | ⟨b,rfl⟩
  ·rfl
  ·show some (D.int .i64 ((l.map f).length:Nat))=_;simp
@[simp] theorem b4v (z o r n:Nat):a0B tab a0P (.msl z o r n)=some (.int .i64 n):=id rfl
@[simp] theorem b9U (f:Bool) (rows:List (List D)) (i:Int):a0a tab a0P (.sl 20 f rows) (.int .i64 i)=if 0≤i then (rows[i.toNat]?).map .fptr else none:=by show (if 20=20∧0≤i then (match rows[i.toNat]? with | some row=>some (D.fptr row) | none=>none) else none)=_;by_cases h:0≤i <;> simp [h] <;> cases rows[i.toNat]? <;> rfl
@[simp] theorem b6S (o r n:Nat) (i:Int):a0a tab a0P (.msl 20 o r n) (.int .i64 i)=if 0≤i∧i<n then some (.ptr o (r+i.toNat) 0) else none:=by show (if 20=20∧0≤i∧i<n then some (D.ptr o (r+i.toNat) 0) else none)=_;simp
@[simp] theorem b6T {α:Type} {f:α→List D} {l:List α} {d:D} (h:SlOf 20 f l d) (i:Int):a0a tab a0P d (.int .i64 i)=if 0≤i then (l[i.toNat]?).map fun p => .fptr (f p) else none := 
 by
  rcases h with ⟨rfl,rfl⟩ | ⟨b,rfl⟩
  ·show none=_;simp
  ·rw [b9U];simp [Function.comp_def]
@[simp] theorem c1z (o k f:Nat):a0b tab a3r 0 (.ptr o k f)=some (.ptr o k (f+0)):=id rfl
@[simp] theorem c8b (h:Hp) (o k f:Nat):a0c tab h a3h (.ptr o k f)=(h.row o k).bind fun row=>(row.drop f).head?:=by show (match h.row o k with | some row=>_ | none=>none)=_;cases h.row o k <;> rfl
@[simp] theorem c1A (o k f:Nat):a0b tab a3r 1 (.ptr o k f)=some (.ptr o k (f+1)):=id rfl
@[simp] theorem c8K (f:Bool) (rows:List (List D)) (i:Int):a0a tab a3h (.sl 1 f rows) (.int .i64 i)=if 0≤i then (rows[i.toNat]?).map .fptr else none:=by show (if 1=1∧0≤i then (match rows[i.toNat]? with | some row=>some (D.fptr row) | none=>none) else none)=_;by_cases h:0≤i <;> simp [h] <;> cases rows[i.toNat]? <;> rfl
@[simp] theorem ld5 (c:D) (cs:List D) (h:Hp):a0c tab h ty5 (.fptr (c::cs))=some c:=id rfl
@[simp] theorem b6n (k:IntKind) (n:Int):a2e tab ty5 ty3 (.int k n)=some (.int .i64 (IntKind.wrap .i64 n)):=id rfl
theorem b8f {h:Hp} {o T sz kk off:Nat} {rows:List (List D)} {row:List D} {v:D} (ho:h[o]?=some (.row T sz rows)) (hr:rows[kk]?=some row) (hv:(a0A v).length=1) (hl:off+1≤row.length) (hk:v.okv=true) {β:Type} {f:Hp→Option β} {Q:β→Prop}
  (k:∀ h',h'[o]?=some (.row T sz (rows.set kk (spl row off (a0A v))))→Same o h h'→Wp (f h') Q):Wp ((a0p tab h ty3 (.ptr o kk off) v).bind f) Q := 
 by rw [show a0p tab h ty3 (.ptr o kk off) v=pSt 1 h (.ptr o kk off) v from rfl];exact a2Y ho hr hv hl hk k
theorem c0j {h:Hp} {n0 e z:Nat} {rows:List (List D)} {d:D} (hd:Own h n0 e z rows d):a0B tab a3h d=some (.int .i64 rows.length):=by
 rcases hd with ⟨rfl,rfl⟩ | ⟨o,_,rfl,_⟩ <;> rfl
@[simp] theorem c8d (z:Nat) (f:Bool) (rows:List (List D)):a0B tab a3h (.sl z f rows)=some (.int .i64 rows.length):=id rfl
@[simp] theorem b6i (d0:D) (h0:d0.one=true):a0N tab a3r [0] [d0]=some (.agg [d0,.int .i64 0]):=by
 have c0:=a2X h0
 refine b9h (T:=tab) (i:=ti101) (fs:=[(22,0,1),(3,1,1)]) (id rfl) (id rfl) ?_
 rw [show ti101.zero=[.nils,.int .i64 0] from id rfl]
 rw [a4Q (off:=0) (sz:=1) (id rfl) (by rw [c0.1];rfl) (by simp [spl,a4a,a4b,a3z,a3j]) c0.2,c0.1]
 exact id rfl
@[simp] theorem b7d {α:Type} {f:α→List D} {l:List α} {d:D} (h:SlOf 1 f l d):a0B tab a3D d=some (.int .i64 l.length) := 
 by
  rcases h with ⟨rfl,rfl⟩ | ⟨b,rfl⟩
  ·rfl
  ·show some (D.int .i64 ((l.map f).length:Nat))=_;simp
@[simp] theorem c3M (f:Bool) (rows:List (List D)) (i:Int):a0a tab a3D (.sl 1 f rows) (.int .i64 i)=if 0≤i then (rows[i.toNat]?).map .fptr else none:=by show (if 1=1∧0≤i then (match rows[i.toNat]? with | some row=>some (D.fptr row) | none=>none) else none)=_;by_cases h:0≤i <;> simp [h] <;> cases rows[i.toNat]? <;> rfl
@[simp] theorem b9X {α:Type} {f:α→List D} {l:List α} {d:D} (h:SlOf 1 f l d) (i:Int):a0a tab a3D d (.int .i64 i)=if 0≤i then (l[i.toNat]?).map fun p => .fptr (f p) else none := 
 by
  rcases h with ⟨rfl,rfl⟩ | ⟨b,rfl⟩
  ·show none=_;simp
  ·rw [c3M];simp [Function.comp_def]
@[simp] theorem c3X (c:D) (cs:List D) (h:Hp):a0c tab h a2n (.fptr (c::cs))=some c:=id rfl
@[simp] theorem b7e {α:Type} {f:α→List D} {l:List α} {d:D} (h:SlOf 11 f l d):a0B tab a2n d=some (.int .i64 l.length) := 
 by
  rcases h with ⟨rfl,rfl⟩ | ⟨b,rfl⟩
  ·rfl
  ·show some (D.int .i64 ((l.map f).length:Nat))=_;simp
@[simp] theorem c3N (f:Bool) (rows:List (List D)) (i:Int):a0a tab a2n (.sl 11 f rows) (.int .i64 i)=if 0≤i then (rows[i.toNat]?).map .fptr else none:=by show (if 11=11∧0≤i then (match rows[i.toNat]? with | some row=>some (D.fptr row) | none=>none) else none)=_;by_cases h:0≤i <;> simp [h] <;> cases rows[i.toNat]? <;> rfl
@[simp] theorem b9Y {α:Type} {f:α→List D} {l:List α} {d:D} (h:SlOf 11 f l d) (i:Int):a0a tab a2n d (.int .i64 i)=if 0≤i then (l[i.toNat]?).map fun p => .fptr (f p) else none := 
 by
  rcases h with ⟨rfl,rfl⟩ | ⟨b,rfl⟩
  ·show none=_;simp
  ·rw [c3N];simp [Function.comp_def]
@[simp] theorem c5x (c0 c1:D) (cs:List D):a0b tab a2a 1 (.fptr (c0::c1::cs))=some (.fptr (c1::cs)):=id rfl
@[simp] theorem a9Q {α:Type} {f:α→List D} {l:List α} {d:D} (h:SlOf 10 f l d):a0B tab a2o d=some (.int .i64 l.length) := 
 by
  rcases h with ⟨rfl,rfl⟩ | ⟨b,rfl⟩
  ·rfl
  ·show some (D.int .i64 ((l.map f).length:Nat))=_;simp
@[simp] theorem c0h (z o r n:Nat):a0B tab a2o (.msl z o r n)=some (.int .i64 n):=id rfl
@[simp] theorem b5y (c0 c1 c2 c3 c4:D) (cs:List D) (h:Hp):a0c tab h a0l (.fptr (c0::c1::c2::c3::c4::cs))=some (.agg [c0,c1,c2,c3,c4]):=id rfl
@[simp] theorem a8w (h:Hp) (o k f:Nat):a0c tab h a0l (.ptr o k f)=(h.row o k).bind fun row=>a8d 5 (row.drop f):=by show (match h.row o k with | some row=>_ | none=>none)=_;cases h.row o k <;> rfl
@[simp] theorem c7Y (f:Bool) (rows:List (List D)) (i:Int):a0a tab a2o (.sl 10 f rows) (.int .i64 i)=if 0≤i then (rows[i.toNat]?).map .fptr else none:=by show (if 10=10∧0≤i then (match rows[i.toNat]? with | some row=>some (D.fptr row) | none=>none) else none)=_;by_cases h:0≤i <;> simp [h] <;> cases rows[i.toNat]? <;> rfl
@[simp] theorem c3P (o r n:Nat) (i:Int):a0a tab a2o (.msl 10 o r n) (.int .i64 i)=if 0≤i∧i<n then some (.ptr o (r+i.toNat) 0) else none:=by show (if 10=10∧0≤i∧i<n then some (D.ptr o (r+i.toNat) 0) else none)=_;simp
@[simp] theorem b0A {α:Type} {f:α→List D} {l:List α} {d:D} (h:SlOf 10 f l d) (i:Int):a0a tab a2o d (.int .i64 i)=if 0≤i then (l[i.toNat]?).map fun p => .fptr (f p) else none := 
 by
  rcases h with ⟨rfl,rfl⟩ | ⟨b,rfl⟩
  ·show none=_;simp
  ·rw [c7Y];simp [Function.comp_def]
@[simp] theorem c5r (x0_0 x0_1 x0_2 x0_3 x0_4 x0_5 x0_6 x0_7 x0_8 x0_9:D):a0J tab a2o 1 [0] [.agg [x0_0,x0_1,x0_2,x0_3,x0_4,x0_5,x0_6,x0_7,x0_8,x0_9]]=some (.sl 10 true [[x0_0,x0_1,x0_2,x0_3,x0_4,x0_5,x0_6,x0_7,x0_8,x0_9]]):=id rfl
theorem b0K {h:Hp} {n0:Nat} (hn0:n0≤h.length) {rows:List (List D)} {x y:D} (hx:Own h n0 a0C 10 rows x) {ys:List (List D)} (hy:a1b h 10 y=some ys) (hl:(rows.length+ys.length)*128≤140737488355328) {β:Type} {f:D × Hp→Option β} {Q:β→Prop}
  (k:∀ x' h',Own h' n0 a0C 10 (rows++ys) x'→h.length≤h'.length→(∀ q,q<n0→h'[q]?=h[q]?)→(∀ q,q<h.length→¬ x.inOb q→h'[q]?=h[q]?)→(∀ q,x'.inOb q→x.inOb q∨h.length≤q)→Wp (f (x',h')) Q):Wp ((a0D tab h a2o a2o x y).bind f) Q := 
 a2M (T:=tab) (i:=c0R) (j:=c0Q) (id rfl) (id rfl) (id rfl) (by decide) hn0 hx hy (a2B hl (by omega)) k
@[simp] theorem a3Z (n0:Int) (s1:List UInt8):a0N tab a0l [0,2] [.int .i64 n0,.str s1]=some (.agg [.int .i64 n0,.str [],.str s1,.int .i64 0,.nils]):=id rfl
theorem a8J {h:Hp} {o T sz kk off:Nat} {rows:List (List D)} {row:List D} {v:D} (ho:h[o]?=some (.row T sz rows)) (hr:rows[kk]?=some row) (hv:(a0A v).length=5) (hl:off+5≤row.length) (hk:v.okv=true) {β:Type} {f:Hp→Option β} {Q:β→Prop}
  (k:∀ h',h'[o]?=some (.row T sz (rows.set kk (spl row off (a0A v))))→Same o h h'→Wp (f h') Q):Wp ((a0p tab h a0l (.ptr o kk off) v).bind f) Q := 
 by rw [show a0p tab h a0l (.ptr o kk off) v=pSt 5 h (.ptr o kk off) v from rfl];exact a2Y ho hr hv hl hk k
@[simp] theorem a4j (n0:Int) (s1:List UInt8) (s2:List UInt8):a0N tab a0l [0,1,2] [.int .i64 n0,.str s1,.str s2]=some (.agg [.int .i64 n0,.str s1,.str s2,.int .i64 0,.nils]):=id rfl
@[simp] theorem b0j (n0:Int) (s1:List UInt8):a0N tab a0l [0,1] [.int .i64 n0,.str s1]=some (.agg [.int .i64 n0,.str s1,.str [],.int .i64 0,.nils]):=id rfl
@[simp] theorem a7l (n0:Int) (s1:List UInt8) (n2:Int):a0N tab a0l [0,1,3] [.int .i64 n0,.str s1,.int .i64 n2]=some (.agg [.int .i64 n0,.str s1,.str [],.int .i64 n2,.nils]):=id rfl
@[simp] theorem a7v (o k f:Nat):a0b tab a0l 1 (.ptr o k f)=some (.ptr o k (f+1)):=id rfl
theorem c1S {h:Hp} {o T sz kk off:Nat} {rows:List (List D)} {row:List D} {v:D} (ho:h[o]?=some (.row T sz rows)) (hr:rows[kk]?=some row) (hv:(a0A v).length=1) (hl:off+1≤row.length) (hk:v.okv=true) {β:Type} {f:Hp→Option β} {Q:β→Prop}
  (k:∀ h',h'[o]?=some (.row T sz (rows.set kk (spl row off (a0A v))))→Same o h h'→Wp (f h') Q):Wp ((a0p tab h ty9 (.ptr o kk off) v).bind f) Q := 
 by rw [show a0p tab h ty9 (.ptr o kk off) v=pSt 1 h (.ptr o kk off) v from rfl];exact a2Y ho hr hv hl hk k
@[simp] theorem a7w (o k f:Nat):a0b tab a0l 3 (.ptr o k f)=some (.ptr o k (f+3)):=id rfl
@[simp] theorem c5B (f:Bool) (rows:List (List D)) (i:Int):a0a tab a3t (.sl 1 f rows) (.int .i64 i)=if 0≤i then (rows[i.toNat]?).map .fptr else none:=by show (if 1=1∧0≤i then (match rows[i.toNat]? with | some row=>some (D.fptr row) | none=>none) else none)=_;by_cases h:0≤i <;> simp [h] <;> cases rows[i.toNat]? <;> rfl
@[simp] theorem b9Z {α:Type} {f:α→List D} {l:List α} {d:D} (h:SlOf 1 f l d) (i:Int):a0a tab a3t d (.int .i64 i)=if 0≤i then (l[i.toNat]?).map fun p => .fptr (f p) else none := 
 by
  rcases h with ⟨rfl,rfl⟩ | ⟨b,rfl⟩
  ·show none=_;simp
  ·rw [c5B];simp [Function.comp_def]
@[simp] theorem b6j  : a0N tab a0l [] []=some (.agg [.int .i64 0,.str [],.str [],.int .i64 0,.nils]):=id rfl
@[simp] theorem b0k (n0:Int) (d1:D) (h1:d1.one=true):a0N tab a0l [0,4] [.int .i64 n0,d1]=some (.agg [.int .i64 n0,.str [],.str [],.int .i64 0,d1]):=by
 have c1:=a2X h1
 refine b9h (T:=tab) (i:=ti1321) (fs:=[(3,0,1),(9,1,1),(9,2,1),(3,3,1),(48,4,1)]) (id rfl) (id rfl) ?_
 rw [show ti1321.zero=[.int .i64 0,.str [],.str [],.int .i64 0,.nils] from id rfl]
 rw [a4Q (off:=0) (sz:=1) (id rfl) (id rfl) (by simp [spl,a4a,a4b,a3z,a3j]) (id rfl)]
 rw [a4Q (off:=4) (sz:=1) (id rfl) (by rw [c1.1];rfl) (by simp [spl,a4a,a4b,a3z,a3j]) c1.2,c1.1]
 exact id rfl
@[simp] theorem b3O (n0:Int):a0N tab a0l [0] [.int .i64 n0]=some (.agg [.int .i64 n0,.str [],.str [],.int .i64 0,.nils]):=id rfl
@[simp] theorem a7x (o k f:Nat):a0b tab a0l 4 (.ptr o k f)=some (.ptr o k (f+4)):=id rfl
@[simp] theorem c0f (c:D) (cs:List D) (h:Hp):a0c tab h a0I (.fptr (c::cs))=some c:=id rfl
@[simp] theorem b2l (h:Hp) (o k f:Nat):a0c tab h a0I (.ptr o k f)=(h.row o k).bind fun row=>(row.drop f).head?:=by show (match h.row o k with | some row=>_ | none=>none)=_;cases h.row o k <;> rfl
theorem b7M {h:Hp} {n0:Nat} (hn0:n0≤h.length) {rows:List (List D)} {x y:D} (hx:Own h n0 a0l 5 rows x) {ys:List (List D)} (hy:a1b h 5 y=some ys) (hl:(rows.length+ys.length)*72≤140737488355328) {β:Type} {f:D × Hp→Option β} {Q:β→Prop}
  (k:∀ x' h',Own h' n0 a0l 5 (rows++ys) x'→h.length≤h'.length→(∀ q,q<n0→h'[q]?=h[q]?)→(∀ q,q<h.length→¬ x.inOb q→h'[q]?=h[q]?)→(∀ q,x'.inOb q→x.inOb q∨h.length≤q)→Wp (f (x',h')) Q):Wp ((a0D tab h a0I a0I x y).bind f) Q := 
 a2M (T:=tab) (i:=b3l) (j:=ti1321) (id rfl) (id rfl) (id rfl) (by decide) hn0 hx hy (a2B hl (by omega)) k
theorem b7Q {h:Hp} {o T sz kk off:Nat} {rows:List (List D)} {row:List D} {v:D} (ho:h[o]?=some (.row T sz rows)) (hr:rows[kk]?=some row) (hv:(a0A v).length=1) (hl:off+1≤row.length) (hk:v.okv=true) {β:Type} {f:Hp→Option β} {Q:β→Prop}
  (k:∀ h',h'[o]?=some (.row T sz (rows.set kk (spl row off (a0A v))))→Same o h h'→Wp (f h') Q):Wp ((a0p tab h a0I (.ptr o kk off) v).bind f) Q := 
 by rw [show a0p tab h a0I (.ptr o kk off) v=pSt 1 h (.ptr o kk off) v from rfl];exact a2Y ho hr hv hl hk k
@[simp] theorem b9k (n0:Int) (n1:Int) (n2:Int) (n3:Int):a0J tab a3t 4 [0,1,2,3] [.int .i64 n0,.int .i64 n1,.int .i64 n2,.int .i64 n3]=some (.sl 1 true [[.int .i64 n0],[.int .i64 n1],[.int .i64 n2],[.int .i64 n3]]):=id rfl
@[simp] theorem b4z {α:Type} {f:α→List D} {l:List α} {d:D} (h:SlOf 2 f l d):a0B tab a0v d=some (.int .i64 l.length) := 
 by
  rcases h with ⟨rfl,rfl⟩ | ⟨b,rfl⟩
  ·rfl
  ·show some (D.int .i64 ((l.map f).length:Nat))=_;simp
theorem b4y {h:Hp} {n0 e z:Nat} {rows:List (List D)} {d:D} (hd:Own h n0 e z rows d):a0B tab a0v d=some (.int .i64 rows.length):=by
 rcases hd with ⟨rfl,rfl⟩ | ⟨o,_,rfl,_⟩ <;> rfl
@[simp] theorem a9O (z o r n:Nat):a0B tab a0v (.msl z o r n)=some (.int .i64 n):=id rfl
@[simp] theorem b4x:a0B tab a0v .nils=some (.int .i64 0):=id rfl
@[simp] theorem a4L (k:IntKind) (n:Int):a2e tab ty3 a4i (.int k n)=some (.int .u64 (IntKind.wrap .u64 n)):=id rfl
@[simp] theorem c0l {α:Type} {f:α→List D} {l:List α} {d:D} (h:SlOf 1 f l d):a0B tab a3t d=some (.int .i64 l.length) := 
 by
  rcases h with ⟨rfl,rfl⟩ | ⟨b,rfl⟩
  ·rfl
  ·show some (D.int .i64 ((l.map f).length:Nat))=_;simp
theorem b4Z {h:Hp} {o T sz kk off:Nat} {rows:List (List D)} {row:List D} {v:D} (ho:h[o]?=some (.row T sz rows)) (hr:rows[kk]?=some row) (hv:(a0A v).length=10) (hl:off+10≤row.length) (hk:v.okv=true) {β:Type} {f:Hp→Option β} {Q:β→Prop}
  (k:∀ h',h'[o]?=some (.row T sz (rows.set kk (spl row off (a0A v))))→Same o h h'→Wp (f h') Q):Wp ((a0p tab h a0C (.ptr o kk off) v).bind f) Q := 
 by rw [show a0p tab h a0C (.ptr o kk off) v=pSt 10 h (.ptr o kk off) v from rfl];exact a2Y ho hr hv hl hk k
@[simp] theorem c5v (c0 c1 c2 c3:D) (cs:List D):a0b tab a0C 3 (.fptr (c0::c1::c2::c3::cs))=some (.fptr (c3::cs)):=id rfl
@[simp] theorem b6v (o k f:Nat):a0b tab a0C 3 (.ptr o k f)=some (.ptr o k (f+3)):=id rfl
@[simp] theorem b6x (o k f:Nat):a0b tab a0C 6 (.ptr o k f)=some (.ptr o k (f+6)):=id rfl
@[simp] theorem b6y (o k f:Nat):a0b tab a0C 7 (.ptr o k f)=some (.ptr o k (f+7)):=id rfl
@[simp] theorem b6z (o k f:Nat):a0b tab a0C 8 (.ptr o k f)=some (.ptr o k (f+8)):=id rfl
@[simp] theorem b1x (o k f:Nat):a0b tab a0C 4 (.ptr o k f)=some (.ptr o k (f+4)):=id rfl
@[simp] theorem c5C (c:D) (cs:List D) (h:Hp):a0c tab h a3s (.fptr (c::cs))=some c:=id rfl
@[simp] theorem c0g (h:Hp) (o k f:Nat):a0c tab h a3s (.ptr o k f)=(h.row o k).bind fun row=>(row.drop f).head?:=by show (match h.row o k with | some row=>_ | none=>none)=_;cases h.row o k <;> rfl
@[simp] theorem c5w (c0 c1 c2 c3 c4 c5 c6 c7 c8 c9:D) (cs:List D):a0b tab a0C 9 (.fptr (c0::c1::c2::c3::c4::c5::c6::c7::c8::c9::cs))=some (.fptr (c9::cs)):=id rfl
@[simp] theorem b6A (o k f:Nat):a0b tab a0C 9 (.ptr o k f)=some (.ptr o k (f+9)):=id rfl
@[simp] theorem c8L (c:D) (cs:List D) (h:Hp):a0c tab h a3F (.fptr (c::cs))=some c:=id rfl
@[simp] theorem c8c (h:Hp) (o k f:Nat):a0c tab h a3F (.ptr o k f)=(h.row o k).bind fun row=>(row.drop f).head?:=by show (match h.row o k with | some row=>_ | none=>none)=_;cases h.row o k <;> rfl
theorem c1t {h:Hp} {o T sz kk off:Nat} {rows:List (List D)} {row:List D} {v:D} (ho:h[o]?=some (.row T sz rows)) (hr:rows[kk]?=some row) (hv:(a0A v).length=11) (hl:off+11≤row.length) (hk:v.okv=true) {β:Type} {f:Hp→Option β} {Q:β→Prop}
  (k:∀ h',h'[o]?=some (.row T sz (rows.set kk (spl row off (a0A v))))→Same o h h'→Wp (f h') Q):Wp ((a0p tab h a2a (.ptr o kk off) v).bind f) Q := 
 by rw [show a0p tab h a2a (.ptr o kk off) v=pSt 11 h (.ptr o kk off) v from rfl];exact a2Y ho hr hv hl hk k
@[simp] theorem c3Z (h:Hp) (o k f:Nat):a0c tab h a2a (.ptr o k f)=(h.row o k).bind fun row=>a8d 11 (row.drop f):=by show (match h.row o k with | some row=>_ | none=>none)=_;cases h.row o k <;> rfl
theorem c1s {h:Hp} {n0:Nat} (hn0:n0≤h.length) {rows:List (List D)} {x y:D} (hx:Own h n0 a2a 11 rows x) {ys:List (List D)} (hy:a1b h 11 y=some ys) (hl:(rows.length+ys.length)*144≤140737488355328) {β:Type} {f:D × Hp→Option β} {Q:β→Prop}
  (k:∀ x' h',Own h' n0 a2a 11 (rows++ys) x'→h.length≤h'.length→(∀ q,q<n0→h'[q]?=h[q]?)→(∀ q,q<h.length→¬ x.inOb q→h'[q]?=h[q]?)→(∀ q,x'.inOb q→x.inOb q∨h.length≤q)→Wp (f (x',h')) Q):Wp ((a0D tab h a2n a2n x y).bind f) Q := 
 a2M (T:=tab) (i:=b3i) (j:=c4C) (id rfl) (id rfl) (id rfl) (by decide) hn0 hx hy (a2B hl (by omega)) k
@[simp] theorem b6k (d0:D) (h0:d0.one=true):a0J tab a3D 1 [0] [d0]=some (.sl 1 true [[d0]]):=b4C (T:=tab) (t:=a3D) (n:=1) (i:=b4T) (j:=b3i) (id rfl) (id rfl) (id rfl) (id rfl) [d0] rfl (by decide) (by simp [h0])
theorem c1r {h:Hp} {n0:Nat} (hn0:n0≤h.length) {rows:List (List D)} {x y:D} (hx:Own h n0 a2n 1 rows x) {ys:List (List D)} (hy:a1b h 1 y=some ys) (hl:(rows.length+ys.length)*24≤140737488355328) {β:Type} {f:D × Hp→Option β} {Q:β→Prop}
  (k:∀ x' h',Own h' n0 a2n 1 (rows++ys) x'→h.length≤h'.length→(∀ q,q<n0→h'[q]?=h[q]?)→(∀ q,q<h.length→¬ x.inOb q→h'[q]?=h[q]?)→(∀ q,x'.inOb q→x.inOb q∨h.length≤q)→Wp (f (x',h')) Q):Wp ((a0D tab h a3D a3D x y).bind f) Q := 
 a2M (T:=tab) (i:=b4T) (j:=b3i) (id rfl) (id rfl) (id rfl) (by decide) hn0 hx hy (a2B hl (by omega)) k
@[simp] theorem a6O {α:Type} {f:α→List D} {l:List α} {d:D} (h:SlOf 5 f l d):a0B tab a0I d=some (.int .i64 l.length) := 
 by
  rcases h with ⟨rfl,rfl⟩ | ⟨b,rfl⟩
  ·rfl
  ·show some (D.int .i64 ((l.map f).length:Nat))=_;simp
@[simp] theorem b9W (f:Bool) (rows:List (List D)) (i:Int):a0a tab a0I (.sl 5 f rows) (.int .i64 i)=if 0≤i then (rows[i.toNat]?).map .fptr else none:=by show (if 5=5∧0≤i then (match rows[i.toNat]? with | some row=>some (D.fptr row) | none=>none) else none)=_;by_cases h:0≤i <;> simp [h] <;> cases rows[i.toNat]? <;> rfl
@[simp] theorem b2g {α:Type} {f:α→List D} {l:List α} {d:D} (h:SlOf 5 f l d) (i:Int):a0a tab a0I d (.int .i64 i)=if 0≤i then (l[i.toNat]?).map fun p => .fptr (f p) else none := 
 by
  rcases h with ⟨rfl,rfl⟩ | ⟨b,rfl⟩
  ·show none=_;simp
  ·rw [b9W];simp [Function.comp_def]
def lt98_46:List (List UInt8):=[[108,101,118,101,108],[109,115],[117,115,101,114],[99,111,100,101]]
@[simp] theorem b8a:a0J tab a1d 4 [0,1,2,3] [.str [108,101,118,101,108],.str [109,115],.str [117,115,101,114],.str [99,111,100,101]]=some (.sl 1 true (lt98_46.map fun s=>[.str s])):=id rfl
def lt98_1:List (List UInt8):=[[119,97,114,110],[105,110,102,111],[55],[45,51],[51,49],[],[120,32,121],[57,57,57,57,57,57,57,57,57,57,57,57,57,57,57,57,57,57],[49,48,48,48,48,48,48,48,48,48,48,48,48,48,48,48,48,48,48],[48,55],[45]]
@[simp] theorem b7Z:lt98_1.length=11:=id rfl
@[simp] theorem c0n:a0J tab a1d 11 [0,1,2,3,4,5,6,7,8,9,10] [.str [119,97,114,110],.str [105,110,102,111],.str [55],.str [45,51],.str [51,49],.str [],.str [120,32,121],.str [57,57,57,57,57,57,57,57,57,57,57,57,57,57,57,57,57,57],.str [49,48,48,48,48,48,48,48,48,48,48,48,48,48,48,48,48,48,48],.str [48,55],.str [45]]=some (.sl 1 true (lt98_1.map fun s=>[.str s])):=id rfl
@[simp] theorem a2z {α:Type} {f:α→List D} {l:List α} {d:D} (h:SlOf 1 f l d):a0B tab a1d d=some (.int .i64 l.length) := 
 by
  rcases h with ⟨rfl,rfl⟩ | ⟨b,rfl⟩
  ·rfl
  ·show some (D.int .i64 ((l.map f).length:Nat))=_;simp
theorem a5N {h:Hp} {n0 e z:Nat} {rows:List (List D)} {d:D} (hd:Own h n0 e z rows d):a0B tab a1d d=some (.int .i64 rows.length):=by
 rcases hd with ⟨rfl,rfl⟩ | ⟨o,_,rfl,_⟩ <;> rfl
@[simp] theorem c4a (z:Nat) (f:Bool) (rows:List (List D)):a0B tab a1d (.sl z f rows)=some (.int .i64 rows.length):=id rfl
@[simp] theorem c0i (z o r n:Nat):a0B tab a1d (.msl z o r n)=some (.int .i64 n):=id rfl
@[simp] theorem a4B {α:Type} {f:α→List D} {l:List α} {d:D} (h:SlOf 12 f l d):a0B tab a0u d=some (.int .i64 l.length) := 
 by
  rcases h with ⟨rfl,rfl⟩ | ⟨b,rfl⟩
  ·rfl
  ·show some (D.int .i64 ((l.map f).length:Nat))=_;simp
@[simp] theorem b4w (z o r n:Nat):a0B tab a0u (.msl z o r n)=some (.int .i64 n):=id rfl
@[simp] theorem b2f (o r n:Nat) (i:Int):a0a tab a0v (.msl 2 o r n) (.int .i64 i)=if 0≤i∧i<n then some (.ptr o (r+i.toNat) 0) else none:=by show (if 2=2∧0≤i∧i<n then some (D.ptr o (r+i.toNat) 0) else none)=_;simp
@[simp] theorem b2k (h:Hp) (o k f:Nat):a0c tab h a0i (.ptr o k f)=(h.row o k).bind fun row=>a8d 2 (row.drop f):=by show (match h.row o k with | some row=>_ | none=>none)=_;cases h.row o k <;> rfl
@[simp] theorem a9P {α:Type} {f:α→List D} {l:List α} {d:D} (h:SlOf 3 f l d):a0B tab a3s d=some (.int .i64 l.length) := 
 by
  rcases h with ⟨rfl,rfl⟩ | ⟨b,rfl⟩
  ·rfl
  ·show some (D.int .i64 ((l.map f).length:Nat))=_;simp
theorem c0k {h:Hp} {n0 e z:Nat} {rows:List (List D)} {d:D} (hd:Own h n0 e z rows d):a0B tab a3s d=some (.int .i64 rows.length):=by
 rcases hd with ⟨rfl,rfl⟩ | ⟨o,_,rfl,_⟩ <;> rfl
@[simp] theorem c7W (f:Bool) (rows:List (List D)) (i:Int):a0a tab a3s (.sl 3 f rows) (.int .i64 i)=if 0≤i then (rows[i.toNat]?).map .fptr else none:=by show (if 3=3∧0≤i then (match rows[i.toNat]? with | some row=>some (D.fptr row) | none=>none) else none)=_;by_cases h:0≤i <;> simp [h] <;> cases rows[i.toNat]? <;> rfl
@[simp] theorem c3O (o r n:Nat) (i:Int):a0a tab a3s (.msl 3 o r n) (.int .i64 i)=if 0≤i∧i<n then some (.ptr o (r+i.toNat) 0) else none:=by show (if 3=3∧0≤i∧i<n then some (D.ptr o (r+i.toNat) 0) else none)=_;simp
@[simp] theorem b6U {α:Type} {f:α→List D} {l:List α} {d:D} (h:SlOf 3 f l d) (i:Int):a0a tab a3s d (.int .i64 i)=if 0≤i then (l[i.toNat]?).map fun p => .fptr (f p) else none := 
 by
  rcases h with ⟨rfl,rfl⟩ | ⟨b,rfl⟩
  ·show none=_;simp
  ·rw [c7W];simp [Function.comp_def]
@[simp] theorem c5q (a0 b0:Int) (a1 b1:Int) (a2 b2:List UInt8):a0f tab .neq a7f (.agg [.int .i64 a0,.int .i64 a1,.str a2]) (.agg [.int .i64 b0,.int .i64 b1,.str b2])=some (.bool (!(a0==b0&&(a1==b1&&(a2==b2&&true))))):=id rfl
@[simp] theorem a4p {α:Type} {f:α→List D} {l:List α} {d:D} (h:SlOf 2 f l d):a0B tab a3F d=some (.int .i64 l.length) := 
 by
  rcases h with ⟨rfl,rfl⟩ | ⟨b,rfl⟩
  ·rfl
  ·show some (D.int .i64 ((l.map f).length:Nat))=_;simp
@[simp] theorem c7X (f:Bool) (rows:List (List D)) (i:Int):a0a tab a3F (.sl 2 f rows) (.int .i64 i)=if 0≤i then (rows[i.toNat]?).map .fptr else none:=by show (if 2=2∧0≤i then (match rows[i.toNat]? with | some row=>some (D.fptr row) | none=>none) else none)=_;by_cases h:0≤i <;> simp [h] <;> cases rows[i.toNat]? <;> rfl
@[simp] theorem b0z {α:Type} {f:α→List D} {l:List α} {d:D} (h:SlOf 2 f l d) (i:Int):a0a tab a3F d (.int .i64 i)=if 0≤i then (l[i.toNat]?).map fun p => .fptr (f p) else none := 
 by
  rcases h with ⟨rfl,rfl⟩ | ⟨b,rfl⟩
  ·show none=_;simp
  ·rw [c7X];simp [Function.comp_def]
@[simp] theorem c7Z (c0 c1:D) (cs:List D) (h:Hp):a0c tab h a2s (.fptr (c0::c1::cs))=some (.agg [c0,c1]):=id rfl
@[simp] theorem c2b (a0 b0:List UInt8) (a1 b1:List UInt8):a0f tab .neq a2s (.agg [.str a0,.str a1]) (.agg [.str b0,.str b1])=some (.bool (!(a0==b0&&(a1==b1&&true)))):=id rfl
@[simp] theorem b0l (n0:Int) (n1:Int) (n2:Int):a0N tab a0C [0,1,2] [.int .i64 n0,.int .i64 n1,.int .i64 n2]=some (.agg [.int .i64 n0,.int .i64 n1,.int .i64 n2,.int .i64 0,.nils,.int .i64 0,.int .i64 0,.str [],.str [],.nils]):=id rfl
@[simp] theorem b2p (s:List UInt8):a0B tab ty9 (.str s)=some (.int .i64 s.length):=id rfl
@[simp] theorem b0m (n0:Int) (n1:Int) (s2:List UInt8):a0N tab a7f [0,1,2] [.int .i64 n0,.int .i64 n1,.str s2]=some (.agg [.int .i64 n0,.int .i64 n1,.str s2]):=id rfl
@[simp] theorem b9i (x0_0 x0_1 x0_2:D):a0J tab a3s 1 [0] [.agg [x0_0,x0_1,x0_2]]=some (.sl 3 true [[x0_0,x0_1,x0_2]]):=id rfl
theorem c5f {h:Hp} {n0:Nat} (hn0:n0≤h.length) {rows:List (List D)} {x y:D} (hx:Own h n0 a7f 3 rows x) {ys:List (List D)} (hy:a1b h 3 y=some ys) (hl:(rows.length+ys.length)*32≤140737488355328) {β:Type} {f:D × Hp→Option β} {Q:β→Prop}
  (k:∀ x' h',Own h' n0 a7f 3 (rows++ys) x'→h.length≤h'.length→(∀ q,q<n0→h'[q]?=h[q]?)→(∀ q,q<h.length→¬ x.inOb q→h'[q]?=h[q]?)→(∀ q,x'.inOb q→x.inOb q∨h.length≤q)→Wp (f (x',h')) Q):Wp ((a0D tab h a3s a3s x y).bind f) Q := 
 a2M (T:=tab) (i:=c4A) (j:=c4D) (id rfl) (id rfl) (id rfl) (by decide) hn0 hx hy (a2B hl (by omega)) k
theorem c5h {h:Hp} {o T sz kk off:Nat} {rows:List (List D)} {row:List D} {v:D} (ho:h[o]?=some (.row T sz rows)) (hr:rows[kk]?=some row) (hv:(a0A v).length=1) (hl:off+1≤row.length) (hk:v.okv=true) {β:Type} {f:Hp→Option β} {Q:β→Prop}
  (k:∀ h',h'[o]?=some (.row T sz (rows.set kk (spl row off (a0A v))))→Same o h h'→Wp (f h') Q):Wp ((a0p tab h a3s (.ptr o kk off) v).bind f) Q := 
 by rw [show a0p tab h a3s (.ptr o kk off) v=pSt 1 h (.ptr o kk off) v from rfl];exact a2Y ho hr hv hl hk k
@[simp] theorem b6B (o k f:Nat):a0b tab a7f 2 (.ptr o k f)=some (.ptr o k (f+2)):=id rfl
def lt98_4:List (List UInt8):=[[115,97,109,112,108,101],[100,114,111,112],[116,111,111,45,108,111,110,103]]
@[simp] theorem b2x:a0J tab a1d 3 [0,1,2] [.str [115,97,109,112,108,101],.str [100,114,111,112],.str [116,111,111,45,108,111,110,103]]=some (.sl 1 true (lt98_4.map fun s=>[.str s])):=id rfl
@[simp] theorem b3P (s0:List UInt8) (x1_0 x1_1 x1_2 x1_3 x1_4 x1_5 x1_6 x1_7 x1_8 x1_9:D):a0N tab a2a [0,1] [.str s0,.agg [x1_0,x1_1,x1_2,x1_3,x1_4,x1_5,x1_6,x1_7,x1_8,x1_9]]=some (.agg [.str s0,x1_0,x1_1,x1_2,x1_3,x1_4,x1_5,x1_6,x1_7,x1_8,x1_9]):=id rfl
def lt98_5:List (List UInt8):=[[116,49],[116,50],[],[49,58,50,58,48]]
@[simp] theorem b2y:a0J tab a1d 4 [0,1,2,3] [.str [116,49],.str [116,50],.str [],.str [49,58,50,58,48]]=some (.sl 1 true (lt98_5.map fun s=>[.str s])):=id rfl
def lt98_6:List (List UInt8):=[[109,97,105,110],[100,101,98,117,103]]
@[simp] theorem b2z:a0J tab a1d 2 [0,1] [.str [109,97,105,110],.str [100,101,98,117,103]]=some (.sl 1 true (lt98_6.map fun s=>[.str s])):=id rfl
theorem c5i {h:Hp} {o T sz kk off:Nat} {rows:List (List D)} {row:List D} {v:D} (ho:h[o]?=some (.row T sz rows)) (hr:rows[kk]?=some row) (hv:(a0A v).length=1) (hl:off+1≤row.length) (hk:v.okv=true) {β:Type} {f:Hp→Option β} {Q:β→Prop}
  (k:∀ h',h'[o]?=some (.row T sz (rows.set kk (spl row off (a0A v))))→Same o h h'→Wp (f h') Q):Wp ((a0p tab h a3F (.ptr o kk off) v).bind f) Q := 
 by rw [show a0p tab h a3F (.ptr o kk off) v=pSt 1 h (.ptr o kk off) v from rfl];exact a2Y ho hr hv hl hk k
@[simp] theorem b5k (n0:Int):a0J tab a3h 1 [0] [.int .u8 n0]=some (.sl 1 true [[.int .u8 n0]]):=id rfl
theorem c5e {h:Hp} {n0:Nat} (hn0:n0≤h.length) {rows:List (List D)} {x y:D} (hx:Own h n0 ty5 1 rows x) {ys:List (List D)} (hy:a1b h 1 y=some ys) (hl:(rows.length+ys.length)*1≤140737488355328) {β:Type} {f:D × Hp→Option β} {Q:β→Prop}
  (k:∀ x' h',Own h' n0 ty5 1 (rows++ys) x'→h.length≤h'.length→(∀ q,q<n0→h'[q]?=h[q]?)→(∀ q,q<h.length→¬ x.inOb q→h'[q]?=h[q]?)→(∀ q,x'.inOb q→x.inOb q∨h.length≤q)→Wp (f (x',h')) Q):Wp ((a0D tab h a3h a3h x y).bind f) Q := 
 a2M (T:=tab) (i:=ti22) (j:=ti5) (id rfl) (id rfl) (id rfl) (by decide) hn0 hx hy (a2B hl (by omega)) k
theorem a8I {h:Hp} {n0:Nat} (hn0:n0≤h.length) {rows:List (List D)} {x y:D} (hx:Own h n0 ty9 1 rows x) {ys:List (List D)} (hy:a1b h 1 y=some ys) (hl:(rows.length+ys.length)*16≤140737488355328) {β:Type} {f:D × Hp→Option β} {Q:β→Prop}
  (k:∀ x' h',Own h' n0 ty9 1 (rows++ys) x'→h.length≤h'.length→(∀ q,q<n0→h'[q]?=h[q]?)→(∀ q,q<h.length→¬ x.inOb q→h'[q]?=h[q]?)→(∀ q,x'.inOb q→x.inOb q∨h.length≤q)→Wp (f (x',h')) Q):Wp ((a0D tab h a1d a1d x y).bind f) Q := 
 a2M (T:=tab) (i:=b7D) (j:=ti9) (id rfl) (id rfl) (id rfl) (by decide) hn0 hx hy (a2B hl (by omega)) k
@[simp] theorem b9V (f:Bool) (rows:List (List D)) (i:Int):a0a tab a0u (.sl 12 f rows) (.int .i64 i)=if 0≤i then (rows[i.toNat]?).map .fptr else none:=by show (if 12=12∧0≤i then (match rows[i.toNat]? with | some row=>some (D.fptr row) | none=>none) else none)=_;by_cases h:0≤i <;> simp [h] <;> cases rows[i.toNat]? <;> rfl
@[simp] theorem b2e (o r n:Nat) (i:Int):a0a tab a0u (.msl 12 o r n) (.int .i64 i)=if 0≤i∧i<n then some (.ptr o (r+i.toNat) 0) else none:=by show (if 12=12∧0≤i∧i<n then some (D.ptr o (r+i.toNat) 0) else none)=_;simp
@[simp] theorem a5d {α:Type} {f:α→List D} {l:List α} {d:D} (h:SlOf 12 f l d) (i:Int):a0a tab a0u d (.int .i64 i)=if 0≤i then (l[i.toNat]?).map fun p => .fptr (f p) else none := 
 by
  rcases h with ⟨rfl,rfl⟩ | ⟨b,rfl⟩
  ·show none=_;simp
  ·rw [b9V];simp [Function.comp_def]
@[simp] theorem b2j (h:Hp) (o k f:Nat):a0c tab h a0h (.ptr o k f)=(h.row o k).bind fun row=>a8d 12 (row.drop f):=by show (match h.row o k with | some row=>_ | none=>none)=_;cases h.row o k <;> rfl
theorem a7e {h:Hp} {o T sz kk off:Nat} {rows:List (List D)} {row:List D} {v:D} (ho:h[o]?=some (.row T sz rows)) (hr:rows[kk]?=some row) (hv:(a0A v).length=2) (hl:off+2≤row.length) (hk:v.okv=true) {β:Type} {f:Hp→Option β} {Q:β→Prop}
  (k:∀ h',h'[o]?=some (.row T sz (rows.set kk (spl row off (a0A v))))→Same o h h'→Wp (f h') Q):Wp ((a0p tab h a0i (.ptr o kk off) v).bind f) Q := 
 by rw [show a0p tab h a0i (.ptr o kk off) v=pSt 2 h (.ptr o kk off) v from rfl];exact a2Y ho hr hv hl hk k
@[simp] theorem a9r (k:IntKind) (n:Int):a2e tab ty3 a0T (.int k n)=some (.int .u64 (IntKind.wrap .u64 n)):=id rfl
theorem a5m {h:Hp} {o T sz kk off:Nat} {rows:List (List D)} {row:List D} {v:D} (ho:h[o]?=some (.row T sz rows)) (hr:rows[kk]?=some row) (hv:(a0A v).length=1) (hl:off+1≤row.length) (hk:v.okv=true) {β:Type} {f:Hp→Option β} {Q:β→Prop}
  (k:∀ h',h'[o]?=some (.row T sz (rows.set kk (spl row off (a0A v))))→Same o h h'→Wp (f h') Q):Wp ((a0p tab h a0T (.ptr o kk off) v).bind f) Q := 
 by rw [show a0p tab h a0T (.ptr o kk off) v=pSt 1 h (.ptr o kk off) v from rfl];exact a2Y ho hr hv hl hk k
@[simp] theorem b1f (k:IntKind) (n:Int):a2e tab a4i ty3 (.int k n)=some (.int .i64 (IntKind.wrap .i64 n)):=id rfl
@[simp] theorem a4y (k:IntKind) (n:Int):a2e tab a2m ty5 (.int k n)=some (.int .u8 (IntKind.wrap .u8 n)):=id rfl
def lt98_7:List (List UInt8):=[[32],[32],[44,32],[61],[]]
@[simp] theorem b2A:a0J tab a1d 5 [0,1,2,3,4] [.str [32],.str [32],.str [44,32],.str [61],.str []]=some (.sl 1 true (lt98_7.map fun s=>[.str s])):=id rfl
def lt82_8:List Int:=[1,1,2,5,10,5040]
@[simp] theorem c0m:a0J tab a3t 6 [0,1,2,3,4,5] [.int .i64 1,.int .i64 1,.int .i64 2,.int .i64 5,.int .i64 10,.int .i64 5040]=some (.sl 1 true (lt82_8.map fun n=>[.int .i64 n])):=id rfl
def lt98_9:List (List UInt8):=[[99,111,100,101],[108,101,118,101,108],[109,115],[117,115,101,114]]
@[simp] theorem b0B:lt98_9.length=4:=id rfl
@[simp] theorem b2B:a0J tab a1d 4 [0,1,2,3] [.str [99,111,100,101],.str [108,101,118,101,108],.str [109,115],.str [117,115,101,114]]=some (.sl 1 true (lt98_9.map fun s=>[.str s])):=id rfl
@[simp] theorem b0T (s0:List UInt8) (s1:List UInt8):a0N tab a2s [0,1] [.str s0,.str s1]=some (.agg [.str s0,.str s1]):=id rfl
@[simp] theorem b9j (x0_0 x0_1:D):a0J tab a3F 1 [0] [.agg [x0_0,x0_1]]=some (.sl 2 true [[x0_0,x0_1]]):=id rfl
theorem c5g {h:Hp} {n0:Nat} (hn0:n0≤h.length) {rows:List (List D)} {x y:D} (hx:Own h n0 a2s 2 rows x) {ys:List (List D)} (hy:a1b h 2 y=some ys) (hl:(rows.length+ys.length)*32≤140737488355328) {β:Type} {f:D × Hp→Option β} {Q:β→Prop}
  (k:∀ x' h',Own h' n0 a2s 2 (rows++ys) x'→h.length≤h'.length→(∀ q,q<n0→h'[q]?=h[q]?)→(∀ q,q<h.length→¬ x.inOb q→h'[q]?=h[q]?)→(∀ q,x'.inOb q→x.inOb q∨h.length≤q)→Wp (f (x',h')) Q):Wp ((a0D tab h a3F a3F x y).bind f) Q := 
 a2M (T:=tab) (i:=c4B) (j:=b7C) (id rfl) (id rfl) (id rfl) (by decide) hn0 hx hy (a2B hl (by omega)) k
@[simp] theorem a9q (k:IntKind) (n:Int):a2e tab ty3 a2m (.int k n)=some (.int .u64 (IntKind.wrap .u64 n)):=id rfl
@[simp] theorem c3o (c0:D) (cs:List D):a0b tab a2s 0 (.fptr (c0::cs))=some (.fptr (c0::cs)):=id rfl
@[simp] theorem c3p (c0 c1:D) (cs:List D):a0b tab a2s 1 (.fptr (c0::c1::cs))=some (.fptr (c1::cs)):=id rfl
theorem a7d {h:Hp} {o T sz kk off:Nat} {rows:List (List D)} {row:List D} {v:D} (ho:h[o]?=some (.row T sz rows)) (hr:rows[kk]?=some row) (hv:(a0A v).length=12) (hl:off+12≤row.length) (hk:v.okv=true) {β:Type} {f:Hp→Option β} {Q:β→Prop}
  (k:∀ h',h'[o]?=some (.row T sz (rows.set kk (spl row off (a0A v))))→Same o h h'→Wp (f h') Q):Wp ((a0p tab h a0h (.ptr o kk off) v).bind f) Q := 
 by rw [show a0p tab h a0h (.ptr o kk off) v=pSt 12 h (.ptr o kk off) v from rfl];exact a2Y ho hr hv hl hk k
@[simp] theorem b7b (h:Hp) (o k f:Nat):a0c tab h a0T (.ptr o k f)=(h.row o k).bind fun row=>(row.drop f).head?:=by show (match h.row o k with | some row=>_ | none=>none)=_;cases h.row o k <;> rfl
def lt98_10:List (List UInt8):=[[103,101,116],[101,114,114,111,114],[119,97,114,110],[97,49],[117,115,101,114,95,55],[120],[84,105,109,101,111,117,116],[50,48,48],[71,69,84],[101,114,114,111],[122],[],[255],[97,46,98]]
@[simp] theorem b7i:lt98_10.length=14:=id rfl
@[simp] theorem b7Y:a0J tab a1d 14 [0,1,2,3,4,5,6,7,8,9,10,11,12,13] [.str [103,101,116],.str [101,114,114,111,114],.str [119,97,114,110],.str [97,49],.str [117,115,101,114,95,55],.str [120],.str [84,105,109,101,111,117,116],.str [50,48,48],.str [71,69,84],.str [101,114,114,111],.str [122],.str [],.str [255],.str [97,46,98]]=some (.sl 1 true (lt98_10.map fun s=>[.str s])):=id rfl
theorem b0L {h:Hp} {n0:Nat} (hn0:n0≤h.length) {rows:List (List D)} {x y:D} (hx:Own h n0 ty3 1 rows x) {ys:List (List D)} (hy:a1b h 1 y=some ys) (hl:(rows.length+ys.length)*8≤140737488355328) {β:Type} {f:D × Hp→Option β} {Q:β→Prop}
  (k:∀ x' h',Own h' n0 ty3 1 (rows++ys) x'→h.length≤h'.length→(∀ q,q<n0→h'[q]?=h[q]?)→(∀ q,q<h.length→¬ x.inOb q→h'[q]?=h[q]?)→(∀ q,x'.inOb q→x.inOb q∨h.length≤q)→Wp (f (x',h')) Q):Wp ((a0D tab h a3t a3t x y).bind f) Q := 
 a2M (T:=tab) (i:=c4E) (j:=ti3) (id rfl) (id rfl) (id rfl) (by decide) hn0 hx hy (a2B hl (by omega)) k
theorem b7J {h:Hp} {n0:Nat} (hn0:n0≤h.length) {rows:List (List D)} {x y:D} (hx:Own h n0 a1q 20 rows x) {ys:List (List D)} (hy:a1b h 20 y=some ys) (hl:(rows.length+ys.length)*256≤140737488355328) {β:Type} {f:D × Hp→Option β} {Q:β→Prop}
  (k:∀ x' h',Own h' n0 a1q 20 (rows++ys) x'→h.length≤h'.length→(∀ q,q<n0→h'[q]?=h[q]?)→(∀ q,q<h.length→¬ x.inOb q→h'[q]?=h[q]?)→(∀ q,x'.inOb q→x.inOb q∨h.length≤q)→Wp (f (x',h')) Q):Wp ((a0D tab h a0P a0P x y).bind f) Q := 
 a2M (T:=tab) (i:=ti1271) (j:=ti1286) (id rfl) (id rfl) (id rfl) (by decide) hn0 hx hy (a2B hl (by omega)) k
theorem b7x {α:Type} {f:α→List D} {l:List α} {d:D} (hd:SlOf 12 f l d) {k:IntKind} {n:Int} (h0:0≤n) (h1:n≤l.length) :
  ∃ d',a0E tab a0u true false false [d,.int k n]=some d'∧SlOf 12 f (l.drop n.toNat) d':=a8F (T:=tab) (i:=b0e) (j:=b0f) (id rfl) (id rfl) (id rfl) (id rfl) hd h0 h1
theorem b7L {h:Hp} {n0:Nat} (hn0:n0≤h.length) {rows:List (List D)} {x y:D} (hx:Own h n0 a0i 2 rows x) {ys:List (List D)} (hy:a1b h 2 y=some ys) (hl:(rows.length+ys.length)*16≤140737488355328) {β:Type} {f:D × Hp→Option β} {Q:β→Prop}
  (k:∀ x' h',Own h' n0 a0i 2 (rows++ys) x'→h.length≤h'.length→(∀ q,q<n0→h'[q]?=h[q]?)→(∀ q,q<h.length→¬ x.inOb q→h'[q]?=h[q]?)→(∀ q,x'.inOb q→x.inOb q∨h.length≤q)→Wp (f (x',h')) Q):Wp ((a0D tab h a0v a0v x y).bind f) Q := 
 a2M (T:=tab) (i:=b3j) (j:=b3k) (id rfl) (id rfl) (id rfl) (by decide) hn0 hx hy (a2B hl (by omega)) k
theorem b7K {h:Hp} {n0:Nat} (hn0:n0≤h.length) {rows:List (List D)} {x y:D} (hx:Own h n0 a0h 12 rows x) {ys:List (List D)} (hy:a1b h 12 y=some ys) (hl:(rows.length+ys.length)*152≤140737488355328) {β:Type} {f:D × Hp→Option β} {Q:β→Prop}
  (k:∀ x' h',Own h' n0 a0h 12 (rows++ys) x'→h.length≤h'.length→(∀ q,q<n0→h'[q]?=h[q]?)→(∀ q,q<h.length→¬ x.inOb q→h'[q]?=h[q]?)→(∀ q,x'.inOb q→x.inOb q∨h.length≤q)→Wp (f (x',h')) Q):Wp ((a0D tab h a0u a0u x y).bind f) Q := 
 a2M (T:=tab) (i:=b0e) (j:=b0f) (id rfl) (id rfl) (id rfl) (by decide) hn0 hx hy (a2B hl (by omega)) k
end Go.Proofs.YtkpnnfhodlanjaaGreatDoor

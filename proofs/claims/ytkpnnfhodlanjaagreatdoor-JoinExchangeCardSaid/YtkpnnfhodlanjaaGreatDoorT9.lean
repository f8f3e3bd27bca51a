/- Operations at the types of this seat. -/
import Derived.Test.YtkpnnfhodlanjaaGreatDoorC9
import Derived.Test.YtkpnnfhodlanjaaGreatDoorPiZ
set_option linter.unusedSimpArgs false
set_option linter.unusedVariables false
set_option linter.unnecessarySimpa false
set_option maxRecDepth 20000
set_option maxHeartbeats 2000000
namespace Go.Proofs.YtkpnnfhodlanjaaGreatDoor
open Go.Eng Go.Pi
@[simp] theorem b6K (f:Bool) (rows:List (List D)) (i:Int):a0a tab a1d (.sl 1 f rows) (.int .i64 i)=if 0≤i then (rows[i.toNat]?).map .fptr else none:=by show (if 1=1∧0≤i then (match rows[i.toNat]? with | some row=>some (D.fptr row) | none=>none) else none)=_;by_cases h:0≤i <;> simp [h] <;> cases rows[i.toNat]? <;> rfl
@[simp] theorem a4o {α:Type} {f:α→List D} {l:List α} {d:D} (h:SlOf 1 f l d) (i:Int):a0a tab a1d d (.int .i64 i)=if 0≤i then (l[i.toNat]?).map fun p => .fptr (f p) else none := 
 by
  rcases h with ⟨rfl,rfl⟩ | ⟨b,rfl⟩
  ·show none=_;simp
  ·rw [b6K];simp [Function.comp_def]
@[simp] theorem ld9 (c:D) (cs:List D) (h:Hp):a0c tab h ty9 (.fptr (c::cs))=some c:=id rfl
@[simp] theorem c8C (h:Hp) (o k f:Nat):a0c tab h ty9 (.ptr o k f)=(h.row o k).bind fun row=>(row.drop f).head?:=by show (match h.row o k with | some row=>_ | none=>none)=_;cases h.row o k <;> rfl
@[simp] theorem b2e (h:Hp) (o k f:Nat):a0c tab h a0E (.ptr o k f)=(h.row o k).bind fun row=>a8a 10 (row.drop f):=by show (match h.row o k with | some row=>_ | none=>none)=_;cases h.row o k <;> rfl
@[simp] theorem b8Y (x0_0 x0_1 x0_2 x0_3 x0_4 x0_5 x0_6 x0_7 x0_8 x0_9:D):a0M tab a1Z [1] [.agg [x0_0,x0_1,x0_2,x0_3,x0_4,x0_5,x0_6,x0_7,x0_8,x0_9]]=some (.agg [.str [],x0_0,x0_1,x0_2,x0_3,x0_4,x0_5,x0_6,x0_7,x0_8,x0_9]):=id rfl
@[simp] theorem b9y (c0 c1 c2 c3 c4 c5:D) (cs:List D):a0b tab a0E 5 (.fptr (c0::c1::c2::c3::c4::c5::cs))=some (.fptr (c5::cs)):=id rfl
@[simp] theorem b6q (o k f:Nat):a0b tab a0E 5 (.ptr o k f)=some (.ptr o k (f+5)):=id rfl
@[simp] theorem ld3 (c:D) (cs:List D) (h:Hp):a0c tab h ty3 (.fptr (c::cs))=some c:=id rfl
@[simp] theorem c1H (h:Hp) (o k f:Nat):a0c tab h ty3 (.ptr o k f)=(h.row o k).bind fun row=>(row.drop f).head?:=by show (match h.row o k with | some row=>_ | none=>none)=_;cases h.row o k <;> rfl
@[simp] theorem b9v (c0:D) (cs:List D):a0b tab a0E 0 (.fptr (c0::cs))=some (.fptr (c0::cs)):=id rfl
@[simp] theorem c3j (o k f:Nat):a0b tab a0E 0 (.ptr o k f)=some (.ptr o k (f+0)):=id rfl
@[simp] theorem b9w (c0 c1:D) (cs:List D):a0b tab a0E 1 (.fptr (c0::c1::cs))=some (.fptr (c1::cs)):=id rfl
@[simp] theorem c3k (o k f:Nat):a0b tab a0E 1 (.ptr o k f)=some (.ptr o k (f+1)):=id rfl
@[simp] theorem b9x (c0 c1 c2:D) (cs:List D):a0b tab a0E 2 (.fptr (c0::c1::c2::cs))=some (.fptr (c2::cs)):=id rfl
@[simp] theorem c3l (o k f:Nat):a0b tab a0E 2 (.ptr o k f)=some (.ptr o k (f+2)):=id rfl
@[simp] theorem a4w {α:Type} {f:α→List D} {l:List α} {d:D} (h:SlOf 20 f l d):a0C tab a0S d=some (.int .i64 l.length) := 
 by
  rcases h with ⟨rfl,rfl⟩ | ⟨b,rfl⟩
  ·rfl
  ·show some (D.int .i64 ((l.map f).length:Nat))=_;simp
@[simp] theorem b9M (f:Bool) (rows:List (List D)) (i:Int):a0a tab a0S (.sl 20 f rows) (.int .i64 i)=if 0≤i then (rows[i.toNat]?).map .fptr else none:=by show (if 20=20∧0≤i then (match rows[i.toNat]? with | some row=>some (D.fptr row) | none=>none) else none)=_;by_cases h:0≤i <;> simp [h] <;> cases rows[i.toNat]? <;> rfl
@[simp] theorem b6L (o r n:Nat) (i:Int):a0a tab a0S (.msl 20 o r n) (.int .i64 i)=if 0≤i∧i<n then some (.ptr o (r+i.toNat) 0) else none:=by show (if 20=20∧0≤i∧i<n then some (D.ptr o (r+i.toNat) 0) else none)=_;simp
@[simp] theorem b6M {α:Type} {f:α→List D} {l:List α} {d:D} (h:SlOf 20 f l d) (i:Int):a0a tab a0S d (.int .i64 i)=if 0≤i then (l[i.toNat]?).map fun p => .fptr (f p) else none := 
 by
  rcases h with ⟨rfl,rfl⟩ | ⟨b,rfl⟩
  ·show none=_;simp
  ·rw [b9M];simp [Function.comp_def]
@[simp] theorem c1s (o k f:Nat):a0b tab a3n 0 (.ptr o k f)=some (.ptr o k (f+0)):=id rfl
@[simp] theorem c7S (h:Hp) (o k f:Nat):a0c tab h a3d (.ptr o k f)=(h.row o k).bind fun row=>(row.drop f).head?:=by show (match h.row o k with | some row=>_ | none=>none)=_;cases h.row o k <;> rfl
@[simp] theorem c1t (o k f:Nat):a0b tab a3n 1 (.ptr o k f)=some (.ptr o k (f+1)):=id rfl
@[simp] theorem c8A (f:Bool) (rows:List (List D)) (i:Int):a0a tab a3d (.sl 1 f rows) (.int .i64 i)=if 0≤i then (rows[i.toNat]?).map .fptr else none:=by show (if 1=1∧0≤i then (match rows[i.toNat]? with | some row=>some (D.fptr row) | none=>none) else none)=_;by_cases h:0≤i <;> simp [h] <;> cases rows[i.toNat]? <;> rfl
@[simp] theorem ld5 (c:D) (cs:List D) (h:Hp):a0c tab h ty5 (.fptr (c::cs))=some c:=id rfl
@[simp] theorem b6h (k:IntKind) (n:Int):a2d tab ty5 ty3 (.int k n)=some (.int .i64 (IntKind.wrap .i64 n)):=id rfl
theorem b7Y {h:Hp} {o T sz kk off:Nat} {rows:List (List D)} {row:List D} {v:D} (ho:h[o]?=some (.row T sz rows)) (hr:rows[kk]?=some row) (hv:(a0A v).length=1) (hl:off+1≤row.length) (hk:v.okv=true) {β:Type} {f:Hp→Option β} {Q:β→Prop}
  (k:∀ h',h'[o]?=some (.row T sz (rows.set kk (spl row off (a0A v))))→Same o h h'→Wp (f h') Q):Wp ((a0o tab h ty3 (.ptr o kk off) v).bind f) Q := 
 by rw [show a0o tab h ty3 (.ptr o kk off) v=pSt 1 h (.ptr o kk off) v from rfl];exact a2U ho hr hv hl hk k
theorem c0a {h:Hp} {n0 e z:Nat} {rows:List (List D)} {d:D} (hd:Own h n0 e z rows d):a0C tab a3d d=some (.int .i64 rows.length):=by
 rcases hd with ⟨rfl,rfl⟩ | ⟨o,_,rfl,_⟩ <;> rfl
@[simp] theorem c7U (z:Nat) (f:Bool) (rows:List (List D)):a0C tab a3d (.sl z f rows)=some (.int .i64 rows.length):=id rfl
@[simp] theorem b6c (d0:D) (h0:d0.one=true):a0M tab a3n [0] [d0]=some (.agg [d0,.int .i64 0]):=by
 have c0:=a2T h0
 refine b8Z (T:=tab) (i:=ti101) (fs:=[(22,0,1),(3,1,1)]) (id rfl) (id rfl) ?_
 rw [show ti101.zero=[.nils,.int .i64 0] from id rfl]
 rw [a4M (off:=0) (sz:=1) (id rfl) (by rw [c0.1];rfl) (by simp [spl,a3T,a3U,a3v,a3g]) c0.2,c0.1]
 exact id rfl
@[simp] theorem b6W {α:Type} {f:α→List D} {l:List α} {d:D} (h:SlOf 1 f l d):a0C tab a3z d=some (.int .i64 l.length) := 
 by
  rcases h with ⟨rfl,rfl⟩ | ⟨b,rfl⟩
  ·rfl
  ·show some (D.int .i64 ((l.map f).length:Nat))=_;simp
@[simp] theorem c3F (f:Bool) (rows:List (List D)) (i:Int):a0a tab a3z (.sl 1 f rows) (.int .i64 i)=if 0≤i then (rows[i.toNat]?).map .fptr else none:=by show (if 1=1∧0≤i then (match rows[i.toNat]? with | some row=>some (D.fptr row) | none=>none) else none)=_;by_cases h:0≤i <;> simp [h] <;> cases rows[i.toNat]? <;> rfl
@[simp] theorem b9P {α:Type} {f:α→List D} {l:List α} {d:D} (h:SlOf 1 f l d) (i:Int):a0a tab a3z d (.int .i64 i)=if 0≤i then (l[i.toNat]?).map fun p => .fptr (f p) else none := 
 by
  rcases h with ⟨rfl,rfl⟩ | ⟨b,rfl⟩
  ·show none=_;simp
  ·rw [c3F];simp [Function.comp_def]
@[simp] theorem c3Q (c:D) (cs:List D) (h:Hp):a0c tab h a2o (.fptr (c::cs))=some c:=id rfl
@[simp] theorem b6X {α:Type} {f:α→List D} {l:List α} {d:D} (h:SlOf 11 f l d):a0C tab a2o d=some (.int .i64 l.length) := 
 by
  rcases h with ⟨rfl,rfl⟩ | ⟨b,rfl⟩
  ·rfl
  ·show some (D.int .i64 ((l.map f).length:Nat))=_;simp
@[simp] theorem c3G (f:Bool) (rows:List (List D)) (i:Int):a0a tab a2o (.sl 11 f rows) (.int .i64 i)=if 0≤i then (rows[i.toNat]?).map .fptr else none:=by show (if 11=11∧0≤i then (match rows[i.toNat]? with | some row=>some (D.fptr row) | none=>none) else none)=_;by_cases h:0≤i <;> simp [h] <;> cases rows[i.toNat]? <;> rfl
@[simp] theorem b9Q {α:Type} {f:α→List D} {l:List α} {d:D} (h:SlOf 11 f l d) (i:Int):a0a tab a2o d (.int .i64 i)=if 0≤i then (l[i.toNat]?).map fun p => .fptr (f p) else none := 
 by
  rcases h with ⟨rfl,rfl⟩ | ⟨b,rfl⟩
  ·show none=_;simp
  ·rw [c3G];simp [Function.comp_def]
@[simp] theorem c5p (c0 c1:D) (cs:List D):a0b tab a1Z 1 (.fptr (c0::c1::cs))=some (.fptr (c1::cs)):=id rfl
@[simp] theorem b2i {α:Type} {f:α→List D} {l:List α} {d:D} (h:SlOf 10 f l d):a0C tab a2q d=some (.int .i64 l.length) := 
 by
  rcases h with ⟨rfl,rfl⟩ | ⟨b,rfl⟩
  ·rfl
  ·show some (D.int .i64 ((l.map f).length:Nat))=_;simp
@[simp] theorem b9Y (z o r n:Nat):a0C tab a2q (.msl z o r n)=some (.int .i64 n):=id rfl
@[simp] theorem b5u (c0 c1 c2 c3 c4:D) (cs:List D) (h:Hp):a0c tab h a0k (.fptr (c0::c1::c2::c3::c4::cs))=some (.agg [c0,c1,c2,c3,c4]):=id rfl
@[simp] theorem a8u (h:Hp) (o k f:Nat):a0c tab h a0k (.ptr o k f)=(h.row o k).bind fun row=>a8a 5 (row.drop f):=by show (match h.row o k with | some row=>_ | none=>none)=_;cases h.row o k <;> rfl
@[simp] theorem c7P (f:Bool) (rows:List (List D)) (i:Int):a0a tab a2q (.sl 10 f rows) (.int .i64 i)=if 0≤i then (rows[i.toNat]?).map .fptr else none:=by show (if 10=10∧0≤i then (match rows[i.toNat]? with | some row=>some (D.fptr row) | none=>none) else none)=_;by_cases h:0≤i <;> simp [h] <;> cases rows[i.toNat]? <;> rfl
@[simp] theorem c3I (o r n:Nat) (i:Int):a0a tab a2q (.msl 10 o r n) (.int .i64 i)=if 0≤i∧i<n then some (.ptr o (r+i.toNat) 0) else none:=by show (if 10=10∧0≤i∧i<n then some (D.ptr o (r+i.toNat) 0) else none)=_;simp
@[simp] theorem b4m {α:Type} {f:α→List D} {l:List α} {d:D} (h:SlOf 10 f l d) (i:Int):a0a tab a2q d (.int .i64 i)=if 0≤i then (l[i.toNat]?).map fun p => .fptr (f p) else none := 
 by
  rcases h with ⟨rfl,rfl⟩ | ⟨b,rfl⟩
  ·show none=_;simp
  ·rw [c7P];simp [Function.comp_def]
@[simp] theorem c5j (x0_0 x0_1 x0_2 x0_3 x0_4 x0_5 x0_6 x0_7 x0_8 x0_9:D):a0J tab a2q 1 [0] [.agg [x0_0,x0_1,x0_2,x0_3,x0_4,x0_5,x0_6,x0_7,x0_8,x0_9]]=some (.sl 10 true [[x0_0,x0_1,x0_2,x0_3,x0_4,x0_5,x0_6,x0_7,x0_8,x0_9]]):=id rfl
theorem b4U {h:Hp} {n0:Nat} (hn0:n0≤h.length) {rows:List (List D)} {x y:D} (hx:Own h n0 a0E 10 rows x) {ys:List (List D)} (hy:a1b h 10 y=some ys) (hl:(rows.length+ys.length)*128≤140737488355328) {β:Type} {f:D × Hp→Option β} {Q:β→Prop}
  (k:∀ x' h',Own h' n0 a0E 10 (rows++ys) x'→h.length≤h'.length→(∀ q,q<n0→h'[q]?=h[q]?)→(∀ q,q<h.length→¬ x.inOb q→h'[q]?=h[q]?)→(∀ q,x'.inOb q→x.inOb q∨h.length≤q)→Wp (f (x',h')) Q):Wp ((a0D tab h a2q a2q x y).bind f) Q := 
 a2I (T:=tab) (i:=c0K) (j:=c0J) (id rfl) (id rfl) (id rfl) (by decide) hn0 hx hy (a2z hl (by omega)) k
@[simp] theorem a3S (n0:Int) (s1:List UInt8):a0M tab a0k [0,2] [.int .i64 n0,.str s1]=some (.agg [.int .i64 n0,.str [],.str s1,.int .i64 0,.nils]):=id rfl
theorem a8G {h:Hp} {o T sz kk off:Nat} {rows:List (List D)} {row:List D} {v:D} (ho:h[o]?=some (.row T sz rows)) (hr:rows[kk]?=some row) (hv:(a0A v).length=5) (hl:off+5≤row.length) (hk:v.okv=true) {β:Type} {f:Hp→Option β} {Q:β→Prop}
  (k:∀ h',h'[o]?=some (.row T sz (rows.set kk (spl row off (a0A v))))→Same o h h'→Wp (f h') Q):Wp ((a0o tab h a0k (.ptr o kk off) v).bind f) Q := 
 by rw [show a0o tab h a0k (.ptr o kk off) v=pSt 5 h (.ptr o kk off) v from rfl];exact a2U ho hr hv hl hk k
@[simp] theorem a4d (n0:Int) (s1:List UInt8) (s2:List UInt8):a0M tab a0k [0,1,2] [.int .i64 n0,.str s1,.str s2]=some (.agg [.int .i64 n0,.str s1,.str s2,.int .i64 0,.nils]):=id rfl
@[simp] theorem b0f (n0:Int) (s1:List UInt8):a0M tab a0k [0,1] [.int .i64 n0,.str s1]=some (.agg [.int .i64 n0,.str s1,.str [],.int .i64 0,.nils]):=id rfl
@[simp] theorem a7k (n0:Int) (s1:List UInt8) (n2:Int):a0M tab a0k [0,1,3] [.int .i64 n0,.str s1,.int .i64 n2]=some (.agg [.int .i64 n0,.str s1,.str [],.int .i64 n2,.nils]):=id rfl
@[simp] theorem a7u (o k f:Nat):a0b tab a0k 1 (.ptr o k f)=some (.ptr o k (f+1)):=id rfl
theorem c1L {h:Hp} {o T sz kk off:Nat} {rows:List (List D)} {row:List D} {v:D} (ho:h[o]?=some (.row T sz rows)) (hr:rows[kk]?=some row) (hv:(a0A v).length=1) (hl:off+1≤row.length) (hk:v.okv=true) {β:Type} {f:Hp→Option β} {Q:β→Prop}
  (k:∀ h',h'[o]?=some (.row T sz (rows.set kk (spl row off (a0A v))))→Same o h h'→Wp (f h') Q):Wp ((a0o tab h ty9 (.ptr o kk off) v).bind f) Q := 
 by rw [show a0o tab h ty9 (.ptr o kk off) v=pSt 1 h (.ptr o kk off) v from rfl];exact a2U ho hr hv hl hk k
@[simp] theorem a7v (o k f:Nat):a0b tab a0k 3 (.ptr o k f)=some (.ptr o k (f+3)):=id rfl
@[simp] theorem c5t (f:Bool) (rows:List (List D)) (i:Int):a0a tab a3p (.sl 1 f rows) (.int .i64 i)=if 0≤i then (rows[i.toNat]?).map .fptr else none:=by show (if 1=1∧0≤i then (match rows[i.toNat]? with | some row=>some (D.fptr row) | none=>none) else none)=_;by_cases h:0≤i <;> simp [h] <;> cases rows[i.toNat]? <;> rfl
@[simp] theorem b9R {α:Type} {f:α→List D} {l:List α} {d:D} (h:SlOf 1 f l d) (i:Int):a0a tab a3p d (.int .i64 i)=if 0≤i then (l[i.toNat]?).map fun p => .fptr (f p) else none := 
 by
  rcases h with ⟨rfl,rfl⟩ | ⟨b,rfl⟩
  ·show none=_;simp
  ·rw [c5t];simp [Function.comp_def]
@[simp] theorem b6d  : a0M tab a0k [] []=some (.agg [.int .i64 0,.str [],.str [],.int .i64 0,.nils]):=id rfl
@[simp] theorem b0g (n0:Int) (d1:D) (h1:d1.one=true):a0M tab a0k [0,4] [.int .i64 n0,d1]=some (.agg [.int .i64 n0,.str [],.str [],.int .i64 0,d1]):=by
 have c1:=a2T h1
 refine b8Z (T:=tab) (i:=ti1321) (fs:=[(3,0,1),(9,1,1),(9,2,1),(3,3,1),(48,4,1)]) (id rfl) (id rfl) ?_
 rw [show ti1321.zero=[.int .i64 0,.str [],.str [],.int .i64 0,.nils] from id rfl]
 rw [a4M (off:=0) (sz:=1) (id rfl) (id rfl) (by simp [spl,a3T,a3U,a3v,a3g]) (id rfl)]
 rw [a4M (off:=4) (sz:=1) (id rfl) (by rw [c1.1];rfl) (by simp [spl,a3T,a3U,a3v,a3g]) c1.2,c1.1]
 exact id rfl
@[simp] theorem b3J (n0:Int):a0M tab a0k [0] [.int .i64 n0]=some (.agg [.int .i64 n0,.str [],.str [],.int .i64 0,.nils]):=id rfl
@[simp] theorem a7w (o k f:Nat):a0b tab a0k 4 (.ptr o k f)=some (.ptr o k (f+4)):=id rfl
@[simp] theorem b9W (c:D) (cs:List D) (h:Hp):a0c tab h a0H (.fptr (c::cs))=some c:=id rfl
@[simp] theorem b2d (h:Hp) (o k f:Nat):a0c tab h a0H (.ptr o k f)=(h.row o k).bind fun row=>(row.drop f).head?:=by show (match h.row o k with | some row=>_ | none=>none)=_;cases h.row o k <;> rfl
theorem b7E {h:Hp} {n0:Nat} (hn0:n0≤h.length) {rows:List (List D)} {x y:D} (hx:Own h n0 a0k 5 rows x) {ys:List (List D)} (hy:a1b h 5 y=some ys) (hl:(rows.length+ys.length)*72≤140737488355328) {β:Type} {f:D × Hp→Option β} {Q:β→Prop}
  (k:∀ x' h',Own h' n0 a0k 5 (rows++ys) x'→h.length≤h'.length→(∀ q,q<n0→h'[q]?=h[q]?)→(∀ q,q<h.length→¬ x.inOb q→h'[q]?=h[q]?)→(∀ q,x'.inOb q→x.inOb q∨h.length≤q)→Wp (f (x',h')) Q):Wp ((a0D tab h a0H a0H x y).bind f) Q := 
 a2I (T:=tab) (i:=b3g) (j:=ti1321) (id rfl) (id rfl) (id rfl) (by decide) hn0 hx hy (a2z hl (by omega)) k
theorem b7I {h:Hp} {o T sz kk off:Nat} {rows:List (List D)} {row:List D} {v:D} (ho:h[o]?=some (.row T sz rows)) (hr:rows[kk]?=some row) (hv:(a0A v).length=1) (hl:off+1≤row.length) (hk:v.okv=true) {β:Type} {f:Hp→Option β} {Q:β→Prop}
  (k:∀ h',h'[o]?=some (.row T sz (rows.set kk (spl row off (a0A v))))→Same o h h'→Wp (f h') Q):Wp ((a0o tab h a0H (.ptr o kk off) v).bind f) Q := 
 by rw [show a0o tab h a0H (.ptr o kk off) v=pSt 1 h (.ptr o kk off) v from rfl];exact a2U ho hr hv hl hk k
@[simp] theorem b9c (n0:Int) (n1:Int) (n2:Int) (n3:Int):a0J tab a3p 4 [0,1,2,3] [.int .i64 n0,.int .i64 n1,.int .i64 n2,.int .i64 n3]=some (.sl 1 true [[.int .i64 n0],[.int .i64 n1],[.int .i64 n2],[.int .i64 n3]]):=id rfl
@[simp] theorem b4u {α:Type} {f:α→List D} {l:List α} {d:D} (h:SlOf 2 f l d):a0C tab a0v d=some (.int .i64 l.length) := 
 by
  rcases h with ⟨rfl,rfl⟩ | ⟨b,rfl⟩
  ·rfl
  ·show some (D.int .i64 ((l.map f).length:Nat))=_;simp
theorem b4t {h:Hp} {n0 e z:Nat} {rows:List (List D)} {d:D} (hd:Own h n0 e z rows d):a0C tab a0v d=some (.int .i64 rows.length):=by
 rcases hd with ⟨rfl,rfl⟩ | ⟨o,_,rfl,_⟩ <;> rfl
@[simp] theorem a9K (z o r n:Nat):a0C tab a0v (.msl z o r n)=some (.int .i64 n):=id rfl
@[simp] theorem b4s:a0C tab a0v .nils=some (.int .i64 0):=id rfl
@[simp] theorem a4H (k:IntKind) (n:Int):a2d tab ty3 a4c (.int k n)=some (.int .u64 (IntKind.wrap .u64 n)):=id rfl
@[simp] theorem c0c {α:Type} {f:α→List D} {l:List α} {d:D} (h:SlOf 1 f l d):a0C tab a3p d=some (.int .i64 l.length) := 
 by
  rcases h with ⟨rfl,rfl⟩ | ⟨b,rfl⟩
  ·rfl
  ·show some (D.int .i64 ((l.map f).length:Nat))=_;simp
theorem b4V {h:Hp} {o T sz kk off:Nat} {rows:List (List D)} {row:List D} {v:D} (ho:h[o]?=some (.row T sz rows)) (hr:rows[kk]?=some row) (hv:(a0A v).length=10) (hl:off+10≤row.length) (hk:v.okv=true) {β:Type} {f:Hp→Option β} {Q:β→Prop}
  (k:∀ h',h'[o]?=some (.row T sz (rows.set kk (spl row off (a0A v))))→Same o h h'→Wp (f h') Q):Wp ((a0o tab h a0E (.ptr o kk off) v).bind f) Q := 
 by rw [show a0o tab h a0E (.ptr o kk off) v=pSt 10 h (.ptr o kk off) v from rfl];exact a2U ho hr hv hl hk k
@[simp] theorem c5n (c0 c1 c2 c3:D) (cs:List D):a0b tab a0E 3 (.fptr (c0::c1::c2::c3::cs))=some (.fptr (c3::cs)):=id rfl
@[simp] theorem b6p (o k f:Nat):a0b tab a0E 3 (.ptr o k f)=some (.ptr o k (f+3)):=id rfl
@[simp] theorem b6r (o k f:Nat):a0b tab a0E 6 (.ptr o k f)=some (.ptr o k (f+6)):=id rfl
@[simp] theorem b6s (o k f:Nat):a0b tab a0E 7 (.ptr o k f)=some (.ptr o k (f+7)):=id rfl
@[simp] theorem b6t (o k f:Nat):a0b tab a0E 8 (.ptr o k f)=some (.ptr o k (f+8)):=id rfl
@[simp] theorem b1p (o k f:Nat):a0b tab a0E 4 (.ptr o k f)=some (.ptr o k (f+4)):=id rfl
@[simp] theorem c5u (c:D) (cs:List D) (h:Hp):a0c tab h a3o (.fptr (c::cs))=some c:=id rfl
@[simp] theorem b9X (h:Hp) (o k f:Nat):a0c tab h a3o (.ptr o k f)=(h.row o k).bind fun row=>(row.drop f).head?:=by show (match h.row o k with | some row=>_ | none=>none)=_;cases h.row o k <;> rfl
@[simp] theorem c5o (c0 c1 c2 c3 c4 c5 c6 c7 c8 c9:D) (cs:List D):a0b tab a0E 9 (.fptr (c0::c1::c2::c3::c4::c5::c6::c7::c8::c9::cs))=some (.fptr (c9::cs)):=id rfl
@[simp] theorem b6u (o k f:Nat):a0b tab a0E 9 (.ptr o k f)=some (.ptr o k (f+9)):=id rfl
@[simp] theorem c8B (c:D) (cs:List D) (h:Hp):a0c tab h a3B (.fptr (c::cs))=some c:=id rfl
@[simp] theorem c7T (h:Hp) (o k f:Nat):a0c tab h a3B (.ptr o k f)=(h.row o k).bind fun row=>(row.drop f).head?:=by show (match h.row o k with | some row=>_ | none=>none)=_;cases h.row o k <;> rfl
theorem c1m {h:Hp} {o T sz kk off:Nat} {rows:List (List D)} {row:List D} {v:D} (ho:h[o]?=some (.row T sz rows)) (hr:rows[kk]?=some row) (hv:(a0A v).length=11) (hl:off+11≤row.length) (hk:v.okv=true) {β:Type} {f:Hp→Option β} {Q:β→Prop}
  (k:∀ h',h'[o]?=some (.row T sz (rows.set kk (spl row off (a0A v))))→Same o h h'→Wp (f h') Q):Wp ((a0o tab h a1Z (.ptr o kk off) v).bind f) Q := 
 by rw [show a0o tab h a1Z (.ptr o kk off) v=pSt 11 h (.ptr o kk off) v from rfl];exact a2U ho hr hv hl hk k
@[simp] theorem c3S (h:Hp) (o k f:Nat):a0c tab h a1Z (.ptr o k f)=(h.row o k).bind fun row=>a8a 11 (row.drop f):=by show (match h.row o k with | some row=>_ | none=>none)=_;cases h.row o k <;> rfl
theorem c1l {h:Hp} {n0:Nat} (hn0:n0≤h.length) {rows:List (List D)} {x y:D} (hx:Own h n0 a1Z 11 rows x) {ys:List (List D)} (hy:a1b h 11 y=some ys) (hl:(rows.length+ys.length)*144≤140737488355328) {β:Type} {f:D × Hp→Option β} {Q:β→Prop}
  (k:∀ x' h',Own h' n0 a1Z 11 (rows++ys) x'→h.length≤h'.length→(∀ q,q<n0→h'[q]?=h[q]?)→(∀ q,q<h.length→¬ x.inOb q→h'[q]?=h[q]?)→(∀ q,x'.inOb q→x.inOb q∨h.length≤q)→Wp (f (x',h')) Q):Wp ((a0D tab h a2o a2o x y).bind f) Q := 
 a2I (T:=tab) (i:=b3b) (j:=c4u) (id rfl) (id rfl) (id rfl) (by decide) hn0 hx hy (a2z hl (by omega)) k
@[simp] theorem b6e (d0:D) (h0:d0.one=true):a0J tab a3z 1 [0] [d0]=some (.sl 1 true [[d0]]):=b4x (T:=tab) (t:=a3z) (n:=1) (i:=b4O) (j:=b3b) (id rfl) (id rfl) (id rfl) (id rfl) [d0] rfl (by decide) (by simp [h0])
theorem c1k {h:Hp} {n0:Nat} (hn0:n0≤h.length) {rows:List (List D)} {x y:D} (hx:Own h n0 a2o 1 rows x) {ys:List (List D)} (hy:a1b h 1 y=some ys) (hl:(rows.length+ys.length)*24≤140737488355328) {β:Type} {f:D × Hp→Option β} {Q:β→Prop}
  (k:∀ x' h',Own h' n0 a2o 1 (rows++ys) x'→h.length≤h'.length→(∀ q,q<n0→h'[q]?=h[q]?)→(∀ q,q<h.length→¬ x.inOb q→h'[q]?=h[q]?)→(∀ q,x'.inOb q→x.inOb q∨h.length≤q)→Wp (f (x',h')) Q):Wp ((a0D tab h a3z a3z x y).bind f) Q := 
 a2I (T:=tab) (i:=b4O) (j:=b3b) (id rfl) (id rfl) (id rfl) (by decide) hn0 hx hy (a2z hl (by omega)) k
@[simp] theorem a6N {α:Type} {f:α→List D} {l:List α} {d:D} (h:SlOf 5 f l d):a0C tab a0H d=some (.int .i64 l.length) := 
 by
  rcases h with ⟨rfl,rfl⟩ | ⟨b,rfl⟩
  ·rfl
  ·show some (D.int .i64 ((l.map f).length:Nat))=_;simp
@[simp] theorem b9O (f:Bool) (rows:List (List D)) (i:Int):a0a tab a0H (.sl 5 f rows) (.int .i64 i)=if 0≤i then (rows[i.toNat]?).map .fptr else none:=by show (if 5=5∧0≤i then (match rows[i.toNat]? with | some row=>some (D.fptr row) | none=>none) else none)=_;by_cases h:0≤i <;> simp [h] <;> cases rows[i.toNat]? <;> rfl
@[simp] theorem b1Y {α:Type} {f:α→List D} {l:List α} {d:D} (h:SlOf 5 f l d) (i:Int):a0a tab a0H d (.int .i64 i)=if 0≤i then (l[i.toNat]?).map fun p => .fptr (f p) else none := 
 by
  rcases h with ⟨rfl,rfl⟩ | ⟨b,rfl⟩
  ·show none=_;simp
  ·rw [b9O];simp [Function.comp_def]
def lt98_46:List (List UInt8):=[[108,101,118,101,108],[109,115],[117,115,101,114],[99,111,100,101]]
@[simp] theorem b7T:a0J tab a1d 4 [0,1,2,3] [.str [108,101,118,101,108],.str [109,115],.str [117,115,101,114],.str [99,111,100,101]]=some (.sl 1 true (lt98_46.map fun s=>[.str s])):=id rfl
def lt98_1:List (List UInt8):=[[119,97,114,110],[105,110,102,111],[55],[45,51],[51,49],[],[120,32,121],[57,57,57,57,57,57,57,57,57,57,57,57,57,57,57,57,57,57],[49,48,48,48,48,48,48,48,48,48,48,48,48,48,48,48,48,48,48],[48,55],[45]]
@[simp] theorem b7S:lt98_1.length=11:=id rfl
@[simp] theorem c0e:a0J tab a1d 11 [0,1,2,3,4,5,6,7,8,9,10] [.str [119,97,114,110],.str [105,110,102,111],.str [55],.str [45,51],.str [51,49],.str [],.str [120,32,121],.str [57,57,57,57,57,57,57,57,57,57,57,57,57,57,57,57,57,57],.str [49,48,48,48,48,48,48,48,48,48,48,48,48,48,48,48,48,48,48],.str [48,55],.str [45]]=some (.sl 1 true (lt98_1.map fun s=>[.str s])):=id rfl
@[simp] theorem a2y {α:Type} {f:α→List D} {l:List α} {d:D} (h:SlOf 1 f l d):a0C tab a1d d=some (.int .i64 l.length) := 
 by
  rcases h with ⟨rfl,rfl⟩ | ⟨b,rfl⟩
  ·rfl
  ·show some (D.int .i64 ((l.map f).length:Nat))=_;simp
theorem a5M {h:Hp} {n0 e z:Nat} {rows:List (List D)} {d:D} (hd:Own h n0 e z rows d):a0C tab a1d d=some (.int .i64 rows.length):=by
 rcases hd with ⟨rfl,rfl⟩ | ⟨o,_,rfl,_⟩ <;> rfl
@[simp] theorem c3T (z:Nat) (f:Bool) (rows:List (List D)):a0C tab a1d (.sl z f rows)=some (.int .i64 rows.length):=id rfl
@[simp] theorem b9Z (z o r n:Nat):a0C tab a1d (.msl z o r n)=some (.int .i64 n):=id rfl
@[simp] theorem a4x {α:Type} {f:α→List D} {l:List α} {d:D} (h:SlOf 12 f l d):a0C tab a0u d=some (.int .i64 l.length) := 
 by
  rcases h with ⟨rfl,rfl⟩ | ⟨b,rfl⟩
  ·rfl
  ·show some (D.int .i64 ((l.map f).length:Nat))=_;simp
@[simp] theorem b4r (z o r n:Nat):a0C tab a0u (.msl z o r n)=some (.int .i64 n):=id rfl
@[simp] theorem b1X (o r n:Nat) (i:Int):a0a tab a0v (.msl 2 o r n) (.int .i64 i)=if 0≤i∧i<n then some (.ptr o (r+i.toNat) 0) else none:=by show (if 2=2∧0≤i∧i<n then some (D.ptr o (r+i.toNat) 0) else none)=_;simp
@[simp] theorem b2c (h:Hp) (o k f:Nat):a0c tab h a0i (.ptr o k f)=(h.row o k).bind fun row=>a8a 2 (row.drop f):=by show (match h.row o k with | some row=>_ | none=>none)=_;cases h.row o k <;> rfl
@[simp] theorem a9L {α:Type} {f:α→List D} {l:List α} {d:D} (h:SlOf 3 f l d):a0C tab a3o d=some (.int .i64 l.length) := 
 by
  rcases h with ⟨rfl,rfl⟩ | ⟨b,rfl⟩
  ·rfl
  ·show some (D.int .i64 ((l.map f).length:Nat))=_;simp
theorem c0b {h:Hp} {n0 e z:Nat} {rows:List (List D)} {d:D} (hd:Own h n0 e z rows d):a0C tab a3o d=some (.int .i64 rows.length):=by
 rcases hd with ⟨rfl,rfl⟩ | ⟨o,_,rfl,_⟩ <;> rfl
@[simp] theorem c7N (f:Bool) (rows:List (List D)) (i:Int):a0a tab a3o (.sl 3 f rows) (.int .i64 i)=if 0≤i then (rows[i.toNat]?).map .fptr else none:=by show (if 3=3∧0≤i then (match rows[i.toNat]? with | some row=>some (D.fptr row) | none=>none) else none)=_;by_cases h:0≤i <;> simp [h] <;> cases rows[i.toNat]? <;> rfl
@[simp] theorem c3H (o r n:Nat) (i:Int):a0a tab a3o (.msl 3 o r n) (.int .i64 i)=if 0≤i∧i<n then some (.ptr o (r+i.toNat) 0) else none:=by show (if 3=3∧0≤i∧i<n then some (D.ptr o (r+i.toNat) 0) else none)=_;simp
@[simp] theorem b6N {α:Type} {f:α→List D} {l:List α} {d:D} (h:SlOf 3 f l d) (i:Int):a0a tab a3o d (.int .i64 i)=if 0≤i then (l[i.toNat]?).map fun p => .fptr (f p) else none := 
 by
  rcases h with ⟨rfl,rfl⟩ | ⟨b,rfl⟩
  ·show none=_;simp
  ·rw [c7N];simp [Function.comp_def]
@[simp] theorem c5i (a0 b0:Int) (a1 b1:Int) (a2 b2:List UInt8):a0f tab .neq a7e (.agg [.int .i64 a0,.int .i64 a1,.str a2]) (.agg [.int .i64 b0,.int .i64 b1,.str b2])=some (.bool (!(a0==b0&&(a1==b1&&(a2==b2&&true))))):=id rfl
@[simp] theorem a4j {α:Type} {f:α→List D} {l:List α} {d:D} (h:SlOf 2 f l d):a0C tab a3B d=some (.int .i64 l.length) := 
 by
  rcases h with ⟨rfl,rfl⟩ | ⟨b,rfl⟩
  ·rfl
  ·show some (D.int .i64 ((l.map f).length:Nat))=_;simp
@[simp] theorem c7O (f:Bool) (rows:List (List D)) (i:Int):a0a tab a3B (.sl 2 f rows) (.int .i64 i)=if 0≤i then (rows[i.toNat]?).map .fptr else none:=by show (if 2=2∧0≤i then (match rows[i.toNat]? with | some row=>some (D.fptr row) | none=>none) else none)=_;by_cases h:0≤i <;> simp [h] <;> cases rows[i.toNat]? <;> rfl
@[simp] theorem b0v {α:Type} {f:α→List D} {l:List α} {d:D} (h:SlOf 2 f l d) (i:Int):a0a tab a3B d (.int .i64 i)=if 0≤i then (l[i.toNat]?).map fun p => .fptr (f p) else none := 
 by
  rcases h with ⟨rfl,rfl⟩ | ⟨b,rfl⟩
  ·show none=_;simp
  ·rw [c7O];simp [Function.comp_def]
@[simp] theorem c7Q (c0 c1:D) (cs:List D) (h:Hp):a0c tab h a2s (.fptr (c0::c1::cs))=some (.agg [c0,c1]):=id rfl
@[simp] theorem c1V (a0 b0:List UInt8) (a1 b1:List UInt8):a0f tab .neq a2s (.agg [.str a0,.str a1]) (.agg [.str b0,.str b1])=some (.bool (!(a0==b0&&(a1==b1&&true)))):=id rfl
@[simp] theorem b0h (n0:Int) (n1:Int) (n2:Int):a0M tab a0E [0,1,2] [.int .i64 n0,.int .i64 n1,.int .i64 n2]=some (.agg [.int .i64 n0,.int .i64 n1,.int .i64 n2,.int .i64 0,.nils,.int .i64 0,.int .i64 0,.str [],.str [],.nils]):=id rfl
@[simp] theorem b2h (s:List UInt8):a0C tab ty9 (.str s)=some (.int .i64 s.length):=id rfl
@[simp] theorem b0i (n0:Int) (n1:Int) (s2:List UInt8):a0M tab a7e [0,1,2] [.int .i64 n0,.int .i64 n1,.str s2]=some (.agg [.int .i64 n0,.int .i64 n1,.str s2]):=id rfl
@[simp] theorem b9a (x0_0 x0_1 x0_2:D):a0J tab a3o 1 [0] [.agg [x0_0,x0_1,x0_2]]=some (.sl 3 true [[x0_0,x0_1,x0_2]]):=id rfl
theorem c4X {h:Hp} {n0:Nat} (hn0:n0≤h.length) {rows:List (List D)} {x y:D} (hx:Own h n0 a7e 3 rows x) {ys:List (List D)} (hy:a1b h 3 y=some ys) (hl:(rows.length+ys.length)*32≤140737488355328) {β:Type} {f:D × Hp→Option β} {Q:β→Prop}
  (k:∀ x' h',Own h' n0 a7e 3 (rows++ys) x'→h.length≤h'.length→(∀ q,q<n0→h'[q]?=h[q]?)→(∀ q,q<h.length→¬ x.inOb q→h'[q]?=h[q]?)→(∀ q,x'.inOb q→x.inOb q∨h.length≤q)→Wp (f (x',h')) Q):Wp ((a0D tab h a3o a3o x y).bind f) Q := 
 a2I (T:=tab) (i:=c4s) (j:=c4v) (id rfl) (id rfl) (id rfl) (by decide) hn0 hx hy (a2z hl (by omega)) k
theorem c4Z {h:Hp} {o T sz kk off:Nat} {rows:List (List D)} {row:List D} {v:D} (ho:h[o]?=some (.row T sz rows)) (hr:rows[kk]?=some row) (hv:(a0A v).length=1) (hl:off+1≤row.length) (hk:v.okv=true) {β:Type} {f:Hp→Option β} {Q:β→Prop}
  (k:∀ h',h'[o]?=some (.row T sz (rows.set kk (spl row off (a0A v))))→Same o h h'→Wp (f h') Q):Wp ((a0o tab h a3o (.ptr o kk off) v).bind f) Q := 
 by rw [show a0o tab h a3o (.ptr o kk off) v=pSt 1 h (.ptr o kk off) v from rfl];exact a2U ho hr hv hl hk k
@[simp] theorem b6v (o k f:Nat):a0b tab a7e 2 (.ptr o k f)=some (.ptr o k (f+2)):=id rfl
def lt98_4:List (List UInt8):=[[115,97,109,112,108,101],[100,114,111,112],[116,111,111,45,108,111,110,103]]
@[simp] theorem b2q:a0J tab a1d 3 [0,1,2] [.str [115,97,109,112,108,101],.str [100,114,111,112],.str [116,111,111,45,108,111,110,103]]=some (.sl 1 true (lt98_4.map fun s=>[.str s])):=id rfl
@[simp] theorem b3K (s0:List UInt8) (x1_0 x1_1 x1_2 x1_3 x1_4 x1_5 x1_6 x1_7 x1_8 x1_9:D):a0M tab a1Z [0,1] [.str s0,.agg [x1_0,x1_1,x1_2,x1_3,x1_4,x1_5,x1_6,x1_7,x1_8,x1_9]]=some (.agg [.str s0,x1_0,x1_1,x1_2,x1_3,x1_4,x1_5,x1_6,x1_7,x1_8,x1_9]):=id rfl
def lt98_5:List (List UInt8):=[[116,49],[116,50],[],[49,58,50,58,48]]
@[simp] theorem b2r:a0J tab a1d 4 [0,1,2,3] [.str [116,49],.str [116,50],.str [],.str [49,58,50,58,48]]=some (.sl 1 true (lt98_5.map fun s=>[.str s])):=id rfl
def lt98_6:List (List UInt8):=[[109,97,105,110],[100,101,98,117,103]]
@[simp] theorem b2s:a0J tab a1d 2 [0,1] [.str [109,97,105,110],.str [100,101,98,117,103]]=some (.sl 1 true (lt98_6.map fun s=>[.str s])):=id rfl
theorem c5a {h:Hp} {o T sz kk off:Nat} {rows:List (List D)} {row:List D} {v:D} (ho:h[o]?=some (.row T sz rows)) (hr:rows[kk]?=some row) (hv:(a0A v).length=1) (hl:off+1≤row.length) (hk:v.okv=true) {β:Type} {f:Hp→Option β} {Q:β→Prop}
  (k:∀ h',h'[o]?=some (.row T sz (rows.set kk (spl row off (a0A v))))→Same o h h'→Wp (f h') Q):Wp ((a0o tab h a3B (.ptr o kk off) v).bind f) Q := 
 by rw [show a0o tab h a3B (.ptr o kk off) v=pSt 1 h (.ptr o kk off) v from rfl];exact a2U ho hr hv hl hk k
@[simp] theorem b5g (n0:Int):a0J tab a3d 1 [0] [.int .u8 n0]=some (.sl 1 true [[.int .u8 n0]]):=id rfl
theorem c4W {h:Hp} {n0:Nat} (hn0:n0≤h.length) {rows:List (List D)} {x y:D} (hx:Own h n0 ty5 1 rows x) {ys:List (List D)} (hy:a1b h 1 y=some ys) (hl:(rows.length+ys.length)*1≤140737488355328) {β:Type} {f:D × Hp→Option β} {Q:β→Prop}
  (k:∀ x' h',Own h' n0 ty5 1 (rows++ys) x'→h.length≤h'.length→(∀ q,q<n0→h'[q]?=h[q]?)→(∀ q,q<h.length→¬ x.inOb q→h'[q]?=h[q]?)→(∀ q,x'.inOb q→x.inOb q∨h.length≤q)→Wp (f (x',h')) Q):Wp ((a0D tab h a3d a3d x y).bind f) Q := 
 a2I (T:=tab) (i:=ti22) (j:=ti5) (id rfl) (id rfl) (id rfl) (by decide) hn0 hx hy (a2z hl (by omega)) k
theorem a8F {h:Hp} {n0:Nat} (hn0:n0≤h.length) {rows:List (List D)} {x y:D} (hx:Own h n0 ty9 1 rows x) {ys:List (List D)} (hy:a1b h 1 y=some ys) (hl:(rows.length+ys.length)*16≤140737488355328) {β:Type} {f:D × Hp→Option β} {Q:β→Prop}
  (k:∀ x' h',Own h' n0 ty9 1 (rows++ys) x'→h.length≤h'.length→(∀ q,q<n0→h'[q]?=h[q]?)→(∀ q,q<h.length→¬ x.inOb q→h'[q]?=h[q]?)→(∀ q,x'.inOb q→x.inOb q∨h.length≤q)→Wp (f (x',h')) Q):Wp ((a0D tab h a1d a1d x y).bind f) Q := 
 a2I (T:=tab) (i:=b7v) (j:=ti9) (id rfl) (id rfl) (id rfl) (by decide) hn0 hx hy (a2z hl (by omega)) k
@[simp] theorem b9N (f:Bool) (rows:List (List D)) (i:Int):a0a tab a0u (.sl 12 f rows) (.int .i64 i)=if 0≤i then (rows[i.toNat]?).map .fptr else none:=by show (if 12=12∧0≤i then (match rows[i.toNat]? with | some row=>some (D.fptr row) | none=>none) else none)=_;by_cases h:0≤i <;> simp [h] <;> cases rows[i.toNat]? <;> rfl
@[simp] theorem b1W (o r n:Nat) (i:Int):a0a tab a0u (.msl 12 o r n) (.int .i64 i)=if 0≤i∧i<n then some (.ptr o (r+i.toNat) 0) else none:=by show (if 12=12∧0≤i∧i<n then some (D.ptr o (r+i.toNat) 0) else none)=_;simp
@[simp] theorem a5b {α:Type} {f:α→List D} {l:List α} {d:D} (h:SlOf 12 f l d) (i:Int):a0a tab a0u d (.int .i64 i)=if 0≤i then (l[i.toNat]?).map fun p => .fptr (f p) else none := 
 by
  rcases h with ⟨rfl,rfl⟩ | ⟨b,rfl⟩
  ·show none=_;simp
  ·rw [b9N];simp [Function.comp_def]
@[simp] theorem b2b (h:Hp) (o k f:Nat):a0c tab h a0g (.ptr o k f)=(h.row o k).bind fun row=>a8a 12 (row.drop f):=by show (match h.row o k with | some row=>_ | none=>none)=_;cases h.row o k <;> rfl
theorem a7d {h:Hp} {o T sz kk off:Nat} {rows:List (List D)} {row:List D} {v:D} (ho:h[o]?=some (.row T sz rows)) (hr:rows[kk]?=some row) (hv:(a0A v).length=2) (hl:off+2≤row.length) (hk:v.okv=true) {β:Type} {f:Hp→Option β} {Q:β→Prop}
  (k:∀ h',h'[o]?=some (.row T sz (rows.set kk (spl row off (a0A v))))→Same o h h'→Wp (f h') Q):Wp ((a0o tab h a0i (.ptr o kk off) v).bind f) Q := 
 by rw [show a0o tab h a0i (.ptr o kk off) v=pSt 2 h (.ptr o kk off) v from rfl];exact a2U ho hr hv hl hk k
@[simp] theorem a9o (k:IntKind) (n:Int):a2d tab ty3 a0T (.int k n)=some (.int .u64 (IntKind.wrap .u64 n)):=id rfl
theorem a5k {h:Hp} {o T sz kk off:Nat} {rows:List (List D)} {row:List D} {v:D} (ho:h[o]?=some (.row T sz rows)) (hr:rows[kk]?=some row) (hv:(a0A v).length=1) (hl:off+1≤row.length) (hk:v.okv=true) {β:Type} {f:Hp→Option β} {Q:β→Prop}
  (k:∀ h',h'[o]?=some (.row T sz (rows.set kk (spl row off (a0A v))))→Same o h h'→Wp (f h') Q):Wp ((a0o tab h a0T (.ptr o kk off) v).bind f) Q := 
 by rw [show a0o tab h a0T (.ptr o kk off) v=pSt 1 h (.ptr o kk off) v from rfl];exact a2U ho hr hv hl hk k
@[simp] theorem b0Y (k:IntKind) (n:Int):a2d tab a4c ty3 (.int k n)=some (.int .i64 (IntKind.wrap .i64 n)):=id rfl
@[simp] theorem a4s (k:IntKind) (n:Int):a2d tab a2n ty5 (.int k n)=some (.int .u8 (IntKind.wrap .u8 n)):=id rfl
def lt98_7:List (List UInt8):=[[32],[32],[44,32],[61],[]]
@[simp] theorem b2t:a0J tab a1d 5 [0,1,2,3,4] [.str [32],.str [32],.str [44,32],.str [61],.str []]=some (.sl 1 true (lt98_7.map fun s=>[.str s])):=id rfl
def lt82_8:List Int:=[1,1,2,5,10,5040]
@[simp] theorem c0d:a0J tab a3p 6 [0,1,2,3,4,5] [.int .i64 1,.int .i64 1,.int .i64 2,.int .i64 5,.int .i64 10,.int .i64 5040]=some (.sl 1 true (lt82_8.map fun n=>[.int .i64 n])):=id rfl
def lt98_9:List (List UInt8):=[[99,111,100,101],[108,101,118,101,108],[109,115],[117,115,101,114]]
@[simp] theorem b0w:lt98_9.length=4:=id rfl
@[simp] theorem b2u:a0J tab a1d 4 [0,1,2,3] [.str [99,111,100,101],.str [108,101,118,101,108],.str [109,115],.str [117,115,101,114]]=some (.sl 1 true (lt98_9.map fun s=>[.str s])):=id rfl
@[simp] theorem b0L (s0:List UInt8) (s1:List UInt8):a0M tab a2s [0,1] [.str s0,.str s1]=some (.agg [.str s0,.str s1]):=id rfl
@[simp] theorem b9b (x0_0 x0_1:D):a0J tab a3B 1 [0] [.agg [x0_0,x0_1]]=some (.sl 2 true [[x0_0,x0_1]]):=id rfl
theorem c4Y {h:Hp} {n0:Nat} (hn0:n0≤h.length) {rows:List (List D)} {x y:D} (hx:Own h n0 a2s 2 rows x) {ys:List (List D)} (hy:a1b h 2 y=some ys) (hl:(rows.length+ys.length)*32≤140737488355328) {β:Type} {f:D × Hp→Option β} {Q:β→Prop}
  (k:∀ x' h',Own h' n0 a2s 2 (rows++ys) x'→h.length≤h'.length→(∀ q,q<n0→h'[q]?=h[q]?)→(∀ q,q<h.length→¬ x.inOb q→h'[q]?=h[q]?)→(∀ q,x'.inOb q→x.inOb q∨h.length≤q)→Wp (f (x',h')) Q):Wp ((a0D tab h a3B a3B x y).bind f) Q := 
 a2I (T:=tab) (i:=c4t) (j:=b7u) (id rfl) (id rfl) (id rfl) (by decide) hn0 hx hy (a2z hl (by omega)) k
@[simp] theorem a9n (k:IntKind) (n:Int):a2d tab ty3 a2n (.int k n)=some (.int .u64 (IntKind.wrap .u64 n)):=id rfl
@[simp] theorem c3h (c0:D) (cs:List D):a0b tab a2s 0 (.fptr (c0::cs))=some (.fptr (c0::cs)):=id rfl
@[simp] theorem c3i (c0 c1:D) (cs:List D):a0b tab a2s 1 (.fptr (c0::c1::cs))=some (.fptr (c1::cs)):=id rfl
theorem a7c {h:Hp} {o T sz kk off:Nat} {rows:List (List D)} {row:List D} {v:D} (ho:h[o]?=some (.row T sz rows)) (hr:rows[kk]?=some row) (hv:(a0A v).length=12) (hl:off+12≤row.length) (hk:v.okv=true) {β:Type} {f:Hp→Option β} {Q:β→Prop}
  (k:∀ h',h'[o]?=some (.row T sz (rows.set kk (spl row off (a0A v))))→Same o h h'→Wp (f h') Q):Wp ((a0o tab h a0g (.ptr o kk off) v).bind f) Q := 
 by rw [show a0o tab h a0g (.ptr o kk off) v=pSt 12 h (.ptr o kk off) v from rfl];exact a2U ho hr hv hl hk k
@[simp] theorem b6U (h:Hp) (o k f:Nat):a0c tab h a0T (.ptr o k f)=(h.row o k).bind fun row=>(row.drop f).head?:=by show (match h.row o k with | some row=>_ | none=>none)=_;cases h.row o k <;> rfl
def lt98_10:List (List UInt8):=[[103,101,116],[101,114,114,111,114],[119,97,114,110],[97,49],[117,115,101,114,95,55],[120],[84,105,109,101,111,117,116],[50,48,48],[71,69,84],[101,114,114,111],[122],[],[255],[97,46,98]]
@[simp] theorem b7b:lt98_10.length=14:=id rfl
@[simp] theorem b7R:a0J tab a1d 14 [0,1,2,3,4,5,6,7,8,9,10,11,12,13] [.str [103,101,116],.str [101,114,114,111,114],.str [119,97,114,110],.str [97,49],.str [117,115,101,114,95,55],.str [120],.str [84,105,109,101,111,117,116],.str [50,48,48],.str [71,69,84],.str [101,114,114,111],.str [122],.str [],.str [255],.str [97,46,98]]=some (.sl 1 true (lt98_10.map fun s=>[.str s])):=id rfl
theorem b0D {h:Hp} {n0:Nat} (hn0:n0≤h.length) {rows:List (List D)} {x y:D} (hx:Own h n0 ty3 1 rows x) {ys:List (List D)} (hy:a1b h 1 y=some ys) (hl:(rows.length+ys.length)*8≤140737488355328) {β:Type} {f:D × Hp→Option β} {Q:β→Prop}
  (k:∀ x' h',Own h' n0 ty3 1 (rows++ys) x'→h.length≤h'.length→(∀ q,q<n0→h'[q]?=h[q]?)→(∀ q,q<h.length→¬ x.inOb q→h'[q]?=h[q]?)→(∀ q,x'.inOb q→x.inOb q∨h.length≤q)→Wp (f (x',h')) Q):Wp ((a0D tab h a3p a3p x y).bind f) Q := 
 a2I (T:=tab) (i:=c4w) (j:=ti3) (id rfl) (id rfl) (id rfl) (by decide) hn0 hx hy (a2z hl (by omega)) k
theorem b7B {h:Hp} {n0:Nat} (hn0:n0≤h.length) {rows:List (List D)} {x y:D} (hx:Own h n0 a1s 20 rows x) {ys:List (List D)} (hy:a1b h 20 y=some ys) (hl:(rows.length+ys.length)*256≤140737488355328) {β:Type} {f:D × Hp→Option β} {Q:β→Prop}
  (k:∀ x' h',Own h' n0 a1s 20 (rows++ys) x'→h.length≤h'.length→(∀ q,q<n0→h'[q]?=h[q]?)→(∀ q,q<h.length→¬ x.inOb q→h'[q]?=h[q]?)→(∀ q,x'.inOb q→x.inOb q∨h.length≤q)→Wp (f (x',h')) Q):Wp ((a0D tab h a0S a0S x y).bind f) Q := 
 a2I (T:=tab) (i:=b3c) (j:=b3f) (id rfl) (id rfl) (id rfl) (by decide) hn0 hx hy (a2z hl (by omega)) k
theorem b7p {α:Type} {f:α→List D} {l:List α} {d:D} (hd:SlOf 12 f l d) {k:IntKind} {n:Int} (h0:0≤n) (h1:n≤l.length) :
  ∃ d',a0F tab a0u true false false [d,.int k n]=some d'∧SlOf 12 f (l.drop n.toNat) d':=a8C (T:=tab) (i:=b0a) (j:=b0b) (id rfl) (id rfl) (id rfl) (id rfl) hd h0 h1
theorem b7D {h:Hp} {n0:Nat} (hn0:n0≤h.length) {rows:List (List D)} {x y:D} (hx:Own h n0 a0i 2 rows x) {ys:List (List D)} (hy:a1b h 2 y=some ys) (hl:(rows.length+ys.length)*16≤140737488355328) {β:Type} {f:D × Hp→Option β} {Q:β→Prop}
  (k:∀ x' h',Own h' n0 a0i 2 (rows++ys) x'→h.length≤h'.length→(∀ q,q<n0→h'[q]?=h[q]?)→(∀ q,q<h.length→¬ x.inOb q→h'[q]?=h[q]?)→(∀ q,x'.inOb q→x.inOb q∨h.length≤q)→Wp (f (x',h')) Q):Wp ((a0D tab h a0v a0v x y).bind f) Q := 
 a2I (T:=tab) (i:=b3d) (j:=b3e) (id rfl) (id rfl) (id rfl) (by decide) hn0 hx hy (a2z hl (by omega)) k
theorem b7C {h:Hp} {n0:Nat} (hn0:n0≤h.length) {rows:List (List D)} {x y:D} (hx:Own h n0 a0g 12 rows x) {ys:List (List D)} (hy:a1b h 12 y=some ys) (hl:(rows.length+ys.length)*152≤140737488355328) {β:Type} {f:D × Hp→Option β} {Q:β→Prop}
  (k:∀ x' h',Own h' n0 a0g 12 (rows++ys) x'→h.length≤h'.length→(∀ q,q<n0→h'[q]?=h[q]?)→(∀ q,q<h.length→¬ x.inOb q→h'[q]?=h[q]?)→(∀ q,x'.inOb q→x.inOb q∨h.length≤q)→Wp (f (x',h')) Q):Wp ((a0D tab h a0u a0u x y).bind f) Q := 
 a2I (T:=tab) (i:=b0a) (j:=b0b) (id rfl) (id rfl) (id rfl) (by decide) hn0 hx hy (a2z hl (by omega)) k
end Go.Proofs.YtkpnnfhodlanjaaGreatDoor

/- Operations at the types of this seat. -/
import Derived.Test.YtjmndhbabkjebaaGreatDoorC9
import Derived.Test.YtjmndhbabkjebaaGreatDoorPiZ
set_option linter.unusedSimpArgs false
set_option linter.unusedVariables false
set_option linter.unnecessarySimpa false
set_option maxRecDepth 20000
set_option maxHeartbeats 2000000
namespace Go.Proofs.YtjmndhbabkjebaaGreatDoor
open Go.Eng Go.Pi
@[simp] theorem a1P {α:Type} {f:α→List D} {l:List α} {d:D} (h:SlOf 1 f l d):a0y tab a0J d=some (.int .i64 l.length) := 
 by
  rcases h with ⟨rfl,rfl⟩ | ⟨b,rfl⟩
  ·rfl
  ·show some (D.int .i64 ((l.map f).length:Nat))=_;simp
@[simp] theorem d6q (z:Nat) (f:Bool) (rows:List (List D)):a0y tab a0J (.sl z f rows)=some (.int .i64 rows.length):=id rfl
@[simp] theorem b4E (z o r n:Nat):a0y tab a0J (.msl z o r n)=some (.int .i64 n):=id rfl
theorem a8F {α:Type} {f:α→List D} {l:List α} {d:D} (hd:SlOf 1 f l d) {k:IntKind} {n:Int} (h0:0≤n) (h1:n≤l.length) :
  ∃ d',a0A tab a0J false true false [d,.int k n]=some d'∧SlOf 1 f (l.take n.toNat) d':=c3Y (T:=tab) (i:=ti22) (j:=ti5) (id rfl) (id rfl) (id rfl) (id rfl) hd h0 h1
@[simp] theorem c6p (d0:D) (h0:d0.one=true):a0K tab b1U [0] [d0]=some (.agg [d0,.int .i64 0]):=by
 have c0:=a0H h0
 refine b0E (T:=tab) (i:=ti80) (fs:=[(22,0,1),(3,1,1)]) (id rfl) (id rfl) ?_
 rw [show ti80.zero=[.nils,.int .i64 0] from id rfl]
 rw [a1F (off:=0) (sz:=1) (id rfl) (by rw [c0.1];rfl) (by simp [spl,a1o,a1p,a1e,a1n]) c0.2,c0.1]
 exact id rfl
@[simp] theorem a3C (h:Hp) (o k f:Nat):a0b tab h a0g (.ptr o k f)=(h.row o k).bind fun row=>a8G 3 (row.drop f):=by show (match h.row o k with | some row=>_ | none=>none)=_;cases h.row o k <;> rfl
@[simp] theorem b5p (n0:Int) (d1:D) (h1:d1.one=true):a0K tab a0g [0,1] [.int .i64 n0,d1]=some (.agg [.int .i64 n0,d1,.nils]):=by
 have c1:=a0H h1
 refine b0E (T:=tab) (i:=ti1197) (fs:=[(3,0,1),(27,1,1),(28,2,1)]) (id rfl) (id rfl) ?_
 rw [show ti1197.zero=[.int .i64 0,.nils,.nils] from id rfl]
 rw [a1F (off:=0) (sz:=1) (id rfl) (id rfl) (by simp [spl,a1o,a1p,a1e,a1n]) (id rfl)]
 rw [a1F (off:=1) (sz:=1) (id rfl) (by rw [c1.1];rfl) (by simp [spl,a1o,a1p,a1e,a1n]) c1.2,c1.1]
 exact id rfl
theorem a4v {h:Hp} {o T sz kk off:Nat} {rows:List (List D)} {row:List D} {v:D} (ho:h[o]?=some (.row T sz rows)) (hr:rows[kk]?=some row) (hv:(a0F v).length=3) (hl:off+3≤row.length) (hk:v.okv=true) {β:Type} {f:Hp→Option β} {Q:β→Prop}
  (k:∀ h',h'[o]?=some (.row T sz (rows.set kk (spl row off (a0F v))))→Same o h h'→Wp (f h') Q):Wp ((a0h tab h a0g (.ptr o kk off) v).bind f) Q := 
 by rw [show a0h tab h a0g (.ptr o kk off) v=pSt 3 h (.ptr o kk off) v from rfl];exact a3D ho hr hv hl hk k
@[simp] theorem a7Q (o k f:Nat):a0a tab a0g 2 (.ptr o k f)=some (.ptr o k (f+2)):=id rfl
theorem b9q {h:Hp} {o T sz kk off:Nat} {rows:List (List D)} {row:List D} {v:D} (ho:h[o]?=some (.row T sz rows)) (hr:rows[kk]?=some row) (hv:(a0F v).length=1) (hl:off+1≤row.length) (hk:v.okv=true) {β:Type} {f:Hp→Option β} {Q:β→Prop}
  (k:∀ h',h'[o]?=some (.row T sz (rows.set kk (spl row off (a0F v))))→Same o h h'→Wp (f h') Q):Wp ((a0h tab h a1v (.ptr o kk off) v).bind f) Q := 
 by rw [show a0h tab h a1v (.ptr o kk off) v=pSt 1 h (.ptr o kk off) v from rfl];exact a3D ho hr hv hl hk k
@[simp] theorem d0X (o k f:Nat):a0a tab b1U 1 (.ptr o k f)=some (.ptr o k (f+1)):=id rfl
@[simp] theorem ld3 (c:D) (cs:List D) (h:Hp):a0b tab h ty3 (.fptr (c::cs))=some c:=id rfl
@[simp] theorem a7h (h:Hp) (o k f:Nat):a0b tab h ty3 (.ptr o k f)=(h.row o k).bind fun row=>(row.drop f).head?:=by show (match h.row o k with | some row=>_ | none=>none)=_;cases h.row o k <;> rfl
theorem b5k {h:Hp} {o T sz kk off:Nat} {rows:List (List D)} {row:List D} {v:D} (ho:h[o]?=some (.row T sz rows)) (hr:rows[kk]?=some row) (hv:(a0F v).length=1) (hl:off+1≤row.length) (hk:v.okv=true) {β:Type} {f:Hp→Option β} {Q:β→Prop}
  (k:∀ h',h'[o]?=some (.row T sz (rows.set kk (spl row off (a0F v))))→Same o h h'→Wp (f h') Q):Wp ((a0h tab h ty3 (.ptr o kk off) v).bind f) Q := 
 by rw [show a0h tab h ty3 (.ptr o kk off) v=pSt 1 h (.ptr o kk off) v from rfl];exact a3D ho hr hv hl hk k
@[simp] theorem d0W (o k f:Nat):a0a tab b1U 0 (.ptr o k f)=some (.ptr o k (f+0)):=id rfl
@[simp] theorem b7O (h:Hp) (o k f:Nat):a0b tab h a0J (.ptr o k f)=(h.row o k).bind fun row=>(row.drop f).head?:=by show (match h.row o k with | some row=>_ | none=>none)=_;cases h.row o k <;> rfl
@[simp] theorem d6n (f:Bool) (rows:List (List D)) (i:Int):a0d tab a0J (.sl 1 f rows) (.int .i64 i)=if 0≤i then (rows[i.toNat]?).map .fptr else none:=by show (if 1=1∧0≤i then (match rows[i.toNat]? with | some row=>some (D.fptr row) | none=>none) else none)=_;by_cases h:0≤i <;> simp [h] <;> cases rows[i.toNat]? <;> rfl
@[simp] theorem c0w (o r n:Nat) (i:Int):a0d tab a0J (.msl 1 o r n) (.int .i64 i)=if 0≤i∧i<n then some (.ptr o (r+i.toNat) 0) else none:=by show (if 1=1∧0≤i∧i<n then some (D.ptr o (r+i.toNat) 0) else none)=_;simp
@[simp] theorem c0x {α:Type} {f:α→List D} {l:List α} {d:D} (h:SlOf 1 f l d) (i:Int):a0d tab a0J d (.int .i64 i)=if 0≤i then (l[i.toNat]?).map fun p => .fptr (f p) else none := 
 by
  rcases h with ⟨rfl,rfl⟩ | ⟨b,rfl⟩
  ·show none=_;simp
  ·rw [d6n];simp [Function.comp_def]
@[simp] theorem ld5 (c:D) (cs:List D) (h:Hp):a0b tab h ty5 (.fptr (c::cs))=some c:=id rfl
@[simp] theorem d3S (h:Hp) (o k f:Nat):a0b tab h ty5 (.ptr o k f)=(h.row o k).bind fun row=>(row.drop f).head?:=by show (match h.row o k with | some row=>_ | none=>none)=_;cases h.row o k <;> rfl
@[simp] theorem c6A (k:IntKind) (n:Int):a1B tab ty5 ty3 (.int k n)=some (.int .i64 (IntKind.wrap .i64 n)):=id rfl
@[simp] theorem a4C {α:Type} {f:α→List D} {l:List α} {d:D} (h:SlOf 1 f l d):a0y tab a3a d=some (.int .i64 l.length) := 
 by
  rcases h with ⟨rfl,rfl⟩ | ⟨b,rfl⟩
  ·rfl
  ·show some (D.int .i64 ((l.map f).length:Nat))=_;simp
@[simp] theorem d3Q (f:Bool) (rows:List (List D)) (i:Int):a0d tab a3a (.sl 1 f rows) (.int .i64 i)=if 0≤i then (rows[i.toNat]?).map .fptr else none:=by show (if 1=1∧0≤i then (match rows[i.toNat]? with | some row=>some (D.fptr row) | none=>none) else none)=_;by_cases h:0≤i <;> simp [h] <;> cases rows[i.toNat]? <;> rfl
@[simp] theorem a8a {α:Type} {f:α→List D} {l:List α} {d:D} (h:SlOf 1 f l d) (i:Int):a0d tab a3a d (.int .i64 i)=if 0≤i then (l[i.toNat]?).map fun p => .fptr (f p) else none := 
 by
  rcases h with ⟨rfl,rfl⟩ | ⟨b,rfl⟩
  ·show none=_;simp
  ·rw [d3Q];simp [Function.comp_def]
@[simp] theorem b0h (h:Hp) (o k f:Nat):a0b tab h a0P (.ptr o k f)=(h.row o k).bind fun row=>a8G 11 (row.drop f):=by show (match h.row o k with | some row=>_ | none=>none)=_;cases h.row o k <;> rfl
@[simp] theorem a4k (o k f:Nat):a0a tab a0P 1 (.ptr o k f)=some (.ptr o k (f+1)):=id rfl
@[simp] theorem d1X (h:Hp) (o k f:Nat):a0b tab h a0D (.ptr o k f)=(h.row o k).bind fun row=>a8G 10 (row.drop f):=by show (match h.row o k with | some row=>_ | none=>none)=_;cases h.row o k <;> rfl
theorem b9s {h:Hp} {o T sz kk off:Nat} {rows:List (List D)} {row:List D} {v:D} (ho:h[o]?=some (.row T sz rows)) (hr:rows[kk]?=some row) (hv:(a0F v).length=10) (hl:off+10≤row.length) (hk:v.okv=true) {β:Type} {f:Hp→Option β} {Q:β→Prop}
  (k:∀ h',h'[o]?=some (.row T sz (rows.set kk (spl row off (a0F v))))→Same o h h'→Wp (f h') Q):Wp ((a0h tab h a0D (.ptr o kk off) v).bind f) Q := 
 by rw [show a0h tab h a0D (.ptr o kk off) v=pSt 10 h (.ptr o kk off) v from rfl];exact a3D ho hr hv hl hk k
@[simp] theorem a6j (c0 c1 c2 c3 c4:D) (cs:List D):a0a tab a0D 4 (.fptr (c0::c1::c2::c3::c4::cs))=some (.fptr (c4::cs)):=id rfl
@[simp] theorem a3Q (o k f:Nat):a0a tab a0D 4 (.ptr o k f)=some (.ptr o k (f+4)):=id rfl
@[simp] theorem a9a (c:D) (cs:List D) (h:Hp):a0b tab h a1j (.fptr (c::cs))=some c:=id rfl
@[simp] theorem b7P (h:Hp) (o k f:Nat):a0b tab h a1j (.ptr o k f)=(h.row o k).bind fun row=>(row.drop f).head?:=by show (match h.row o k with | some row=>_ | none=>none)=_;cases h.row o k <;> rfl
theorem b9m {h:Hp} {n0:Nat} (hn0:n0≤h.length) {rows:List (List D)} {x y:D} (hx:Own h n0 a1r 3 rows x) {ys:List (List D)} (hy:a1R h 3 y=some ys) (hl:(rows.length+ys.length)*32≤140737488355328) {β:Type} {f:D × Hp→Option β} {Q:β→Prop}
  (k:∀ x' h',Own h' n0 a1r 3 (rows++ys) x'→h.length≤h'.length→(∀ q,q<n0→h'[q]?=h[q]?)→(∀ q,q<h.length→¬ x.inOb q→h'[q]?=h[q]?)→(∀ q,x'.inOb q→x.inOb q∨h.length≤q)→Wp (f (x',h')) Q):Wp ((a0B tab h a1j a1j x y).bind f) Q := 
 a8H (T:=tab) (i:=d3l) (j:=d3o) (id rfl) (id rfl) (id rfl) (by decide) hn0 hx hy (a6u hl (by omega)) k
theorem b9r {h:Hp} {o T sz kk off:Nat} {rows:List (List D)} {row:List D} {v:D} (ho:h[o]?=some (.row T sz rows)) (hr:rows[kk]?=some row) (hv:(a0F v).length=1) (hl:off+1≤row.length) (hk:v.okv=true) {β:Type} {f:Hp→Option β} {Q:β→Prop}
  (k:∀ h',h'[o]?=some (.row T sz (rows.set kk (spl row off (a0F v))))→Same o h h'→Wp (f h') Q):Wp ((a0h tab h a1j (.ptr o kk off) v).bind f) Q := 
 by rw [show a0h tab h a1j (.ptr o kk off) v=pSt 1 h (.ptr o kk off) v from rfl];exact a3D ho hr hv hl hk k
@[simp] theorem a6J (o k f:Nat):a0a tab a0D 9 (.ptr o k f)=some (.ptr o k (f+9)):=id rfl
@[simp] theorem b6i (c:D) (cs:List D) (h:Hp):a0b tab h a1d (.fptr (c::cs))=some c:=id rfl
@[simp] theorem c7k (h:Hp) (o k f:Nat):a0b tab h a1d (.ptr o k f)=(h.row o k).bind fun row=>(row.drop f).head?:=by show (match h.row o k with | some row=>_ | none=>none)=_;cases h.row o k <;> rfl
theorem c1d {h:Hp} {n0:Nat} (hn0:n0≤h.length) {rows:List (List D)} {x y:D} (hx:Own h n0 a0x 2 rows x) {ys:List (List D)} (hy:a1R h 2 y=some ys) (hl:(rows.length+ys.length)*32≤140737488355328) {β:Type} {f:D × Hp→Option β} {Q:β→Prop}
  (k:∀ x' h',Own h' n0 a0x 2 (rows++ys) x'→h.length≤h'.length→(∀ q,q<n0→h'[q]?=h[q]?)→(∀ q,q<h.length→¬ x.inOb q→h'[q]?=h[q]?)→(∀ q,x'.inOb q→x.inOb q∨h.length≤q)→Wp (f (x',h')) Q):Wp ((a0B tab h a1d a1d x y).bind f) Q := 
 a8H (T:=tab) (i:=c8Q) (j:=ti109) (id rfl) (id rfl) (id rfl) (by decide) hn0 hx hy (a6u hl (by omega)) k
theorem c8r {h:Hp} {o T sz kk off:Nat} {rows:List (List D)} {row:List D} {v:D} (ho:h[o]?=some (.row T sz rows)) (hr:rows[kk]?=some row) (hv:(a0F v).length=1) (hl:off+1≤row.length) (hk:v.okv=true) {β:Type} {f:Hp→Option β} {Q:β→Prop}
  (k:∀ h',h'[o]?=some (.row T sz (rows.set kk (spl row off (a0F v))))→Same o h h'→Wp (f h') Q):Wp ((a0h tab h a1d (.ptr o kk off) v).bind f) Q := 
 by rw [show a0h tab h a1d (.ptr o kk off) v=pSt 1 h (.ptr o kk off) v from rfl];exact a3D ho hr hv hl hk k
@[simp] theorem a5A (c0:D) (cs:List D):a0a tab a0D 0 (.fptr (c0::cs))=some (.fptr (c0::cs)):=id rfl
@[simp] theorem b2m (o k f:Nat):a0a tab a0D 0 (.ptr o k f)=some (.ptr o k (f+0)):=id rfl
@[simp] theorem a5B (c0 c1:D) (cs:List D):a0a tab a0D 1 (.fptr (c0::c1::cs))=some (.fptr (c1::cs)):=id rfl
@[simp] theorem a9Y (o k f:Nat):a0a tab a0D 1 (.ptr o k f)=some (.ptr o k (f+1)):=id rfl
@[simp] theorem a4x (c0 c1 c2:D) (cs:List D):a0a tab a0D 2 (.fptr (c0::c1::c2::cs))=some (.fptr (c2::cs)):=id rfl
@[simp] theorem a4O (o k f:Nat):a0a tab a0D 2 (.ptr o k f)=some (.ptr o k (f+2)):=id rfl
@[simp] theorem a2t (c0 c1 c2 c3:D) (cs:List D):a0a tab a0D 3 (.fptr (c0::c1::c2::c3::cs))=some (.fptr (c3::cs)):=id rfl
@[simp] theorem a4P (o k f:Nat):a0a tab a0D 3 (.ptr o k f)=some (.ptr o k (f+3)):=id rfl
@[simp] theorem b2n (o k f:Nat):a0a tab a0D 5 (.ptr o k f)=some (.ptr o k (f+5)):=id rfl
@[simp] theorem b2o (o k f:Nat):a0a tab a0D 6 (.ptr o k f)=some (.ptr o k (f+6)):=id rfl
@[simp] theorem a2O {α:Type} {f:α→List D} {l:List α} {d:D} (h:SlOf 3 f l d):a0y tab a1j d=some (.int .i64 l.length) := 
 by
  rcases h with ⟨rfl,rfl⟩ | ⟨b,rfl⟩
  ·rfl
  ·show some (D.int .i64 ((l.map f).length:Nat))=_;simp
theorem c1E {h:Hp} {n0 e z:Nat} {rows:List (List D)} {d:D} (hd:Own h n0 e z rows d):a0y tab a1j d=some (.int .i64 rows.length):=by
 rcases hd with ⟨rfl,rfl⟩ | ⟨o,_,rfl,_⟩ <;> rfl
@[simp] theorem c7o:a0y tab a1j .nils=some (.int .i64 0):=id rfl
@[simp] theorem d6o (f:Bool) (rows:List (List D)) (i:Int):a0d tab a1j (.sl 3 f rows) (.int .i64 i)=if 0≤i then (rows[i.toNat]?).map .fptr else none:=by show (if 3=3∧0≤i then (match rows[i.toNat]? with | some row=>some (D.fptr row) | none=>none) else none)=_;by_cases h:0≤i <;> simp [h] <;> cases rows[i.toNat]? <;> rfl
@[simp] theorem c7a (o r n:Nat) (i:Int):a0d tab a1j (.msl 3 o r n) (.int .i64 i)=if 0≤i∧i<n then some (.ptr o (r+i.toNat) 0) else none:=by show (if 3=3∧0≤i∧i<n then some (D.ptr o (r+i.toNat) 0) else none)=_;simp
@[simp] theorem a7Z {α:Type} {f:α→List D} {l:List α} {d:D} (h:SlOf 3 f l d) (i:Int):a0d tab a1j d (.int .i64 i)=if 0≤i then (l[i.toNat]?).map fun p => .fptr (f p) else none := 
 by
  rcases h with ⟨rfl,rfl⟩ | ⟨b,rfl⟩
  ·show none=_;simp
  ·rw [d6o];simp [Function.comp_def]
@[simp] theorem c1s (c0:D) (cs:List D):a0a tab a1r 0 (.fptr (c0::cs))=some (.fptr (c0::cs)):=id rfl
@[simp] theorem a3l (o k f:Nat):a0a tab a1r 0 (.ptr o k f)=some (.ptr o k (f+0)):=id rfl
@[simp] theorem c1t (c0 c1:D) (cs:List D):a0a tab a1r 1 (.fptr (c0::c1::cs))=some (.fptr (c1::cs)):=id rfl
@[simp] theorem a3m (o k f:Nat):a0a tab a1r 1 (.ptr o k f)=some (.ptr o k (f+1)):=id rfl
@[simp] theorem b6p (s0:List UInt8) (s1:List UInt8):a0K tab a0x [0,1] [.str s0,.str s1]=some (.agg [.str s0,.str s1]):=id rfl
@[simp] theorem c6r (x0_0 x0_1:D):a0W tab a1d 1 [0] [.agg [x0_0,x0_1]]=some (.sl 2 true [[x0_0,x0_1]]):=id rfl
@[simp] theorem b2r (o k f:Nat):a0a tab a0P 0 (.ptr o k f)=some (.ptr o k (f+0)):=id rfl
theorem c4H {h:Hp} {o T sz kk off:Nat} {rows:List (List D)} {row:List D} {v:D} (ho:h[o]?=some (.row T sz rows)) (hr:rows[kk]?=some row) (hv:(a0F v).length=1) (hl:off+1≤row.length) (hk:v.okv=true) {β:Type} {f:Hp→Option β} {Q:β→Prop}
  (k:∀ h',h'[o]?=some (.row T sz (rows.set kk (spl row off (a0F v))))→Same o h h'→Wp (f h') Q):Wp ((a0h tab h ty9 (.ptr o kk off) v).bind f) Q := 
 by rw [show a0h tab h ty9 (.ptr o kk off) v=pSt 1 h (.ptr o kk off) v from rfl];exact a3D ho hr hv hl hk k
@[simp] theorem b2p (o k f:Nat):a0a tab a0D 7 (.ptr o k f)=some (.ptr o k (f+7)):=id rfl
@[simp] theorem c7l (h:Hp) (o k f:Nat):a0b tab h a1r (.ptr o k f)=(h.row o k).bind fun row=>a8G 3 (row.drop f):=by show (match h.row o k with | some row=>_ | none=>none)=_;cases h.row o k <;> rfl
theorem c8s {h:Hp} {o T sz kk off:Nat} {rows:List (List D)} {row:List D} {v:D} (ho:h[o]?=some (.row T sz rows)) (hr:rows[kk]?=some row) (hv:(a0F v).length=3) (hl:off+3≤row.length) (hk:v.okv=true) {β:Type} {f:Hp→Option β} {Q:β→Prop}
  (k:∀ h',h'[o]?=some (.row T sz (rows.set kk (spl row off (a0F v))))→Same o h h'→Wp (f h') Q):Wp ((a0h tab h a1r (.ptr o kk off) v).bind f) Q := 
 by rw [show a0h tab h a1r (.ptr o kk off) v=pSt 3 h (.ptr o kk off) v from rfl];exact a3D ho hr hv hl hk k
@[simp] theorem b3D (n0:Int) (n1:Int):a0K tab a1r [0,1] [.int .i64 n0,.int .i64 n1]=some (.agg [.int .i64 n0,.int .i64 n1,.str []]):=id rfl
@[simp] theorem c1n (x0_0 x0_1 x0_2:D):a0W tab a1j 1 [0] [.agg [x0_0,x0_1,x0_2]]=some (.sl 3 true [[x0_0,x0_1,x0_2]]):=id rfl
theorem b2X {h:Hp} {o T sz kk off:Nat} {rows:List (List D)} {row:List D} {v:D} (ho:h[o]?=some (.row T sz rows)) (hr:rows[kk]?=some row) (hv:(a0F v).length=11) (hl:off+11≤row.length) (hk:v.okv=true) {β:Type} {f:Hp→Option β} {Q:β→Prop}
  (k:∀ h',h'[o]?=some (.row T sz (rows.set kk (spl row off (a0F v))))→Same o h h'→Wp (f h') Q):Wp ((a0h tab h a0P (.ptr o kk off) v).bind f) Q := 
 by rw [show a0h tab h a0P (.ptr o kk off) v=pSt 11 h (.ptr o kk off) v from rfl];exact a3D ho hr hv hl hk k
@[simp] theorem b0D (n0:Int) (n1:Int) (n2:Int) (n3:Int):a0K tab a0D [0,1,2,3] [.int .i64 n0,.int .i64 n1,.int .i64 n2,.int .i64 n3]=some (.agg [.int .i64 n0,.int .i64 n1,.int .i64 n2,.int .i64 n3,.nils,.int .i64 0,.int .i64 0,.str [],.str [],.nils]):=id rfl
def lt98_35:List (List UInt8):=[[115,97,109,112,108,101],[116,111,111,45,108,111,110,103],[114,49]]
@[simp] theorem b5Y:a0W tab a3d 3 [0,1,2] [.str [115,97,109,112,108,101],.str [116,111,111,45,108,111,110,103],.str [114,49]]=some (.sl 1 true (lt98_35.map fun s=>[.str s])):=id rfl
@[simp] theorem b9I (s0:List UInt8) (x1_0 x1_1 x1_2 x1_3 x1_4 x1_5 x1_6 x1_7 x1_8 x1_9:D):a0K tab a0P [0,1] [.str s0,.agg [x1_0,x1_1,x1_2,x1_3,x1_4,x1_5,x1_6,x1_7,x1_8,x1_9]]=some (.agg [.str s0,x1_0,x1_1,x1_2,x1_3,x1_4,x1_5,x1_6,x1_7,x1_8,x1_9]):=id rfl
def lt22_50:List Int:=[76,84,49,10]
@[simp] theorem a8g (h:Hp):c1c tab h a0J 4 [0,1,2,3] [.int .u8 76,.int .u8 84,.int .u8 49,.int .u8 10]=some (.msl 1 h.length 0 4,a0I h ty5 1 (lt22_50.map fun n=>[.int .u8 n])):=id rfl
def lt22_51:List Int:=[0,0,0,0]
@[simp] theorem b5D:a0W tab a0J 4 [0,1,2,3] [.int .u8 0,.int .u8 0,.int .u8 0,.int .u8 0]=some (.sl 1 true (lt22_51.map fun n=>[.int .u8 n])):=id rfl
theorem b1V {h:Hp} {n0:Nat} (hn0:n0≤h.length) {rows:List (List D)} {x y:D} (hx:Own h n0 ty5 1 rows x) {ys:List (List D)} (hy:a1R h 1 y=some ys) (hl:(rows.length+ys.length)*1≤140737488355328) {β:Type} {f:D × Hp→Option β} {Q:β→Prop}
  (k:∀ x' h',Own h' n0 ty5 1 (rows++ys) x'→h.length≤h'.length→(∀ q,q<n0→h'[q]?=h[q]?)→(∀ q,q<h.length→¬ x.inOb q→h'[q]?=h[q]?)→(∀ q,x'.inOb q→x.inOb q∨h.length≤q)→Wp (f (x',h')) Q):Wp ((a0B tab h a0J a0J x y).bind f) Q := 
 a8H (T:=tab) (i:=ti22) (j:=ti5) (id rfl) (id rfl) (id rfl) (by decide) hn0 hx hy (a6u hl (by omega)) k
@[simp] theorem b6Z (o k f:Nat):a0a tab a0g 0 (.ptr o k f)=some (.ptr o k (f+0)):=id rfl
@[simp] theorem b0U (o k f:Nat):a0a tab a0g 1 (.ptr o k f)=some (.ptr o k (f+1)):=id rfl
@[simp] theorem a3M (c:D) (cs:List D) (h:Hp):a0b tab h a0C (.fptr (c::cs))=some c:=id rfl
@[simp] theorem b7N (h:Hp) (o k f:Nat):a0b tab h a0C (.ptr o k f)=(h.row o k).bind fun row=>(row.drop f).head?:=by show (match h.row o k with | some row=>_ | none=>none)=_;cases h.row o k <;> rfl
@[simp] theorem a3t {α:Type} {f:α→List D} {l:List α} {d:D} (h:SlOf 2 f l d):a0y tab a0C d=some (.int .i64 l.length) := 
 by
  rcases h with ⟨rfl,rfl⟩ | ⟨b,rfl⟩
  ·rfl
  ·show some (D.int .i64 ((l.map f).length:Nat))=_;simp
@[simp] theorem c0A (z o r n:Nat):a0y tab a0C (.msl z o r n)=some (.int .i64 n):=id rfl
@[simp] theorem c6Y (f:Bool) (rows:List (List D)) (i:Int):a0d tab a0C (.sl 2 f rows) (.int .i64 i)=if 0≤i then (rows[i.toNat]?).map .fptr else none:=by show (if 2=2∧0≤i then (match rows[i.toNat]? with | some row=>some (D.fptr row) | none=>none) else none)=_;by_cases h:0≤i <;> simp [h] <;> cases rows[i.toNat]? <;> rfl
@[simp] theorem c3k (o r n:Nat) (i:Int):a0d tab a0C (.msl 2 o r n) (.int .i64 i)=if 0≤i∧i<n then some (.ptr o (r+i.toNat) 0) else none:=by show (if 2=2∧0≤i∧i<n then some (D.ptr o (r+i.toNat) 0) else none)=_;simp
@[simp] theorem a6N {α:Type} {f:α→List D} {l:List α} {d:D} (h:SlOf 2 f l d) (i:Int):a0d tab a0C d (.int .i64 i)=if 0≤i then (l[i.toNat]?).map fun p => .fptr (f p) else none := 
 by
  rcases h with ⟨rfl,rfl⟩ | ⟨b,rfl⟩
  ·show none=_;simp
  ·rw [c6Y];simp [Function.comp_def]
@[simp] theorem c3r (h:Hp) (o k f:Nat):a0b tab h a0M (.ptr o k f)=(h.row o k).bind fun row=>a8G 2 (row.drop f):=by show (match h.row o k with | some row=>_ | none=>none)=_;cases h.row o k <;> rfl
@[simp] theorem b0S (o k f:Nat):a0a tab a0M 0 (.ptr o k f)=some (.ptr o k (f+0)):=id rfl
@[simp] theorem b0T (o k f:Nat):a0a tab a0M 1 (.ptr o k f)=some (.ptr o k (f+1)):=id rfl
@[simp] theorem b5C (c:D) (cs:List D) (h:Hp):a0b tab h a1v (.fptr (c::cs))=some c:=id rfl
@[simp] theorem c1B (h:Hp) (o k f:Nat):a0b tab h a1v (.ptr o k f)=(h.row o k).bind fun row=>(row.drop f).head?:=by show (match h.row o k with | some row=>_ | none=>none)=_;cases h.row o k <;> rfl
@[simp] theorem a6O {α:Type} {f:α→List D} {l:List α} {d:D} (h:SlOf 11 f l d):a0y tab a1v d=some (.int .i64 l.length) := 
 by
  rcases h with ⟨rfl,rfl⟩ | ⟨b,rfl⟩
  ·rfl
  ·show some (D.int .i64 ((l.map f).length:Nat))=_;simp
@[simp] theorem c3t (z o r n:Nat):a0y tab a1v (.msl z o r n)=some (.int .i64 n):=id rfl
@[simp] theorem d1J (f:Bool) (rows:List (List D)) (i:Int):a0d tab a1v (.sl 11 f rows) (.int .i64 i)=if 0≤i then (rows[i.toNat]?).map .fptr else none:=by show (if 11=11∧0≤i then (match rows[i.toNat]? with | some row=>some (D.fptr row) | none=>none) else none)=_;by_cases h:0≤i <;> simp [h] <;> cases rows[i.toNat]? <;> rfl
@[simp] theorem c6Z (o r n:Nat) (i:Int):a0d tab a1v (.msl 11 o r n) (.int .i64 i)=if 0≤i∧i<n then some (.ptr o (r+i.toNat) 0) else none:=by show (if 11=11∧0≤i∧i<n then some (D.ptr o (r+i.toNat) 0) else none)=_;simp
@[simp] theorem b4y {α:Type} {f:α→List D} {l:List α} {d:D} (h:SlOf 11 f l d) (i:Int):a0d tab a1v d (.int .i64 i)=if 0≤i then (l[i.toNat]?).map fun p => .fptr (f p) else none := 
 by
  rcases h with ⟨rfl,rfl⟩ | ⟨b,rfl⟩
  ·show none=_;simp
  ·rw [d1J];simp [Function.comp_def]
theorem b6e {α:Type} {f:α→List D} {l:List α} {d:D} (hd:SlOf 1 f l d) {k:IntKind} {n:Int} (h0:0≤n) (h1:n≤l.length) :
  ∃ d',a0A tab a0J true false false [d,.int k n]=some d'∧SlOf 1 f (l.drop n.toNat) d':=c3Z (T:=tab) (i:=ti22) (j:=ti5) (id rfl) (id rfl) (id rfl) (id rfl) hd h0 h1
@[simp] theorem a2a (k:IntKind) (n:Int):a1B tab ty3 a0U (.int k n)=some (.int .u64 (IntKind.wrap .u64 n)):=id rfl
@[simp] theorem a7K (k:IntKind) (n:Int):a1B tab ty3 a5S (.int k n)=some (.int .u64 (IntKind.wrap .u64 n)):=id rfl
@[simp] theorem b3L (k:IntKind) (n:Int):a1B tab a0U ty5 (.int k n)=some (.int .u8 (IntKind.wrap .u8 n)):=id rfl
@[simp] theorem b6v (n0:Int):a0W tab a0J 1 [0] [.int .u8 n0]=some (.sl 1 true [[.int .u8 n0]]):=id rfl
@[simp] theorem a6e (k:IntKind) (n:Int):a1B tab ty5 a0U (.int k n)=some (.int .u64 (IntKind.wrap .u64 n)):=id rfl
@[simp] theorem b2b  : a0K tab a0g [] []=some (.agg [.int .i64 0,.nils,.nils]):=id rfl
@[simp] theorem b9H (d0:D) (h0:d0.one=true):a0K tab a1O [0] [d0]=some (.agg [d0,.bool false]):=by
 have c0:=a0H h0
 refine b0E (T:=tab) (i:=ti1223) (fs:=[(22,0,1),(4,1,1)]) (id rfl) (id rfl) ?_
 rw [show ti1223.zero=[.nils,.bool false] from id rfl]
 rw [a1F (off:=0) (sz:=1) (id rfl) (by rw [c0.1];rfl) (by simp [spl,a1o,a1p,a1e,a1n]) c0.2,c0.1]
 exact id rfl
@[simp] theorem b9G (n0:Int):a0K tab a0g [0] [.int .i64 n0]=some (.agg [.int .i64 n0,.nils,.nils]):=id rfl
@[simp] theorem a3A (o k f:Nat):a0a tab a1O 1 (.ptr o k f)=some (.ptr o k (f+1)):=id rfl
@[simp] theorem ld4 (c:D) (cs:List D) (h:Hp):a0b tab h ty4 (.fptr (c::cs))=some c:=id rfl
@[simp] theorem d1Y (h:Hp) (o k f:Nat):a0b tab h ty4 (.ptr o k f)=(h.row o k).bind fun row=>(row.drop f).head?:=by show (match h.row o k with | some row=>_ | none=>none)=_;cases h.row o k <;> rfl
@[simp] theorem a8I (n0:Int) (n1:Int):a0K tab a0M [0,1] [.int .i64 n0,.int .i64 n1]=some (.agg [.int .i64 n0,.int .i64 n1]):=id rfl
@[simp] theorem b3E (x0_0 x0_1:D):a0W tab a0C 1 [0] [.agg [x0_0,x0_1]]=some (.sl 2 true [[x0_0,x0_1]]):=id rfl
theorem b2W {h:Hp} {n0:Nat} (hn0:n0≤h.length) {rows:List (List D)} {x y:D} (hx:Own h n0 a0M 2 rows x) {ys:List (List D)} (hy:a1R h 2 y=some ys) (hl:(rows.length+ys.length)*16≤140737488355328) {β:Type} {f:D × Hp→Option β} {Q:β→Prop}
  (k:∀ x' h',Own h' n0 a0M 2 (rows++ys) x'→h.length≤h'.length→(∀ q,q<n0→h'[q]?=h[q]?)→(∀ q,q<h.length→¬ x.inOb q→h'[q]?=h[q]?)→(∀ q,x'.inOb q→x.inOb q∨h.length≤q)→Wp (f (x',h')) Q):Wp ((a0B tab h a0C a0C x y).bind f) Q := 
 a8H (T:=tab) (i:=b9f) (j:=b9g) (id rfl) (id rfl) (id rfl) (by decide) hn0 hx hy (a6u hl (by omega)) k
theorem b9o {h:Hp} {o T sz kk off:Nat} {rows:List (List D)} {row:List D} {v:D} (ho:h[o]?=some (.row T sz rows)) (hr:rows[kk]?=some row) (hv:(a0F v).length=1) (hl:off+1≤row.length) (hk:v.okv=true) {β:Type} {f:Hp→Option β} {Q:β→Prop}
  (k:∀ h',h'[o]?=some (.row T sz (rows.set kk (spl row off (a0F v))))→Same o h h'→Wp (f h') Q):Wp ((a0h tab h a0C (.ptr o kk off) v).bind f) Q := 
 by rw [show a0h tab h a0C (.ptr o kk off) v=pSt 1 h (.ptr o kk off) v from rfl];exact a3D ho hr hv hl hk k
theorem b9l {h:Hp} {n0:Nat} (hn0:n0≤h.length) {rows:List (List D)} {x y:D} (hx:Own h n0 a0P 11 rows x) {ys:List (List D)} (hy:a1R h 11 y=some ys) (hl:(rows.length+ys.length)*144≤140737488355328) {β:Type} {f:D × Hp→Option β} {Q:β→Prop}
  (k:∀ x' h',Own h' n0 a0P 11 (rows++ys) x'→h.length≤h'.length→(∀ q,q<n0→h'[q]?=h[q]?)→(∀ q,q<h.length→¬ x.inOb q→h'[q]?=h[q]?)→(∀ q,x'.inOb q→x.inOb q∨h.length≤q)→Wp (f (x',h')) Q):Wp ((a0B tab h a1v a1v x y).bind f) Q := 
 a8H (T:=tab) (i:=c4h) (j:=d3m) (id rfl) (id rfl) (id rfl) (by decide) hn0 hx hy (a6u hl (by omega)) k
@[simp] theorem a3X (o k f:Nat):a0a tab a1O 0 (.ptr o k f)=some (.ptr o k (f+0)):=id rfl
@[simp] theorem a4K (d0:D) (n1:Int) (b2:Bool) (h0:d0.one=true):a0K tab a0m [0,1,2] [d0,.int .i64 n1,.bool b2]=some (.agg [d0,.int .i64 n1,.bool b2]):=by
 have c0:=a0H h0
 refine b0E (T:=tab) (i:=ti1108) (fs:=[(22,0,1),(3,1,1),(4,2,1)]) (id rfl) (id rfl) ?_
 rw [show ti1108.zero=[.nils,.int .i64 0,.bool false] from id rfl]
 rw [a1F (off:=0) (sz:=1) (id rfl) (by rw [c0.1];rfl) (by simp [spl,a1o,a1p,a1e,a1n]) c0.2,c0.1]
 rw [a1F (off:=1) (sz:=1) (id rfl) (id rfl) (by simp [spl,a1o,a1p,a1e,a1n]) (id rfl)]
 rw [a1F (off:=2) (sz:=1) (id rfl) (id rfl) (by simp [spl,a1o,a1p,a1e,a1n]) (id rfl)]
 exact id rfl
theorem b9p {h:Hp} {o T sz kk off:Nat} {rows:List (List D)} {row:List D} {v:D} (ho:h[o]?=some (.row T sz rows)) (hr:rows[kk]?=some row) (hv:(a0F v).length=3) (hl:off+3≤row.length) (hk:v.okv=true) {β:Type} {f:Hp→Option β} {Q:β→Prop}
  (k:∀ h',h'[o]?=some (.row T sz (rows.set kk (spl row off (a0F v))))→Same o h h'→Wp (f h') Q):Wp ((a0h tab h a0m (.ptr o kk off) v).bind f) Q := 
 by rw [show a0h tab h a0m (.ptr o kk off) v=pSt 3 h (.ptr o kk off) v from rfl];exact a3D ho hr hv hl hk k
@[simp] theorem a3r (k:IntKind) (n:Int):a1B tab a0U ty3 (.int k n)=some (.int .i64 (IntKind.wrap .i64 n)):=id rfl
@[simp] theorem c1o (n0:Int):a0W tab a3a 1 [0] [.int .i64 n0]=some (.sl 1 true [[.int .i64 n0]]):=id rfl
theorem c8q {h:Hp} {n0:Nat} (hn0:n0≤h.length) {rows:List (List D)} {x y:D} (hx:Own h n0 ty3 1 rows x) {ys:List (List D)} (hy:a1R h 1 y=some ys) (hl:(rows.length+ys.length)*8≤140737488355328) {β:Type} {f:D × Hp→Option β} {Q:β→Prop}
  (k:∀ x' h',Own h' n0 ty3 1 (rows++ys) x'→h.length≤h'.length→(∀ q,q<n0→h'[q]?=h[q]?)→(∀ q,q<h.length→¬ x.inOb q→h'[q]?=h[q]?)→(∀ q,x'.inOb q→x.inOb q∨h.length≤q)→Wp (f (x',h')) Q):Wp ((a0B tab h a3a a3a x y).bind f) Q := 
 a8H (T:=tab) (i:=d3p) (j:=ti3) (id rfl) (id rfl) (id rfl) (by decide) hn0 hx hy (a6u hl (by omega)) k
theorem c4s {h:Hp} {o T sz kk off:Nat} {rows:List (List D)} {row:List D} {v:D} (ho:h[o]?=some (.row T sz rows)) (hr:rows[kk]?=some row) (hv:(a0F v).length=3) (hl:off+3≤row.length) (hk:v.okv=true) {β:Type} {f:Hp→Option β} {Q:β→Prop}
  (k:∀ h',h'[o]?=some (.row T sz (rows.set kk (spl row off (a0F v))))→Same o h h'→Wp (f h') Q):Wp ((a0h tab h a2P (.ptr o kk off) v).bind f) Q := 
 by rw [show a0h tab h a2P (.ptr o kk off) v=pSt 3 h (.ptr o kk off) v from rfl];exact a3D ho hr hv hl hk k
@[simp] theorem c7q {α:Type} {f:α→List D} {l:List α} {d:D} (h:SlOf 1 f l d):a0y tab a3d d=some (.int .i64 l.length) := 
 by
  rcases h with ⟨rfl,rfl⟩ | ⟨b,rfl⟩
  ·rfl
  ·show some (D.int .i64 ((l.map f).length:Nat))=_;simp
@[simp] theorem d1Z (z:Nat) (f:Bool) (rows:List (List D)):a0y tab a3d (.sl z f rows)=some (.int .i64 rows.length):=id rfl
@[simp] theorem d3R (f:Bool) (rows:List (List D)) (i:Int):a0d tab a3d (.sl 1 f rows) (.int .i64 i)=if 0≤i then (rows[i.toNat]?).map .fptr else none:=by show (if 1=1∧0≤i then (match rows[i.toNat]? with | some row=>some (D.fptr row) | none=>none) else none)=_;by_cases h:0≤i <;> simp [h] <;> cases rows[i.toNat]? <;> rfl
@[simp] theorem d1K {α:Type} {f:α→List D} {l:List α} {d:D} (h:SlOf 1 f l d) (i:Int):a0d tab a3d d (.int .i64 i)=if 0≤i then (l[i.toNat]?).map fun p => .fptr (f p) else none := 
 by
  rcases h with ⟨rfl,rfl⟩ | ⟨b,rfl⟩
  ·show none=_;simp
  ·rw [d3R];simp [Function.comp_def]
@[simp] theorem ld9 (c:D) (cs:List D) (h:Hp):a0b tab h ty9 (.fptr (c::cs))=some c:=id rfl
@[simp] theorem b2D (h:Hp) (o k f:Nat):a0b tab h ty9 (.ptr o k f)=(h.row o k).bind fun row=>(row.drop f).head?:=by show (match h.row o k with | some row=>_ | none=>none)=_;cases h.row o k <;> rfl
def lt98_33:List (List UInt8):=[[97],[98],[32],[49],[117,115,101,114],[61],[34],[55],[46],[44],[120,32,121],[49,48,46,50],[45],[195,169],[91],[105,100],[9],[58]]
@[simp] theorem b5X:a0W tab a3d 18 [0,1,2,3,4,5,6,7,8,9,10,11,12,13,14,15,16,17] [.str [97],.str [98],.str [32],.str [49],.str [117,115,101,114],.str [61],.str [34],.str [55],.str [46],.str [44],.str [120,32,121],.str [49,48,46,50],.str [45],.str [195,169],.str [91],.str [105,100],.str [9],.str [58]]=some (.sl 1 true (lt98_33.map fun s=>[.str s])):=id rfl
def lt82_14:List Int:=[1,1,2,5040]
@[simp] theorem b5E:a0W tab a3a 4 [0,1,2,3] [.int .i64 1,.int .i64 1,.int .i64 2,.int .i64 5040]=some (.sl 1 true (lt82_14.map fun n=>[.int .i64 n])):=id rfl
def lt98_15:List (List UInt8):=[[],[116,49],[116,50],[105,100]]
@[simp] theorem b5F:a0W tab a3d 4 [0,1,2,3] [.str [],.str [116,49],.str [116,50],.str [105,100]]=some (.sl 1 true (lt98_15.map fun s=>[.str s])):=id rfl
def lt98_16:List (List UInt8):=[[109,97,105,110],[97,117,100,105,116]]
@[simp] theorem b5G:a0W tab a3d 2 [0,1] [.str [109,97,105,110],.str [97,117,100,105,116]]=some (.sl 1 true (lt98_16.map fun s=>[.str s])):=id rfl
@[simp] theorem a5w (n0:Int) (n1:Int) (n2:Int) (n3:Int) (n4:Int) (s5:List UInt8) (s6:List UInt8) (d7:D) (h7:d7.one=true):a0K tab a0D [0,1,2,5,6,7,8,9] [.int .i64 n0,.int .i64 n1,.int .i64 n2,.int .i64 n3,.int .i64 n4,.str s5,.str s6,d7]=some (.agg [.int .i64 n0,.int .i64 n1,.int .i64 n2,.int .i64 0,.nils,.int .i64 n3,.int .i64 n4,.str s5,.str s6,d7]):=by
 have c7:=a0H h7
 refine b0E (T:=tab) (i:=ti31) (fs:=[(3,0,1),(3,1,1),(3,2,1),(3,3,1),(36,4,1),(3,5,1),(3,6,1),(9,7,1),(9,8,1),(37,9,1)]) (id rfl) (id rfl) ?_
 rw [show ti31.zero=[.int .i64 0,.int .i64 0,.int .i64 0,.int .i64 0,.nils,.int .i64 0,.int .i64 0,.str [],.str [],.nils] from id rfl]
 rw [a1F (off:=0) (sz:=1) (id rfl) (id rfl) (by simp [spl,a1o,a1p,a1e,a1n]) (id rfl)]
 rw [a1F (off:=1) (sz:=1) (id rfl) (id rfl) (by simp [spl,a1o,a1p,a1e,a1n]) (id rfl)]
 rw [a1F (off:=2) (sz:=1) (id rfl) (id rfl) (by simp [spl,a1o,a1p,a1e,a1n]) (id rfl)]
 rw [a1F (off:=5) (sz:=1) (id rfl) (id rfl) (by simp [spl,a1o,a1p,a1e,a1n]) (id rfl)]
 rw [a1F (off:=6) (sz:=1) (id rfl) (id rfl) (by simp [spl,a1o,a1p,a1e,a1n]) (id rfl)]
 rw [a1F (off:=7) (sz:=1) (id rfl) (id rfl) (by simp [spl,a1o,a1p,a1e,a1n]) (id rfl)]
 rw [a1F (off:=8) (sz:=1) (id rfl) (id rfl) (by simp [spl,a1o,a1p,a1e,a1n]) (id rfl)]
 rw [a1F (off:=9) (sz:=1) (id rfl) (by rw [c7.1];rfl) (by simp [spl,a1o,a1p,a1e,a1n]) c7.2,c7.1]
 exact id rfl
@[simp] theorem c9f (k:IntKind) (n:Int):a1B tab ty3 ty5 (.int k n)=some (.int .u8 (IntKind.wrap .u8 n)):=id rfl
@[simp] theorem b9E (d0:D) (h0:d0.one=true):a0K tab a2y [0] [d0]=some (.agg [d0]):=by
 have c0:=a0H h0
 refine b0E (T:=tab) (i:=ti1101) (fs:=[(22,0,1)]) (id rfl) (id rfl) ?_
 rw [show ti1101.zero=[.nils] from id rfl]
 rw [a1F (off:=0) (sz:=1) (id rfl) (by rw [c0.1];rfl) (by simp [spl,a1o,a1p,a1e,a1n]) c0.2,c0.1]
 exact id rfl
@[simp] theorem a6l (o k f:Nat):a0a tab a2y 0 (.ptr o k f)=some (.ptr o k (f+0)):=id rfl
theorem c8R {h:Hp} {o T sz kk off:Nat} {rows:List (List D)} {row:List D} {v:D} (ho:h[o]?=some (.row T sz rows)) (hr:rows[kk]?=some row) (hv:(a0F v).length=1) (hl:off+1≤row.length) (hk:v.okv=true) {β:Type} {f:Hp→Option β} {Q:β→Prop}
  (k:∀ h',h'[o]?=some (.row T sz (rows.set kk (spl row off (a0F v))))→Same o h h'→Wp (f h') Q):Wp ((a0h tab h ty4 (.ptr o kk off) v).bind f) Q := 
 by rw [show a0h tab h ty4 (.ptr o kk off) v=pSt 1 h (.ptr o kk off) v from rfl];exact a3D ho hr hv hl hk k
theorem c1e {h:Hp} {o T sz kk off:Nat} {rows:List (List D)} {row:List D} {v:D} (ho:h[o]?=some (.row T sz rows)) (hr:rows[kk]?=some row) (hv:(a0F v).length=1) (hl:off+1≤row.length) (hk:v.okv=true) {β:Type} {f:Hp→Option β} {Q:β→Prop}
  (k:∀ h',h'[o]?=some (.row T sz (rows.set kk (spl row off (a0F v))))→Same o h h'→Wp (f h') Q):Wp ((a0h tab h a0J (.ptr o kk off) v).bind f) Q := 
 by rw [show a0h tab h a0J (.ptr o kk off) v=pSt 1 h (.ptr o kk off) v from rfl];exact a3D ho hr hv hl hk k
@[simp] theorem c3s (h:Hp) (o k f:Nat):a0b tab h a0m (.ptr o k f)=(h.row o k).bind fun row=>a8G 3 (row.drop f):=by show (match h.row o k with | some row=>_ | none=>none)=_;cases h.row o k <;> rfl
@[simp] theorem a2S (o k f:Nat):a0a tab a0m 2 (.ptr o k f)=some (.ptr o k (f+2)):=id rfl
@[simp] theorem a6n (o k f:Nat):a0a tab a0m 0 (.ptr o k f)=some (.ptr o k (f+0)):=id rfl
@[simp] theorem a3z (o k f:Nat):a0a tab a0m 1 (.ptr o k f)=some (.ptr o k (f+1)):=id rfl
@[simp] theorem a8J (d0:D) (b1:Bool) (h0:d0.one=true):a0K tab a0m [0,2] [d0,.bool b1]=some (.agg [d0,.int .i64 0,.bool b1]):=by
 have c0:=a0H h0
 refine b0E (T:=tab) (i:=ti1108) (fs:=[(22,0,1),(3,1,1),(4,2,1)]) (id rfl) (id rfl) ?_
 rw [show ti1108.zero=[.nils,.int .i64 0,.bool false] from id rfl]
 rw [a1F (off:=0) (sz:=1) (id rfl) (by rw [c0.1];rfl) (by simp [spl,a1o,a1p,a1e,a1n]) c0.2,c0.1]
 rw [a1F (off:=2) (sz:=1) (id rfl) (id rfl) (by simp [spl,a1o,a1p,a1e,a1n]) (id rfl)]
 exact id rfl
@[simp] theorem b9J (a0 b0:Int) (a1 b1:Int):a0n tab .neq a0M (.agg [.int .i64 a0,.int .i64 a1]) (.agg [.int .i64 b0,.int .i64 b1])=some (.bool (!(a0==b0&&(a1==b1&&true)))):=id rfl
def lt98_17:List (List UInt8):=[[97],[105,100],[108,101,118,101,108],[117,115,101,114]]
@[simp] theorem b2H:lt98_17.length=4:=id rfl
@[simp] theorem b5H:a0W tab a3d 4 [0,1,2,3] [.str [97],.str [105,100],.str [108,101,118,101,108],.str [117,115,101,114]]=some (.sl 1 true (lt98_17.map fun s=>[.str s])):=id rfl
def lt98_18:List (List UInt8):=[[],[49],[105,110,102,111],[119,97,114,110],[97,110,110],[50,46,53,48],[116,114,117,101],[116,49]]
@[simp] theorem b5I:a0W tab a3d 8 [0,1,2,3,4,5,6,7] [.str [],.str [49],.str [105,110,102,111],.str [119,97,114,110],.str [97,110,110],.str [50,46,53,48],.str [116,114,117,101],.str [116,49]]=some (.sl 1 true (lt98_18.map fun s=>[.str s])):=id rfl
@[simp] theorem d3N (c0 c1 c2:D) (cs:List D):a0a tab a1r 2 (.fptr (c0::c1::c2::cs))=some (.fptr (c2::cs)):=id rfl
@[simp] theorem a3n (o k f:Nat):a0a tab a1r 2 (.ptr o k f)=some (.ptr o k (f+2)):=id rfl
@[simp] theorem a4X (s:List UInt8):a0y tab ty9 (.str s)=some (.int .i64 s.length):=id rfl
@[simp] theorem b2q (o k f:Nat):a0a tab a0D 8 (.ptr o k f)=some (.ptr o k (f+8)):=id rfl
@[simp] theorem a2v {α:Type} {f:α→List D} {l:List α} {d:D} (h:SlOf 2 f l d):a0y tab a1d d=some (.int .i64 l.length) := 
 by
  rcases h with ⟨rfl,rfl⟩ | ⟨b,rfl⟩
  ·rfl
  ·show some (D.int .i64 ((l.map f).length:Nat))=_;simp
theorem c1F {h:Hp} {n0 e z:Nat} {rows:List (List D)} {d:D} (hd:Own h n0 e z rows d):a0y tab a1d d=some (.int .i64 rows.length):=by
 rcases hd with ⟨rfl,rfl⟩ | ⟨o,_,rfl,_⟩ <;> rfl
@[simp] theorem c1D (z o r n:Nat):a0y tab a1d (.msl z o r n)=some (.int .i64 n):=id rfl
@[simp] theorem c7p:a0y tab a1d .nils=some (.int .i64 0):=id rfl
@[simp] theorem b3F (d0:D) (d1:D) (d2:D) (d3:D) (h0:d0.one=true) (h1:d1.one=true) (h2:d2.one=true) (h3:d3.one=true):a0W tab a6B 4 [0,1,2,3] [d0,d1,d2,d3]=some (.sl 1 true [[d0],[d1],[d2],[d3]]):=c0D (T:=tab) (t:=a6B) (n:=4) (i:=b9i) (j:=b9h) (id rfl) (id rfl) (id rfl) (id rfl) [d0,d1,d2,d3] rfl (by decide) (by simp [h0,h1,h2,h3])
@[simp] theorem b7Q (z:Nat) (f:Bool) (rows:List (List D)):a0y tab a6B (.sl z f rows)=some (.int .i64 rows.length):=id rfl
@[simp] theorem b1u (f:Bool) (rows:List (List D)) (i:Int):a0d tab a6B (.sl 1 f rows) (.int .i64 i)=if 0≤i then (rows[i.toNat]?).map .fptr else none:=by show (if 1=1∧0≤i then (match rows[i.toNat]? with | some row=>some (D.fptr row) | none=>none) else none)=_;by_cases h:0≤i <;> simp [h] <;> cases rows[i.toNat]? <;> rfl
@[simp] theorem b1y (c:D) (cs:List D) (h:Hp):a0b tab h c2g (.fptr (c::cs))=some c:=id rfl
@[simp] theorem d6p (f:Bool) (rows:List (List D)) (i:Int):a0d tab a1d (.sl 2 f rows) (.int .i64 i)=if 0≤i then (rows[i.toNat]?).map .fptr else none:=by show (if 2=2∧0≤i then (match rows[i.toNat]? with | some row=>some (D.fptr row) | none=>none) else none)=_;by_cases h:0≤i <;> simp [h] <;> cases rows[i.toNat]? <;> rfl
@[simp] theorem a8B (o r n:Nat) (i:Int):a0d tab a1d (.msl 2 o r n) (.int .i64 i)=if 0≤i∧i<n then some (.ptr o (r+i.toNat) 0) else none:=by show (if 2=2∧0≤i∧i<n then some (D.ptr o (r+i.toNat) 0) else none)=_;simp
@[simp] theorem a8C {α:Type} {f:α→List D} {l:List α} {d:D} (h:SlOf 2 f l d) (i:Int):a0d tab a1d d (.int .i64 i)=if 0≤i then (l[i.toNat]?).map fun p => .fptr (f p) else none := 
 by
  rcases h with ⟨rfl,rfl⟩ | ⟨b,rfl⟩
  ·show none=_;simp
  ·rw [d6p];simp [Function.comp_def]
@[simp] theorem a6k (o k f:Nat):a0a tab a0x 0 (.ptr o k f)=some (.ptr o k (f+0)):=id rfl
@[simp] theorem d0V (c0 c1:D) (cs:List D):a0a tab a0x 1 (.fptr (c0::c1::cs))=some (.fptr (c1::cs)):=id rfl
@[simp] theorem a9X (o k f:Nat):a0a tab a0x 1 (.ptr o k f)=some (.ptr o k (f+1)):=id rfl
@[simp] theorem b9F (d0:D) (h0:d0.one=true):a0K tab a1Z [0] [d0]=some (.agg [d0,.bool false]):=by
 have c0:=a0H h0
 refine b0E (T:=tab) (i:=ti1106) (fs:=[(22,0,1),(4,1,1)]) (id rfl) (id rfl) ?_
 rw [show ti1106.zero=[.nils,.bool false] from id rfl]
 rw [a1F (off:=0) (sz:=1) (id rfl) (by rw [c0.1];rfl) (by simp [spl,a1o,a1p,a1e,a1n]) c0.2,c0.1]
 exact id rfl
@[simp] theorem a6m (o k f:Nat):a0a tab a1Z 1 (.ptr o k f)=some (.ptr o k (f+1)):=id rfl
@[simp] theorem a2I (o k f:Nat):a0a tab a1Z 0 (.ptr o k f)=some (.ptr o k (f+0)):=id rfl
def lt98_19:List (List UInt8):=[[49],[50],[57]]
@[simp] theorem b5J:a0W tab a3d 3 [0,1,2] [.str [49],.str [50],.str [57]]=some (.sl 1 true (lt98_19.map fun s=>[.str s])):=id rfl
def lt98_20:List (List UInt8):=[[48],[53]]
@[simp] theorem b5K:a0W tab a3d 2 [0,1] [.str [48],.str [53]]=some (.sl 1 true (lt98_20.map fun s=>[.str s])):=id rfl
def lt98_21:List (List UInt8):=[[49],[50]]
@[simp] theorem b5L:a0W tab a3d 2 [0,1] [.str [49],.str [50]]=some (.sl 1 true (lt98_21.map fun s=>[.str s])):=id rfl
def lt98_22:List (List UInt8):=[[105,110,102,111],[119,97,114,110]]
@[simp] theorem b5M:a0W tab a3d 2 [0,1] [.str [105,110,102,111],.str [119,97,114,110]]=some (.sl 1 true (lt98_22.map fun s=>[.str s])):=id rfl
def lt98_23:List (List UInt8):=[[55],[116,49],[116,50]]
@[simp] theorem b5N:a0W tab a3d 3 [0,1,2] [.str [55],.str [116,49],.str [116,50]]=some (.sl 1 true (lt98_23.map fun s=>[.str s])):=id rfl
def lt98_24:List (List UInt8):=[[105,110,102,111],[119,97,114,110],[100,101,98,117,103]]
@[simp] theorem b5O:a0W tab a3d 3 [0,1,2] [.str [105,110,102,111],.str [119,97,114,110],.str [100,101,98,117,103]]=some (.sl 1 true (lt98_24.map fun s=>[.str s])):=id rfl
def lt98_25:List (List UInt8):=[[97,110,110],[98,111,98]]
@[simp] theorem b5P:a0W tab a3d 2 [0,1] [.str [97,110,110],.str [98,111,98]]=some (.sl 1 true (lt98_25.map fun s=>[.str s])):=id rfl
def lt98_26:List (List UInt8):=[[49,48,46,50],[49,48,46,51],[55,46,55]]
@[simp] theorem b5Q:a0W tab a3d 3 [0,1,2] [.str [49,48,46,50],.str [49,48,46,51],.str [55,46,55]]=some (.sl 1 true (lt98_26.map fun s=>[.str s])):=id rfl
def lt98_27:List (List UInt8):=[[102],[103]]
@[simp] theorem b5R:a0W tab a3d 2 [0,1] [.str [102],.str [103]]=some (.sl 1 true (lt98_27.map fun s=>[.str s])):=id rfl
def lt98_28:List (List UInt8):=[[40,49,41],[40,50,50,41]]
@[simp] theorem b5S:a0W tab a3d 2 [0,1] [.str [40,49,41],.str [40,50,50,41]]=some (.sl 1 true (lt98_28.map fun s=>[.str s])):=id rfl
def lt98_29:List (List UInt8):=[[97,110,110],[98,111,98],[101,118,101]]
@[simp] theorem b5T:a0W tab a3d 3 [0,1,2] [.str [97,110,110],.str [98,111,98],.str [101,118,101]]=some (.sl 1 true (lt98_29.map fun s=>[.str s])):=id rfl
def lt98_30:List (List UInt8):=[[105,110],[111,117,116]]
@[simp] theorem b5U:a0W tab a3d 2 [0,1] [.str [105,110],.str [111,117,116]]=some (.sl 1 true (lt98_30.map fun s=>[.str s])):=id rfl
def lt98_31:List (List UInt8):=[[49],[45,50,48],[116,114,117,101]]
@[simp] theorem b5V:a0W tab a3d 3 [0,1,2] [.str [49],.str [45,50,48],.str [116,114,117,101]]=some (.sl 1 true (lt98_31.map fun s=>[.str s])):=id rfl
def lt98_32:List (List UInt8):=[[111,107],[102,97,105,108,101,100]]
@[simp] theorem b5W:a0W tab a3d 2 [0,1] [.str [111,107],.str [102,97,105,108,101,100]]=some (.sl 1 true (lt98_32.map fun s=>[.str s])):=id rfl
@[simp] theorem b4A (h:Hp) (o k f:Nat):a0b tab h a0x (.ptr o k f)=(h.row o k).bind fun row=>a8G 2 (row.drop f):=by show (match h.row o k with | some row=>_ | none=>none)=_;cases h.row o k <;> rfl
@[simp] theorem d3L (a0 b0:Int) (a1 b1:Int) (a2 b2:List UInt8):a0n tab .neq a1r (.agg [.int .i64 a0,.int .i64 a1,.str a2]) (.agg [.int .i64 b0,.int .i64 b1,.str b2])=some (.bool (!(a0==b0&&(a1==b1&&(a2==b2&&true))))):=id rfl
@[simp] theorem c8X (a0 b0:List UInt8) (a1 b1:List UInt8):a0n tab .neq a0x (.agg [.str a0,.str a1]) (.agg [.str b0,.str b1])=some (.bool (!(a0==b0&&(a1==b1&&true)))):=id rfl
theorem a5I {h:Hp} {o T sz kk off:Nat} {rows:List (List D)} {row:List D} {v:D} (ho:h[o]?=some (.row T sz rows)) (hr:rows[kk]?=some row) (hv:(a0F v).length=2) (hl:off+2≤row.length) (hk:v.okv=true) {β:Type} {f:Hp→Option β} {Q:β→Prop}
  (k:∀ h',h'[o]?=some (.row T sz (rows.set kk (spl row off (a0F v))))→Same o h h'→Wp (f h') Q):Wp ((a0h tab h a0x (.ptr o kk off) v).bind f) Q := 
 by rw [show a0h tab h a0x (.ptr o kk off) v=pSt 2 h (.ptr o kk off) v from rfl];exact a3D ho hr hv hl hk k
@[simp] theorem c6q  : a0W tab a1d 0 [] []=some (.sl 2 true []):=id rfl
@[simp] theorem a9N (k:IntKind) (n:Int):a1B tab a5S ty3 (.int k n)=some (.int .i64 (IntKind.wrap .i64 n)):=id rfl
@[simp] theorem c0z (z o r n:Nat):a0y tab a5i (.msl z o r n)=some (.int .i64 n):=id rfl
@[simp] theorem c3j (o r n:Nat) (i:Int):a0d tab a5i (.msl 1 o r n) (.int .i64 i)=if 0≤i∧i<n then some (.ptr o (r+i.toNat) 0) else none:=by show (if 1=1∧0≤i∧i<n then some (D.ptr o (r+i.toNat) 0) else none)=_;simp
@[simp] theorem b6w (h:Hp) (d0:D) (d1:D) (d2:D) (d3:D) (h0:d0.one=true) (h1:d1.one=true) (h2:d2.one=true) (h3:d3.one=true):c1c tab h a5i 4 [0,1,2,3] [d0,d1,d2,d3]=some (.msl 1 h.length 0 4,a0I h a0J 1 [[d0],[d1],[d2],[d3]]):=b7W (T:=tab) (t:=a5i) (n:=4) (i:=b9d) (j:=ti22) (id rfl) (id rfl) (id rfl) (id rfl) h [d0,d1,d2,d3] rfl (by decide) (by simp [h0,h1,h2,h3])
@[simp] theorem a4m (d:D) (xs:List D) (h:Hp):a3b tab R "logtide/event.count" (.iface a5j d::xs) h=R b7s (d::xs) h:=by kernel_rfl
@[simp] theorem a2J (d:D) (xs:List D) (h:Hp):a3b tab R "logtide/event.number" (.iface a5j d::xs) h=R b7t (d::xs) h:=by kernel_rfl
@[simp] theorem a3L (d:D) (xs:List D) (h:Hp):a3b tab R "logtide/event.text" (.iface a5j d::xs) h=R b7u (d::xs) h:=by kernel_rfl
@[simp] theorem a4n (d:D) (xs:List D) (h:Hp):a3b tab R "logtide/event.count" (.iface a4g d::xs) h=R b4n (d::xs) h:=by kernel_rfl
@[simp] theorem a1W (d:D) (xs:List D) (h:Hp):a3b tab R "logtide/event.number" (.iface a4g d::xs) h=R b4o (d::xs) h:=by kernel_rfl
@[simp] theorem a3g (d:D) (xs:List D) (h:Hp):a3b tab R "logtide/event.text" (.iface a4g d::xs) h=R b4p (d::xs) h:=by kernel_rfl
end Go.Proofs.YtjmndhbabkjebaaGreatDoor

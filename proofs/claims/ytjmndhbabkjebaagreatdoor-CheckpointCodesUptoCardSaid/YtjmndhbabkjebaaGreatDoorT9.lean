/- Operations at the types of this seat. -/
import Derived.Test.YtjmndhbabkjebaaGreatDoorC9
import Derived.Test.YtjmndhbabkjebaaGreatDoorPiZ
set_option linter.unusedSimpArgs false
set_option linter.unusedVariables false
set_option linter.unnecessarySimpa false
set_option maxRecDepth 20000
set_option maxHeartbeats 2000000
namespace Go.Proofs.YtjmndhbabkjebaaGreatDoor
open Go.Eng Go.Pi
@[simp] theorem a1Z {α:Type} {f:α→List D} {l:List α} {d:D} (h:SlOf 1 f l d):a0y tab a0N d=some (.int .i64 l.length) := 
 by
  rcases h with ⟨rfl,rfl⟩ | ⟨b,rfl⟩
  ·rfl
  ·show some (D.int .i64 ((l.map f).length:Nat))=_;simp
@[simp] theorem d6v (z:Nat) (f:Bool) (rows:List (List D)):a0y tab a0N (.sl z f rows)=some (.int .i64 rows.length):=id rfl
@[simp] theorem a7m (z o r n:Nat):a0y tab a0N (.msl z o r n)=some (.int .i64 n):=id rfl
theorem a8M {α:Type} {f:α→List D} {l:List α} {d:D} (hd:SlOf 1 f l d) {k:IntKind} {n:Int} (h0:0≤n) (h1:n≤l.length) :
  ∃ d',a0A tab a0N false true false [d,.int k n]=some d'∧SlOf 1 f (l.take n.toNat) d':=c4j (T:=tab) (i:=ti22) (j:=ti5) (id rfl) (id rfl) (id rfl) (id rfl) hd h0 h1
@[simp] theorem c6s (d0:D) (h0:d0.one=true):a0M tab b1W [0] [d0]=some (.agg [d0,.int .i64 0]):=by
 have c0:=a0z h0
 refine b0O (T:=tab) (i:=ti80) (fs:=[(22,0,1),(3,1,1)]) (id rfl) (id rfl) ?_
 rw [show ti80.zero=[.nils,.int .i64 0] from id rfl]
 rw [a1I (off:=0) (sz:=1) (id rfl) (by rw [c0.1];rfl) (by simp [spl,a1t,a1u,a1f,a1s]) c0.2,c0.1]
 exact id rfl
@[simp] theorem a3r (h:Hp) (o k f:Nat):a0b tab h a0f (.ptr o k f)=(h.row o k).bind fun row=>a8N 3 (row.drop f):=by show (match h.row o k with | some row=>_ | none=>none)=_;cases h.row o k <;> rfl
@[simp] theorem b5p (n0:Int) (d1:D) (h1:d1.one=true):a0M tab a0f [0,1] [.int .i64 n0,d1]=some (.agg [.int .i64 n0,d1,.nils]):=by
 have c1:=a0z h1
 refine b0O (T:=tab) (i:=ti1197) (fs:=[(3,0,1),(27,1,1),(28,2,1)]) (id rfl) (id rfl) ?_
 rw [show ti1197.zero=[.int .i64 0,.nils,.nils] from id rfl]
 rw [a1I (off:=0) (sz:=1) (id rfl) (id rfl) (by simp [spl,a1t,a1u,a1f,a1s]) (id rfl)]
 rw [a1I (off:=1) (sz:=1) (id rfl) (by rw [c1.1];rfl) (by simp [spl,a1t,a1u,a1f,a1s]) c1.2,c1.1]
 exact id rfl
theorem a4z {h:Hp} {o T sz kk off:Nat} {rows:List (List D)} {row:List D} {v:D} (ho:h[o]?=some (.row T sz rows)) (hr:rows[kk]?=some row) (hv:(a0B v).length=3) (hl:off+3≤row.length) (hk:v.okv=true) {β:Type} {f:Hp→Option β} {Q:β→Prop}
  (k:∀ h',h'[o]?=some (.row T sz (rows.set kk (spl row off (a0B v))))→Same o h h'→Wp (f h') Q):Wp ((a0h tab h a0f (.ptr o kk off) v).bind f) Q := 
 by rw [show a0h tab h a0f (.ptr o kk off) v=pSt 3 h (.ptr o kk off) v from rfl];exact a3v ho hr hv hl hk k
@[simp] theorem c0o (c0 c1 c2:D) (cs:List D):a0a tab a0f 2 (.fptr (c0::c1::c2::cs))=some (.fptr (c2::cs)):=id rfl
@[simp] theorem a6s (o k f:Nat):a0a tab a0f 2 (.ptr o k f)=some (.ptr o k (f+2)):=id rfl
theorem b5k {h:Hp} {o T sz kk off:Nat} {rows:List (List D)} {row:List D} {v:D} (ho:h[o]?=some (.row T sz rows)) (hr:rows[kk]?=some row) (hv:(a0B v).length=1) (hl:off+1≤row.length) (hk:v.okv=true) {β:Type} {f:Hp→Option β} {Q:β→Prop}
  (k:∀ h',h'[o]?=some (.row T sz (rows.set kk (spl row off (a0B v))))→Same o h h'→Wp (f h') Q):Wp ((a0h tab h a1x (.ptr o kk off) v).bind f) Q := 
 by rw [show a0h tab h a1x (.ptr o kk off) v=pSt 1 h (.ptr o kk off) v from rfl];exact a3v ho hr hv hl hk k
@[simp] theorem d1g (o k f:Nat):a0a tab b1W 1 (.ptr o k f)=some (.ptr o k (f+1)):=id rfl
@[simp] theorem ld3 (c:D) (cs:List D) (h:Hp):a0b tab h ty3 (.fptr (c::cs))=some c:=id rfl
@[simp] theorem a6R (h:Hp) (o k f:Nat):a0b tab h ty3 (.ptr o k f)=(h.row o k).bind fun row=>(row.drop f).head?:=by show (match h.row o k with | some row=>_ | none=>none)=_;cases h.row o k <;> rfl
theorem b0H {h:Hp} {o T sz kk off:Nat} {rows:List (List D)} {row:List D} {v:D} (ho:h[o]?=some (.row T sz rows)) (hr:rows[kk]?=some row) (hv:(a0B v).length=1) (hl:off+1≤row.length) (hk:v.okv=true) {β:Type} {f:Hp→Option β} {Q:β→Prop}
  (k:∀ h',h'[o]?=some (.row T sz (rows.set kk (spl row off (a0B v))))→Same o h h'→Wp (f h') Q):Wp ((a0h tab h ty3 (.ptr o kk off) v).bind f) Q := 
 by rw [show a0h tab h ty3 (.ptr o kk off) v=pSt 1 h (.ptr o kk off) v from rfl];exact a3v ho hr hv hl hk k
@[simp] theorem d1f (o k f:Nat):a0a tab b1W 0 (.ptr o k f)=some (.ptr o k (f+0)):=id rfl
@[simp] theorem b7T (h:Hp) (o k f:Nat):a0b tab h a0N (.ptr o k f)=(h.row o k).bind fun row=>(row.drop f).head?:=by show (match h.row o k with | some row=>_ | none=>none)=_;cases h.row o k <;> rfl
@[simp] theorem d6s (f:Bool) (rows:List (List D)) (i:Int):a0c tab a0N (.sl 1 f rows) (.int .i64 i)=if 0≤i then (rows[i.toNat]?).map .fptr else none:=by show (if 1=1∧0≤i then (match rows[i.toNat]? with | some row=>some (D.fptr row) | none=>none) else none)=_;by_cases h:0≤i <;> simp [h] <;> cases rows[i.toNat]? <;> rfl
@[simp] theorem b5C (o r n:Nat) (i:Int):a0c tab a0N (.msl 1 o r n) (.int .i64 i)=if 0≤i∧i<n then some (.ptr o (r+i.toNat) 0) else none:=by show (if 1=1∧0≤i∧i<n then some (D.ptr o (r+i.toNat) 0) else none)=_;simp
@[simp] theorem c0A {α:Type} {f:α→List D} {l:List α} {d:D} (h:SlOf 1 f l d) (i:Int):a0c tab a0N d (.int .i64 i)=if 0≤i then (l[i.toNat]?).map fun p => .fptr (f p) else none := 
 by
  rcases h with ⟨rfl,rfl⟩ | ⟨b,rfl⟩
  ·show none=_;simp
  ·rw [d6s];simp [Function.comp_def]
@[simp] theorem ld5 (c:D) (cs:List D) (h:Hp):a0b tab h ty5 (.fptr (c::cs))=some c:=id rfl
@[simp] theorem c8P (h:Hp) (o k f:Nat):a0b tab h ty5 (.ptr o k f)=(h.row o k).bind fun row=>(row.drop f).head?:=by show (match h.row o k with | some row=>_ | none=>none)=_;cases h.row o k <;> rfl
@[simp] theorem c9u (k:IntKind) (n:Int):a1B tab ty5 ty3 (.int k n)=some (.int .i64 (IntKind.wrap .i64 n)):=id rfl
def lt82_41:List Int:=[9223372036854775807,(-9223372036854775808),4294967296,(-1),(-2),65536,999,1000,253402300799999,253402300800000,0,41]
@[simp] theorem b2G:lt82_41.length=12:=id rfl
@[simp] theorem b5F:a0X tab a3M 12 [0,1,2,3,4,5,6,7,8,9,10,11] [.int .i64 9223372036854775807,.int .i64 (-9223372036854775808),.int .i64 4294967296,.int .i64 (-1),.int .i64 (-2),.int .i64 65536,.int .i64 999,.int .i64 1000,.int .i64 253402300799999,.int .i64 253402300800000,.int .i64 0,.int .i64 41]=some (.sl 1 true (lt82_41.map fun n=>[.int .i64 n])):=id rfl
@[simp] theorem c7p {α:Type} {f:α→List D} {l:List α} {d:D} (h:SlOf 1 f l d):a0y tab a3M d=some (.int .i64 l.length) := 
 by
  rcases h with ⟨rfl,rfl⟩ | ⟨b,rfl⟩
  ·rfl
  ·show some (D.int .i64 ((l.map f).length:Nat))=_;simp
@[simp] theorem d3R (f:Bool) (rows:List (List D)) (i:Int):a0c tab a3M (.sl 1 f rows) (.int .i64 i)=if 0≤i then (rows[i.toNat]?).map .fptr else none:=by show (if 1=1∧0≤i then (match rows[i.toNat]? with | some row=>some (D.fptr row) | none=>none) else none)=_;by_cases h:0≤i <;> simp [h] <;> cases rows[i.toNat]? <;> rfl
@[simp] theorem d1U {α:Type} {f:α→List D} {l:List α} {d:D} (h:SlOf 1 f l d) (i:Int):a0c tab a3M d (.int .i64 i)=if 0≤i then (l[i.toNat]?).map fun p => .fptr (f p) else none := 
 by
  rcases h with ⟨rfl,rfl⟩ | ⟨b,rfl⟩
  ·show none=_;simp
  ·rw [d3R];simp [Function.comp_def]
@[simp] theorem a8g (h:Hp) (o k f:Nat):a0b tab h a0L (.ptr o k f)=(h.row o k).bind fun row=>a8N 11 (row.drop f):=by show (match h.row o k with | some row=>_ | none=>none)=_;cases h.row o k <;> rfl
@[simp] theorem a3H (o k f:Nat):a0a tab a0L 1 (.ptr o k f)=some (.ptr o k (f+1)):=id rfl
@[simp] theorem c3A (h:Hp) (o k f:Nat):a0b tab h a0E (.ptr o k f)=(h.row o k).bind fun row=>a8N 10 (row.drop f):=by show (match h.row o k with | some row=>_ | none=>none)=_;cases h.row o k <;> rfl
theorem b2X {h:Hp} {o T sz kk off:Nat} {rows:List (List D)} {row:List D} {v:D} (ho:h[o]?=some (.row T sz rows)) (hr:rows[kk]?=some row) (hv:(a0B v).length=10) (hl:off+10≤row.length) (hk:v.okv=true) {β:Type} {f:Hp→Option β} {Q:β→Prop}
  (k:∀ h',h'[o]?=some (.row T sz (rows.set kk (spl row off (a0B v))))→Same o h h'→Wp (f h') Q):Wp ((a0h tab h a0E (.ptr o kk off) v).bind f) Q := 
 by rw [show a0h tab h a0E (.ptr o kk off) v=pSt 10 h (.ptr o kk off) v from rfl];exact a3v ho hr hv hl hk k
@[simp] theorem a6n (c0 c1 c2 c3 c4:D) (cs:List D):a0a tab a0E 4 (.fptr (c0::c1::c2::c3::c4::cs))=some (.fptr (c4::cs)):=id rfl
@[simp] theorem a3p (o k f:Nat):a0a tab a0E 4 (.ptr o k f)=some (.ptr o k (f+4)):=id rfl
@[simp] theorem a9i (c:D) (cs:List D) (h:Hp):a0b tab h a1i (.fptr (c::cs))=some c:=id rfl
@[simp] theorem b2B (h:Hp) (o k f:Nat):a0b tab h a1i (.ptr o k f)=(h.row o k).bind fun row=>(row.drop f).head?:=by show (match h.row o k with | some row=>_ | none=>none)=_;cases h.row o k <;> rfl
theorem b2W {h:Hp} {n0:Nat} (hn0:n0≤h.length) {rows:List (List D)} {x y:D} (hx:Own h n0 a1o 3 rows x) {ys:List (List D)} (hy:a1R h 3 y=some ys) (hl:(rows.length+ys.length)*32≤140737488355328) {β:Type} {f:D × Hp→Option β} {Q:β→Prop}
  (k:∀ x' h',Own h' n0 a1o 3 (rows++ys) x'→h.length≤h'.length→(∀ q,q<n0→h'[q]?=h[q]?)→(∀ q,q<h.length→¬ x.inOb q→h'[q]?=h[q]?)→(∀ q,x'.inOb q→x.inOb q∨h.length≤q)→Wp (f (x',h')) Q):Wp ((a0F tab h a1i a1i x y).bind f) Q := 
 a8O (T:=tab) (i:=d3m) (j:=d3p) (id rfl) (id rfl) (id rfl) (by decide) hn0 hx hy (a6A hl (by omega)) k
theorem b1Z {h:Hp} {o T sz kk off:Nat} {rows:List (List D)} {row:List D} {v:D} (ho:h[o]?=some (.row T sz rows)) (hr:rows[kk]?=some row) (hv:(a0B v).length=1) (hl:off+1≤row.length) (hk:v.okv=true) {β:Type} {f:Hp→Option β} {Q:β→Prop}
  (k:∀ h',h'[o]?=some (.row T sz (rows.set kk (spl row off (a0B v))))→Same o h h'→Wp (f h') Q):Wp ((a0h tab h a1i (.ptr o kk off) v).bind f) Q := 
 by rw [show a0h tab h a1i (.ptr o kk off) v=pSt 1 h (.ptr o kk off) v from rfl];exact a3v ho hr hv hl hk k
@[simp] theorem a5O (o k f:Nat):a0a tab a0E 9 (.ptr o k f)=some (.ptr o k (f+9)):=id rfl
@[simp] theorem b6m (c:D) (cs:List D) (h:Hp):a0b tab h a1e (.fptr (c::cs))=some c:=id rfl
@[simp] theorem c0E (h:Hp) (o k f:Nat):a0b tab h a1e (.ptr o k f)=(h.row o k).bind fun row=>(row.drop f).head?:=by show (match h.row o k with | some row=>_ | none=>none)=_;cases h.row o k <;> rfl
theorem b6k {h:Hp} {n0:Nat} (hn0:n0≤h.length) {rows:List (List D)} {x y:D} (hx:Own h n0 a0x 2 rows x) {ys:List (List D)} (hy:a1R h 2 y=some ys) (hl:(rows.length+ys.length)*32≤140737488355328) {β:Type} {f:D × Hp→Option β} {Q:β→Prop}
  (k:∀ x' h',Own h' n0 a0x 2 (rows++ys) x'→h.length≤h'.length→(∀ q,q<n0→h'[q]?=h[q]?)→(∀ q,q<h.length→¬ x.inOb q→h'[q]?=h[q]?)→(∀ q,x'.inOb q→x.inOb q∨h.length≤q)→Wp (f (x',h')) Q):Wp ((a0F tab h a1e a1e x y).bind f) Q := 
 a8O (T:=tab) (i:=c8U) (j:=ti109) (id rfl) (id rfl) (id rfl) (by decide) hn0 hx hy (a6A hl (by omega)) k
theorem c1l {h:Hp} {o T sz kk off:Nat} {rows:List (List D)} {row:List D} {v:D} (ho:h[o]?=some (.row T sz rows)) (hr:rows[kk]?=some row) (hv:(a0B v).length=1) (hl:off+1≤row.length) (hk:v.okv=true) {β:Type} {f:Hp→Option β} {Q:β→Prop}
  (k:∀ h',h'[o]?=some (.row T sz (rows.set kk (spl row off (a0B v))))→Same o h h'→Wp (f h') Q):Wp ((a0h tab h a1e (.ptr o kk off) v).bind f) Q := 
 by rw [show a0h tab h a1e (.ptr o kk off) v=pSt 1 h (.ptr o kk off) v from rfl];exact a3v ho hr hv hl hk k
@[simp] theorem a5C (c0:D) (cs:List D):a0a tab a0E 0 (.fptr (c0::cs))=some (.fptr (c0::cs)):=id rfl
@[simp] theorem b0d (o k f:Nat):a0a tab a0E 0 (.ptr o k f)=some (.ptr o k (f+0)):=id rfl
@[simp] theorem a5D (c0 c1:D) (cs:List D):a0a tab a0E 1 (.fptr (c0::c1::cs))=some (.fptr (c1::cs)):=id rfl
@[simp] theorem a7T (o k f:Nat):a0a tab a0E 1 (.ptr o k f)=some (.ptr o k (f+1)):=id rfl
@[simp] theorem a4B (c0 c1 c2:D) (cs:List D):a0a tab a0E 2 (.fptr (c0::c1::c2::cs))=some (.fptr (c2::cs)):=id rfl
@[simp] theorem a4m (o k f:Nat):a0a tab a0E 2 (.ptr o k f)=some (.ptr o k (f+2)):=id rfl
@[simp] theorem a2u (c0 c1 c2 c3:D) (cs:List D):a0a tab a0E 3 (.fptr (c0::c1::c2::c3::cs))=some (.fptr (c3::cs)):=id rfl
@[simp] theorem a3R (o k f:Nat):a0a tab a0E 3 (.ptr o k f)=some (.ptr o k (f+3)):=id rfl
@[simp] theorem b0e (o k f:Nat):a0a tab a0E 5 (.ptr o k f)=some (.ptr o k (f+5)):=id rfl
@[simp] theorem b0f (o k f:Nat):a0a tab a0E 6 (.ptr o k f)=some (.ptr o k (f+6)):=id rfl
@[simp] theorem a2P {α:Type} {f:α→List D} {l:List α} {d:D} (h:SlOf 3 f l d):a0y tab a1i d=some (.int .i64 l.length) := 
 by
  rcases h with ⟨rfl,rfl⟩ | ⟨b,rfl⟩
  ·rfl
  ·show some (D.int .i64 ((l.map f).length:Nat))=_;simp
theorem b4E {h:Hp} {n0 e z:Nat} {rows:List (List D)} {d:D} (hd:Own h n0 e z rows d):a0y tab a1i d=some (.int .i64 rows.length):=by
 rcases hd with ⟨rfl,rfl⟩ | ⟨o,_,rfl,_⟩ <;> rfl
@[simp] theorem c7m:a0y tab a1i .nils=some (.int .i64 0):=id rfl
@[simp] theorem d6t (f:Bool) (rows:List (List D)) (i:Int):a0c tab a1i (.sl 3 f rows) (.int .i64 i)=if 0≤i then (rows[i.toNat]?).map .fptr else none:=by show (if 3=3∧0≤i then (match rows[i.toNat]? with | some row=>some (D.fptr row) | none=>none) else none)=_;by_cases h:0≤i <;> simp [h] <;> cases rows[i.toNat]? <;> rfl
@[simp] theorem c0z (o r n:Nat) (i:Int):a0c tab a1i (.msl 3 o r n) (.int .i64 i)=if 0≤i∧i<n then some (.ptr o (r+i.toNat) 0) else none:=by show (if 3=3∧0≤i∧i<n then some (D.ptr o (r+i.toNat) 0) else none)=_;simp
@[simp] theorem a8e {α:Type} {f:α→List D} {l:List α} {d:D} (h:SlOf 3 f l d) (i:Int):a0c tab a1i d (.int .i64 i)=if 0≤i then (l[i.toNat]?).map fun p => .fptr (f p) else none := 
 by
  rcases h with ⟨rfl,rfl⟩ | ⟨b,rfl⟩
  ·show none=_;simp
  ·rw [d6t];simp [Function.comp_def]
@[simp] theorem c1y (c0:D) (cs:List D):a0a tab a1o 0 (.fptr (c0::cs))=some (.fptr (c0::cs)):=id rfl
@[simp] theorem a3g (o k f:Nat):a0a tab a1o 0 (.ptr o k f)=some (.ptr o k (f+0)):=id rfl
@[simp] theorem c1z (c0 c1:D) (cs:List D):a0a tab a1o 1 (.fptr (c0::c1::cs))=some (.fptr (c1::cs)):=id rfl
@[simp] theorem a3h (o k f:Nat):a0a tab a1o 1 (.ptr o k f)=some (.ptr o k (f+1)):=id rfl
def lt98_38:List (List UInt8):=[[97],[122,122],[],[49]]
@[simp] theorem b6a:a0X tab a3d 4 [0,1,2,3] [.str [97],.str [122,122],.str [],.str [49]]=some (.sl 1 true (lt98_38.map fun s=>[.str s])):=id rfl
@[simp] theorem b0M (s0:List UInt8) (s1:List UInt8):a0M tab a0x [0,1] [.str s0,.str s1]=some (.agg [.str s0,.str s1]):=id rfl
@[simp] theorem c1u (x0_0 x0_1:D):a0X tab a1e 1 [0] [.agg [x0_0,x0_1]]=some (.sl 2 true [[x0_0,x0_1]]):=id rfl
def lt98_39:List (List UInt8):=[[],[114],[97,98,99,100,101,102,103,104,105,106,107,108,109,110,111,112,113,114,115,116,117,118,119,120,121,122,97,98,99,100,101,102,103]]
@[simp] theorem b6b:a0X tab a3d 3 [0,1,2] [.str [],.str [114],.str [97,98,99,100,101,102,103,104,105,106,107,108,109,110,111,112,113,114,115,116,117,118,119,120,121,122,97,98,99,100,101,102,103]]=some (.sl 1 true (lt98_39.map fun s=>[.str s])):=id rfl
@[simp] theorem b0h (o k f:Nat):a0a tab a0L 0 (.ptr o k f)=some (.ptr o k (f+0)):=id rfl
theorem c2r {h:Hp} {o T sz kk off:Nat} {rows:List (List D)} {row:List D} {v:D} (ho:h[o]?=some (.row T sz rows)) (hr:rows[kk]?=some row) (hv:(a0B v).length=1) (hl:off+1≤row.length) (hk:v.okv=true) {β:Type} {f:Hp→Option β} {Q:β→Prop}
  (k:∀ h',h'[o]?=some (.row T sz (rows.set kk (spl row off (a0B v))))→Same o h h'→Wp (f h') Q):Wp ((a0h tab h ty9 (.ptr o kk off) v).bind f) Q := 
 by rw [show a0h tab h ty9 (.ptr o kk off) v=pSt 1 h (.ptr o kk off) v from rfl];exact a3v ho hr hv hl hk k
def lt98_40:List (List UInt8):=[[120],[97,98,99,100,101,102,103,104,105,106,107,108,109,110,111,112,113,114,115,116,117,118,119,120,121,122,97,98,99,100,101,102,103]]
@[simp] theorem b6c:a0X tab a3d 2 [0,1] [.str [120],.str [97,98,99,100,101,102,103,104,105,106,107,108,109,110,111,112,113,114,115,116,117,118,119,120,121,122,97,98,99,100,101,102,103]]=some (.sl 1 true (lt98_40.map fun s=>[.str s])):=id rfl
@[simp] theorem b0g (o k f:Nat):a0a tab a0E 7 (.ptr o k f)=some (.ptr o k (f+7)):=id rfl
@[simp] theorem c3B (h:Hp) (o k f:Nat):a0b tab h a1o (.ptr o k f)=(h.row o k).bind fun row=>a8N 3 (row.drop f):=by show (match h.row o k with | some row=>_ | none=>none)=_;cases h.row o k <;> rfl
theorem c8y {h:Hp} {o T sz kk off:Nat} {rows:List (List D)} {row:List D} {v:D} (ho:h[o]?=some (.row T sz rows)) (hr:rows[kk]?=some row) (hv:(a0B v).length=3) (hl:off+3≤row.length) (hk:v.okv=true) {β:Type} {f:Hp→Option β} {Q:β→Prop}
  (k:∀ h',h'[o]?=some (.row T sz (rows.set kk (spl row off (a0B v))))→Same o h h'→Wp (f h') Q):Wp ((a0h tab h a1o (.ptr o kk off) v).bind f) Q := 
 by rw [show a0h tab h a1o (.ptr o kk off) v=pSt 3 h (.ptr o kk off) v from rfl];exact a3v ho hr hv hl hk k
@[simp] theorem a9P (n0:Int) (n1:Int):a0M tab a1o [0,1] [.int .i64 n0,.int .i64 n1]=some (.agg [.int .i64 n0,.int .i64 n1,.str []]):=id rfl
@[simp] theorem b6A (x0_0 x0_1 x0_2:D):a0X tab a1i 1 [0] [.agg [x0_0,x0_1,x0_2]]=some (.sl 3 true [[x0_0,x0_1,x0_2]]):=id rfl
theorem b2a {h:Hp} {o T sz kk off:Nat} {rows:List (List D)} {row:List D} {v:D} (ho:h[o]?=some (.row T sz rows)) (hr:rows[kk]?=some row) (hv:(a0B v).length=11) (hl:off+11≤row.length) (hk:v.okv=true) {β:Type} {f:Hp→Option β} {Q:β→Prop}
  (k:∀ h',h'[o]?=some (.row T sz (rows.set kk (spl row off (a0B v))))→Same o h h'→Wp (f h') Q):Wp ((a0h tab h a0L (.ptr o kk off) v).bind f) Q := 
 by rw [show a0h tab h a0L (.ptr o kk off) v=pSt 11 h (.ptr o kk off) v from rfl];exact a3v ho hr hv hl hk k
@[simp] theorem b0N (n0:Int) (n1:Int) (n2:Int) (n3:Int):a0M tab a0E [0,1,2,3] [.int .i64 n0,.int .i64 n1,.int .i64 n2,.int .i64 n3]=some (.agg [.int .i64 n0,.int .i64 n1,.int .i64 n2,.int .i64 n3,.nils,.int .i64 0,.int .i64 0,.str [],.str [],.nils]):=id rfl
def lt98_35:List (List UInt8):=[[115,97,109,112,108,101],[116,111,111,45,108,111,110,103],[114,49]]
@[simp] theorem b5Z:a0X tab a3d 3 [0,1,2] [.str [115,97,109,112,108,101],.str [116,111,111,45,108,111,110,103],.str [114,49]]=some (.sl 1 true (lt98_35.map fun s=>[.str s])):=id rfl
@[simp] theorem b9G (s0:List UInt8) (x1_0 x1_1 x1_2 x1_3 x1_4 x1_5 x1_6 x1_7 x1_8 x1_9:D):a0M tab a0L [0,1] [.str s0,.agg [x1_0,x1_1,x1_2,x1_3,x1_4,x1_5,x1_6,x1_7,x1_8,x1_9]]=some (.agg [.str s0,x1_0,x1_1,x1_2,x1_3,x1_4,x1_5,x1_6,x1_7,x1_8,x1_9]):=id rfl
def lt22_50:List Int:=[76,84,49,10]
@[simp] theorem a8l (h:Hp):b9p tab h a0N 4 [0,1,2,3] [.int .u8 76,.int .u8 84,.int .u8 49,.int .u8 10]=some (.msl 1 h.length 0 4,a0H h ty5 1 (lt22_50.map fun n=>[.int .u8 n])):=id rfl
def lt22_51:List Int:=[0,0,0,0]
@[simp] theorem b5D:a0X tab a0N 4 [0,1,2,3] [.int .u8 0,.int .u8 0,.int .u8 0,.int .u8 0]=some (.sl 1 true (lt22_51.map fun n=>[.int .u8 n])):=id rfl
theorem b2V {h:Hp} {n0:Nat} (hn0:n0≤h.length) {rows:List (List D)} {x y:D} (hx:Own h n0 ty5 1 rows x) {ys:List (List D)} (hy:a1R h 1 y=some ys) (hl:(rows.length+ys.length)*1≤140737488355328) {β:Type} {f:D × Hp→Option β} {Q:β→Prop}
  (k:∀ x' h',Own h' n0 ty5 1 (rows++ys) x'→h.length≤h'.length→(∀ q,q<n0→h'[q]?=h[q]?)→(∀ q,q<h.length→¬ x.inOb q→h'[q]?=h[q]?)→(∀ q,x'.inOb q→x.inOb q∨h.length≤q)→Wp (f (x',h')) Q):Wp ((a0F tab h a0N a0N x y).bind f) Q := 
 a8O (T:=tab) (i:=ti22) (j:=ti5) (id rfl) (id rfl) (id rfl) (by decide) hn0 hx hy (a6A hl (by omega)) k
@[simp] theorem b1e (o k f:Nat):a0a tab a0f 0 (.ptr o k f)=some (.ptr o k (f+0)):=id rfl
@[simp] theorem c0n (c0 c1:D) (cs:List D):a0a tab a0f 1 (.fptr (c0::c1::cs))=some (.fptr (c1::cs)):=id rfl
@[simp] theorem a3Y (o k f:Nat):a0a tab a0f 1 (.ptr o k f)=some (.ptr o k (f+1)):=id rfl
@[simp] theorem a3J (c:D) (cs:List D) (h:Hp):a0b tab h a0C (.fptr (c::cs))=some c:=id rfl
@[simp] theorem b2A (h:Hp) (o k f:Nat):a0b tab h a0C (.ptr o k f)=(h.row o k).bind fun row=>(row.drop f).head?:=by show (match h.row o k with | some row=>_ | none=>none)=_;cases h.row o k <;> rfl
@[simp] theorem a3z {α:Type} {f:α→List D} {l:List α} {d:D} (h:SlOf 2 f l d):a0y tab a0C d=some (.int .i64 l.length) := 
 by
  rcases h with ⟨rfl,rfl⟩ | ⟨b,rfl⟩
  ·rfl
  ·show some (D.int .i64 ((l.map f).length:Nat))=_;simp
@[simp] theorem c0G (z o r n:Nat):a0y tab a0C (.msl z o r n)=some (.int .i64 n):=id rfl
@[simp] theorem c7b (f:Bool) (rows:List (List D)) (i:Int):a0c tab a0C (.sl 2 f rows) (.int .i64 i)=if 0≤i then (rows[i.toNat]?).map .fptr else none:=by show (if 2=2∧0≤i then (match rows[i.toNat]? with | some row=>some (D.fptr row) | none=>none) else none)=_;by_cases h:0≤i <;> simp [h] <;> cases rows[i.toNat]? <;> rfl
@[simp] theorem c3r (o r n:Nat) (i:Int):a0c tab a0C (.msl 2 o r n) (.int .i64 i)=if 0≤i∧i<n then some (.ptr o (r+i.toNat) 0) else none:=by show (if 2=2∧0≤i∧i<n then some (D.ptr o (r+i.toNat) 0) else none)=_;simp
@[simp] theorem a6Q {α:Type} {f:α→List D} {l:List α} {d:D} (h:SlOf 2 f l d) (i:Int):a0c tab a0C d (.int .i64 i)=if 0≤i then (l[i.toNat]?).map fun p => .fptr (f p) else none := 
 by
  rcases h with ⟨rfl,rfl⟩ | ⟨b,rfl⟩
  ·show none=_;simp
  ·rw [c7b];simp [Function.comp_def]
@[simp] theorem c3y (h:Hp) (o k f:Nat):a0b tab h a0K (.ptr o k f)=(h.row o k).bind fun row=>a8N 2 (row.drop f):=by show (match h.row o k with | some row=>_ | none=>none)=_;cases h.row o k <;> rfl
@[simp] theorem b1c (o k f:Nat):a0a tab a0K 0 (.ptr o k f)=some (.ptr o k (f+0)):=id rfl
@[simp] theorem b1d (o k f:Nat):a0a tab a0K 1 (.ptr o k f)=some (.ptr o k (f+1)):=id rfl
@[simp] theorem b2z (c:D) (cs:List D) (h:Hp):a0b tab h a1x (.fptr (c::cs))=some c:=id rfl
@[simp] theorem c1I (h:Hp) (o k f:Nat):a0b tab h a1x (.ptr o k f)=(h.row o k).bind fun row=>(row.drop f).head?:=by show (match h.row o k with | some row=>_ | none=>none)=_;cases h.row o k <;> rfl
@[simp] theorem a6S {α:Type} {f:α→List D} {l:List α} {d:D} (h:SlOf 11 f l d):a0y tab a1x d=some (.int .i64 l.length) := 
 by
  rcases h with ⟨rfl,rfl⟩ | ⟨b,rfl⟩
  ·rfl
  ·show some (D.int .i64 ((l.map f).length:Nat))=_;simp
@[simp] theorem c3C (z o r n:Nat):a0y tab a1x (.msl z o r n)=some (.int .i64 n):=id rfl
@[simp] theorem d1T (f:Bool) (rows:List (List D)) (i:Int):a0c tab a1x (.sl 11 f rows) (.int .i64 i)=if 0≤i then (rows[i.toNat]?).map .fptr else none:=by show (if 11=11∧0≤i then (match rows[i.toNat]? with | some row=>some (D.fptr row) | none=>none) else none)=_;by_cases h:0≤i <;> simp [h] <;> cases rows[i.toNat]? <;> rfl
@[simp] theorem c7c (o r n:Nat) (i:Int):a0c tab a1x (.msl 11 o r n) (.int .i64 i)=if 0≤i∧i<n then some (.ptr o (r+i.toNat) 0) else none:=by show (if 11=11∧0≤i∧i<n then some (D.ptr o (r+i.toNat) 0) else none)=_;simp
@[simp] theorem b4y {α:Type} {f:α→List D} {l:List α} {d:D} (h:SlOf 11 f l d) (i:Int):a0c tab a1x d (.int .i64 i)=if 0≤i then (l[i.toNat]?).map fun p => .fptr (f p) else none := 
 by
  rcases h with ⟨rfl,rfl⟩ | ⟨b,rfl⟩
  ·show none=_;simp
  ·rw [d1T];simp [Function.comp_def]
theorem c1d {α:Type} {f:α→List D} {l:List α} {d:D} (hd:SlOf 1 f l d) {k:IntKind} {n:Int} (h0:0≤n) (h1:n≤l.length) :
  ∃ d',a0A tab a0N true false false [d,.int k n]=some d'∧SlOf 1 f (l.drop n.toNat) d':=c4k (T:=tab) (i:=ti22) (j:=ti5) (id rfl) (id rfl) (id rfl) (id rfl) hd h0 h1
@[simp] theorem a2b (k:IntKind) (n:Int):a1B tab ty3 a0V (.int k n)=some (.int .u64 (IntKind.wrap .u64 n)):=id rfl
@[simp] theorem a7O (k:IntKind) (n:Int):a1B tab ty3 a5W (.int k n)=some (.int .u64 (IntKind.wrap .u64 n)):=id rfl
@[simp] theorem b3I (k:IntKind) (n:Int):a1B tab a0V ty5 (.int k n)=some (.int .u8 (IntKind.wrap .u8 n)):=id rfl
@[simp] theorem b6z (n0:Int):a0X tab a0N 1 [0] [.int .u8 n0]=some (.sl 1 true [[.int .u8 n0]]):=id rfl
@[simp] theorem a6i (k:IntKind) (n:Int):a1B tab ty5 a0V (.int k n)=some (.int .u64 (IntKind.wrap .u64 n)):=id rfl
@[simp] theorem b6t  : a0M tab a0f [] []=some (.agg [.int .i64 0,.nils,.nils]):=id rfl
@[simp] theorem b9F (d0:D) (h0:d0.one=true):a0M tab a1Q [0] [d0]=some (.agg [d0,.bool false]):=by
 have c0:=a0z h0
 refine b0O (T:=tab) (i:=ti1223) (fs:=[(22,0,1),(4,1,1)]) (id rfl) (id rfl) ?_
 rw [show ti1223.zero=[.nils,.bool false] from id rfl]
 rw [a1I (off:=0) (sz:=1) (id rfl) (by rw [c0.1];rfl) (by simp [spl,a1t,a1u,a1f,a1s]) c0.2,c0.1]
 exact id rfl
@[simp] theorem b9E (n0:Int):a0M tab a0f [0] [.int .i64 n0]=some (.agg [.int .i64 n0,.nils,.nils]):=id rfl
@[simp] theorem a3G (o k f:Nat):a0a tab a1Q 1 (.ptr o k f)=some (.ptr o k (f+1)):=id rfl
@[simp] theorem ld4 (c:D) (cs:List D) (h:Hp):a0b tab h ty4 (.fptr (c::cs))=some c:=id rfl
@[simp] theorem d2i (h:Hp) (o k f:Nat):a0b tab h ty4 (.ptr o k f)=(h.row o k).bind fun row=>(row.drop f).head?:=by show (match h.row o k with | some row=>_ | none=>none)=_;cases h.row o k <;> rfl
@[simp] theorem a5m (n0:Int) (n1:Int):a0M tab a0K [0,1] [.int .i64 n0,.int .i64 n1]=some (.agg [.int .i64 n0,.int .i64 n1]):=id rfl
@[simp] theorem a6f (x0_0 x0_1:D):a0X tab a0C 1 [0] [.agg [x0_0,x0_1]]=some (.sl 2 true [[x0_0,x0_1]]):=id rfl
theorem a7b {h:Hp} {n0:Nat} (hn0:n0≤h.length) {rows:List (List D)} {x y:D} (hx:Own h n0 a0K 2 rows x) {ys:List (List D)} (hy:a1R h 2 y=some ys) (hl:(rows.length+ys.length)*16≤140737488355328) {β:Type} {f:D × Hp→Option β} {Q:β→Prop}
  (k:∀ x' h',Own h' n0 a0K 2 (rows++ys) x'→h.length≤h'.length→(∀ q,q<n0→h'[q]?=h[q]?)→(∀ q,q<h.length→¬ x.inOb q→h'[q]?=h[q]?)→(∀ q,x'.inOb q→x.inOb q∨h.length≤q)→Wp (f (x',h')) Q):Wp ((a0F tab h a0C a0C x y).bind f) Q := 
 a8O (T:=tab) (i:=b9f) (j:=b9g) (id rfl) (id rfl) (id rfl) (by decide) hn0 hx hy (a6A hl (by omega)) k
theorem a7c {h:Hp} {o T sz kk off:Nat} {rows:List (List D)} {row:List D} {v:D} (ho:h[o]?=some (.row T sz rows)) (hr:rows[kk]?=some row) (hv:(a0B v).length=1) (hl:off+1≤row.length) (hk:v.okv=true) {β:Type} {f:Hp→Option β} {Q:β→Prop}
  (k:∀ h',h'[o]?=some (.row T sz (rows.set kk (spl row off (a0B v))))→Same o h h'→Wp (f h') Q):Wp ((a0h tab h a0C (.ptr o kk off) v).bind f) Q := 
 by rw [show a0h tab h a0C (.ptr o kk off) v=pSt 1 h (.ptr o kk off) v from rfl];exact a3v ho hr hv hl hk k
theorem b1X {h:Hp} {n0:Nat} (hn0:n0≤h.length) {rows:List (List D)} {x y:D} (hx:Own h n0 a0L 11 rows x) {ys:List (List D)} (hy:a1R h 11 y=some ys) (hl:(rows.length+ys.length)*144≤140737488355328) {β:Type} {f:D × Hp→Option β} {Q:β→Prop}
  (k:∀ x' h',Own h' n0 a0L 11 (rows++ys) x'→h.length≤h'.length→(∀ q,q<n0→h'[q]?=h[q]?)→(∀ q,q<h.length→¬ x.inOb q→h'[q]?=h[q]?)→(∀ q,x'.inOb q→x.inOb q∨h.length≤q)→Wp (f (x',h')) Q):Wp ((a0F tab h a1x a1x x y).bind f) Q := 
 a8O (T:=tab) (i:=c4t) (j:=d3o) (id rfl) (id rfl) (id rfl) (by decide) hn0 hx hy (a6A hl (by omega)) k
@[simp] theorem a3Z (o k f:Nat):a0a tab a1Q 0 (.ptr o k f)=some (.ptr o k (f+0)):=id rfl
@[simp] theorem a4N (d0:D) (n1:Int) (b2:Bool) (h0:d0.one=true):a0M tab a0l [0,1,2] [d0,.int .i64 n1,.bool b2]=some (.agg [d0,.int .i64 n1,.bool b2]):=by
 have c0:=a0z h0
 refine b0O (T:=tab) (i:=ti1108) (fs:=[(22,0,1),(3,1,1),(4,2,1)]) (id rfl) (id rfl) ?_
 rw [show ti1108.zero=[.nils,.int .i64 0,.bool false] from id rfl]
 rw [a1I (off:=0) (sz:=1) (id rfl) (by rw [c0.1];rfl) (by simp [spl,a1t,a1u,a1f,a1s]) c0.2,c0.1]
 rw [a1I (off:=1) (sz:=1) (id rfl) (id rfl) (by simp [spl,a1t,a1u,a1f,a1s]) (id rfl)]
 rw [a1I (off:=2) (sz:=1) (id rfl) (id rfl) (by simp [spl,a1t,a1u,a1f,a1s]) (id rfl)]
 exact id rfl
theorem b9m {h:Hp} {o T sz kk off:Nat} {rows:List (List D)} {row:List D} {v:D} (ho:h[o]?=some (.row T sz rows)) (hr:rows[kk]?=some row) (hv:(a0B v).length=3) (hl:off+3≤row.length) (hk:v.okv=true) {β:Type} {f:Hp→Option β} {Q:β→Prop}
  (k:∀ h',h'[o]?=some (.row T sz (rows.set kk (spl row off (a0B v))))→Same o h h'→Wp (f h') Q):Wp ((a0h tab h a0l (.ptr o kk off) v).bind f) Q := 
 by rw [show a0h tab h a0l (.ptr o kk off) v=pSt 3 h (.ptr o kk off) v from rfl];exact a3v ho hr hv hl hk k
@[simp] theorem a3w (k:IntKind) (n:Int):a1B tab a0V ty3 (.int k n)=some (.int .i64 (IntKind.wrap .i64 n)):=id rfl
@[simp] theorem c6u (n0:Int):a0X tab a3M 1 [0] [.int .i64 n0]=some (.sl 1 true [[.int .i64 n0]]):=id rfl
theorem d3F {h:Hp} {n0:Nat} (hn0:n0≤h.length) {rows:List (List D)} {x y:D} (hx:Own h n0 ty3 1 rows x) {ys:List (List D)} (hy:a1R h 1 y=some ys) (hl:(rows.length+ys.length)*8≤140737488355328) {β:Type} {f:D × Hp→Option β} {Q:β→Prop}
  (k:∀ x' h',Own h' n0 ty3 1 (rows++ys) x'→h.length≤h'.length→(∀ q,q<n0→h'[q]?=h[q]?)→(∀ q,q<h.length→¬ x.inOb q→h'[q]?=h[q]?)→(∀ q,x'.inOb q→x.inOb q∨h.length≤q)→Wp (f (x',h')) Q):Wp ((a0F tab h a3M a3M x y).bind f) Q := 
 a8O (T:=tab) (i:=d3q) (j:=ti3) (id rfl) (id rfl) (id rfl) (by decide) hn0 hx hy (a6A hl (by omega)) k
theorem c4D {h:Hp} {o T sz kk off:Nat} {rows:List (List D)} {row:List D} {v:D} (ho:h[o]?=some (.row T sz rows)) (hr:rows[kk]?=some row) (hv:(a0B v).length=3) (hl:off+3≤row.length) (hk:v.okv=true) {β:Type} {f:Hp→Option β} {Q:β→Prop}
  (k:∀ h',h'[o]?=some (.row T sz (rows.set kk (spl row off (a0B v))))→Same o h h'→Wp (f h') Q):Wp ((a0h tab h a2Q (.ptr o kk off) v).bind f) Q := 
 by rw [show a0h tab h a2Q (.ptr o kk off) v=pSt 3 h (.ptr o kk off) v from rfl];exact a3v ho hr hv hl hk k
@[simp] theorem c7q {α:Type} {f:α→List D} {l:List α} {d:D} (h:SlOf 1 f l d):a0y tab a3d d=some (.int .i64 l.length) := 
 by
  rcases h with ⟨rfl,rfl⟩ | ⟨b,rfl⟩
  ·rfl
  ·show some (D.int .i64 ((l.map f).length:Nat))=_;simp
@[simp] theorem d2j (z:Nat) (f:Bool) (rows:List (List D)):a0y tab a3d (.sl z f rows)=some (.int .i64 rows.length):=id rfl
@[simp] theorem d3S (f:Bool) (rows:List (List D)) (i:Int):a0c tab a3d (.sl 1 f rows) (.int .i64 i)=if 0≤i then (rows[i.toNat]?).map .fptr else none:=by show (if 1=1∧0≤i then (match rows[i.toNat]? with | some row=>some (D.fptr row) | none=>none) else none)=_;by_cases h:0≤i <;> simp [h] <;> cases rows[i.toNat]? <;> rfl
@[simp] theorem d1V {α:Type} {f:α→List D} {l:List α} {d:D} (h:SlOf 1 f l d) (i:Int):a0c tab a3d d (.int .i64 i)=if 0≤i then (l[i.toNat]?).map fun p => .fptr (f p) else none := 
 by
  rcases h with ⟨rfl,rfl⟩ | ⟨b,rfl⟩
  ·show none=_;simp
  ·rw [d3S];simp [Function.comp_def]
@[simp] theorem ld9 (c:D) (cs:List D) (h:Hp):a0b tab h ty9 (.fptr (c::cs))=some c:=id rfl
@[simp] theorem b2C (h:Hp) (o k f:Nat):a0b tab h ty9 (.ptr o k f)=(h.row o k).bind fun row=>(row.drop f).head?:=by show (match h.row o k with | some row=>_ | none=>none)=_;cases h.row o k <;> rfl
def lt98_33:List (List UInt8):=[[97],[98],[32],[49],[117,115,101,114],[61],[34],[55],[46],[44],[120,32,121],[49,48,46,50],[45],[195,169],[91],[105,100],[9],[58]]
@[simp] theorem b5Y:a0X tab a3d 18 [0,1,2,3,4,5,6,7,8,9,10,11,12,13,14,15,16,17] [.str [97],.str [98],.str [32],.str [49],.str [117,115,101,114],.str [61],.str [34],.str [55],.str [46],.str [44],.str [120,32,121],.str [49,48,46,50],.str [45],.str [195,169],.str [91],.str [105,100],.str [9],.str [58]]=some (.sl 1 true (lt98_33.map fun s=>[.str s])):=id rfl
def lt82_14:List Int:=[1,1,2,5040]
@[simp] theorem b5E:a0X tab a3M 4 [0,1,2,3] [.int .i64 1,.int .i64 1,.int .i64 2,.int .i64 5040]=some (.sl 1 true (lt82_14.map fun n=>[.int .i64 n])):=id rfl
def lt98_15:List (List UInt8):=[[],[116,49],[116,50],[105,100]]
@[simp] theorem b5G:a0X tab a3d 4 [0,1,2,3] [.str [],.str [116,49],.str [116,50],.str [105,100]]=some (.sl 1 true (lt98_15.map fun s=>[.str s])):=id rfl
def lt98_16:List (List UInt8):=[[109,97,105,110],[97,117,100,105,116]]
@[simp] theorem b5H:a0X tab a3d 2 [0,1] [.str [109,97,105,110],.str [97,117,100,105,116]]=some (.sl 1 true (lt98_16.map fun s=>[.str s])):=id rfl
@[simp] theorem a5x (n0:Int) (n1:Int) (n2:Int) (n3:Int) (n4:Int) (s5:List UInt8) (s6:List UInt8) (d7:D) (h7:d7.one=true):a0M tab a0E [0,1,2,5,6,7,8,9] [.int .i64 n0,.int .i64 n1,.int .i64 n2,.int .i64 n3,.int .i64 n4,.str s5,.str s6,d7]=some (.agg [.int .i64 n0,.int .i64 n1,.int .i64 n2,.int .i64 0,.nils,.int .i64 n3,.int .i64 n4,.str s5,.str s6,d7]):=by
 have c7:=a0z h7
 refine b0O (T:=tab) (i:=ti31) (fs:=[(3,0,1),(3,1,1),(3,2,1),(3,3,1),(36,4,1),(3,5,1),(3,6,1),(9,7,1),(9,8,1),(37,9,1)]) (id rfl) (id rfl) ?_
 rw [show ti31.zero=[.int .i64 0,.int .i64 0,.int .i64 0,.int .i64 0,.nils,.int .i64 0,.int .i64 0,.str [],.str [],.nils] from id rfl]
 rw [a1I (off:=0) (sz:=1) (id rfl) (id rfl) (by simp [spl,a1t,a1u,a1f,a1s]) (id rfl)]
 rw [a1I (off:=1) (sz:=1) (id rfl) (id rfl) (by simp [spl,a1t,a1u,a1f,a1s]) (id rfl)]
 rw [a1I (off:=2) (sz:=1) (id rfl) (id rfl) (by simp [spl,a1t,a1u,a1f,a1s]) (id rfl)]
 rw [a1I (off:=5) (sz:=1) (id rfl) (id rfl) (by simp [spl,a1t,a1u,a1f,a1s]) (id rfl)]
 rw [a1I (off:=6) (sz:=1) (id rfl) (id rfl) (by simp [spl,a1t,a1u,a1f,a1s]) (id rfl)]
 rw [a1I (off:=7) (sz:=1) (id rfl) (id rfl) (by simp [spl,a1t,a1u,a1f,a1s]) (id rfl)]
 rw [a1I (off:=8) (sz:=1) (id rfl) (id rfl) (by simp [spl,a1t,a1u,a1f,a1s]) (id rfl)]
 rw [a1I (off:=9) (sz:=1) (id rfl) (by rw [c7.1];rfl) (by simp [spl,a1t,a1u,a1f,a1s]) c7.2,c7.1]
 exact id rfl
@[simp] theorem c9t (k:IntKind) (n:Int):a1B tab ty3 ty5 (.int k n)=some (.int .u8 (IntKind.wrap .u8 n)):=id rfl
@[simp] theorem b9C (d0:D) (h0:d0.one=true):a0M tab a2y [0] [d0]=some (.agg [d0]):=by
 have c0:=a0z h0
 refine b0O (T:=tab) (i:=ti1101) (fs:=[(22,0,1)]) (id rfl) (id rfl) ?_
 rw [show ti1101.zero=[.nils] from id rfl]
 rw [a1I (off:=0) (sz:=1) (id rfl) (by rw [c0.1];rfl) (by simp [spl,a1t,a1u,a1f,a1s]) c0.2,c0.1]
 exact id rfl
@[simp] theorem a6p (o k f:Nat):a0a tab a2y 0 (.ptr o k f)=some (.ptr o k (f+0)):=id rfl
theorem c8V {h:Hp} {o T sz kk off:Nat} {rows:List (List D)} {row:List D} {v:D} (ho:h[o]?=some (.row T sz rows)) (hr:rows[kk]?=some row) (hv:(a0B v).length=1) (hl:off+1≤row.length) (hk:v.okv=true) {β:Type} {f:Hp→Option β} {Q:β→Prop}
  (k:∀ h',h'[o]?=some (.row T sz (rows.set kk (spl row off (a0B v))))→Same o h h'→Wp (f h') Q):Wp ((a0h tab h ty4 (.ptr o kk off) v).bind f) Q := 
 by rw [show a0h tab h ty4 (.ptr o kk off) v=pSt 1 h (.ptr o kk off) v from rfl];exact a3v ho hr hv hl hk k
theorem c1k {h:Hp} {o T sz kk off:Nat} {rows:List (List D)} {row:List D} {v:D} (ho:h[o]?=some (.row T sz rows)) (hr:rows[kk]?=some row) (hv:(a0B v).length=1) (hl:off+1≤row.length) (hk:v.okv=true) {β:Type} {f:Hp→Option β} {Q:β→Prop}
  (k:∀ h',h'[o]?=some (.row T sz (rows.set kk (spl row off (a0B v))))→Same o h h'→Wp (f h') Q):Wp ((a0h tab h a0N (.ptr o kk off) v).bind f) Q := 
 by rw [show a0h tab h a0N (.ptr o kk off) v=pSt 1 h (.ptr o kk off) v from rfl];exact a3v ho hr hv hl hk k
@[simp] theorem c3z (h:Hp) (o k f:Nat):a0b tab h a0l (.ptr o k f)=(h.row o k).bind fun row=>a8N 3 (row.drop f):=by show (match h.row o k with | some row=>_ | none=>none)=_;cases h.row o k <;> rfl
@[simp] theorem a2T (o k f:Nat):a0a tab a0l 2 (.ptr o k f)=some (.ptr o k (f+2)):=id rfl
@[simp] theorem a6r (o k f:Nat):a0a tab a0l 0 (.ptr o k f)=some (.ptr o k (f+0)):=id rfl
@[simp] theorem a3F (o k f:Nat):a0a tab a0l 1 (.ptr o k f)=some (.ptr o k (f+1)):=id rfl
@[simp] theorem a8P (d0:D) (b1:Bool) (h0:d0.one=true):a0M tab a0l [0,2] [d0,.bool b1]=some (.agg [d0,.int .i64 0,.bool b1]):=by
 have c0:=a0z h0
 refine b0O (T:=tab) (i:=ti1108) (fs:=[(22,0,1),(3,1,1),(4,2,1)]) (id rfl) (id rfl) ?_
 rw [show ti1108.zero=[.nils,.int .i64 0,.bool false] from id rfl]
 rw [a1I (off:=0) (sz:=1) (id rfl) (by rw [c0.1];rfl) (by simp [spl,a1t,a1u,a1f,a1s]) c0.2,c0.1]
 rw [a1I (off:=2) (sz:=1) (id rfl) (id rfl) (by simp [spl,a1t,a1u,a1f,a1s]) (id rfl)]
 exact id rfl
@[simp] theorem b9H (a0 b0:Int) (a1 b1:Int):a0m tab .neq a0K (.agg [.int .i64 a0,.int .i64 a1]) (.agg [.int .i64 b0,.int .i64 b1])=some (.bool (!(a0==b0&&(a1==b1&&true)))):=id rfl
def lt98_17:List (List UInt8):=[[97],[105,100],[108,101,118,101,108],[117,115,101,114]]
@[simp] theorem b2H:lt98_17.length=4:=id rfl
@[simp] theorem b5I:a0X tab a3d 4 [0,1,2,3] [.str [97],.str [105,100],.str [108,101,118,101,108],.str [117,115,101,114]]=some (.sl 1 true (lt98_17.map fun s=>[.str s])):=id rfl
def lt98_18:List (List UInt8):=[[],[49],[105,110,102,111],[119,97,114,110],[97,110,110],[50,46,53,48],[116,114,117,101],[116,49]]
@[simp] theorem b5J:a0X tab a3d 8 [0,1,2,3,4,5,6,7] [.str [],.str [49],.str [105,110,102,111],.str [119,97,114,110],.str [97,110,110],.str [50,46,53,48],.str [116,114,117,101],.str [116,49]]=some (.sl 1 true (lt98_18.map fun s=>[.str s])):=id rfl
@[simp] theorem d3O (c0 c1 c2:D) (cs:List D):a0a tab a1o 2 (.fptr (c0::c1::c2::cs))=some (.fptr (c2::cs)):=id rfl
@[simp] theorem a3q (o k f:Nat):a0a tab a1o 2 (.ptr o k f)=some (.ptr o k (f+2)):=id rfl
@[simp] theorem a4W (s:List UInt8):a0y tab ty9 (.str s)=some (.int .i64 s.length):=id rfl
@[simp] theorem b2o (o k f:Nat):a0a tab a0E 8 (.ptr o k f)=some (.ptr o k (f+8)):=id rfl
@[simp] theorem a2w {α:Type} {f:α→List D} {l:List α} {d:D} (h:SlOf 2 f l d):a0y tab a1e d=some (.int .i64 l.length) := 
 by
  rcases h with ⟨rfl,rfl⟩ | ⟨b,rfl⟩
  ·rfl
  ·show some (D.int .i64 ((l.map f).length:Nat))=_;simp
theorem c1L {h:Hp} {n0 e z:Nat} {rows:List (List D)} {d:D} (hd:Own h n0 e z rows d):a0y tab a1e d=some (.int .i64 rows.length):=by
 rcases hd with ⟨rfl,rfl⟩ | ⟨o,_,rfl,_⟩ <;> rfl
@[simp] theorem c1K (z o r n:Nat):a0y tab a1e (.msl z o r n)=some (.int .i64 n):=id rfl
@[simp] theorem c7o:a0y tab a1e .nils=some (.int .i64 0):=id rfl
@[simp] theorem b3C (d0:D) (d1:D) (d2:D) (d3:D) (h0:d0.one=true) (h1:d1.one=true) (h2:d2.one=true) (h3:d3.one=true):a0X tab a6G 4 [0,1,2,3] [d0,d1,d2,d3]=some (.sl 1 true [[d0],[d1],[d2],[d3]]):=c0K (T:=tab) (t:=a6G) (n:=4) (i:=b9i) (j:=b9h) (id rfl) (id rfl) (id rfl) (id rfl) [d0,d1,d2,d3] rfl (by decide) (by simp [h0,h1,h2,h3])
@[simp] theorem b7U (z:Nat) (f:Bool) (rows:List (List D)):a0y tab a6G (.sl z f rows)=some (.int .i64 rows.length):=id rfl
@[simp] theorem b1z (f:Bool) (rows:List (List D)) (i:Int):a0c tab a6G (.sl 1 f rows) (.int .i64 i)=if 0≤i then (rows[i.toNat]?).map .fptr else none:=by show (if 1=1∧0≤i then (match rows[i.toNat]? with | some row=>some (D.fptr row) | none=>none) else none)=_;by_cases h:0≤i <;> simp [h] <;> cases rows[i.toNat]? <;> rfl
@[simp] theorem b1B (c:D) (cs:List D) (h:Hp):a0b tab h c2o (.fptr (c::cs))=some c:=id rfl
@[simp] theorem d6u (f:Bool) (rows:List (List D)) (i:Int):a0c tab a1e (.sl 2 f rows) (.int .i64 i)=if 0≤i then (rows[i.toNat]?).map .fptr else none:=by show (if 2=2∧0≤i then (match rows[i.toNat]? with | some row=>some (D.fptr row) | none=>none) else none)=_;by_cases h:0≤i <;> simp [h] <;> cases rows[i.toNat]? <;> rfl
@[simp] theorem a8J (o r n:Nat) (i:Int):a0c tab a1e (.msl 2 o r n) (.int .i64 i)=if 0≤i∧i<n then some (.ptr o (r+i.toNat) 0) else none:=by show (if 2=2∧0≤i∧i<n then some (D.ptr o (r+i.toNat) 0) else none)=_;simp
@[simp] theorem a8K {α:Type} {f:α→List D} {l:List α} {d:D} (h:SlOf 2 f l d) (i:Int):a0c tab a1e d (.int .i64 i)=if 0≤i then (l[i.toNat]?).map fun p => .fptr (f p) else none := 
 by
  rcases h with ⟨rfl,rfl⟩ | ⟨b,rfl⟩
  ·show none=_;simp
  ·rw [d6u];simp [Function.comp_def]
@[simp] theorem a6o (o k f:Nat):a0a tab a0x 0 (.ptr o k f)=some (.ptr o k (f+0)):=id rfl
@[simp] theorem d1e (c0 c1:D) (cs:List D):a0a tab a0x 1 (.fptr (c0::c1::cs))=some (.fptr (c1::cs)):=id rfl
@[simp] theorem b0c (o k f:Nat):a0a tab a0x 1 (.ptr o k f)=some (.ptr o k (f+1)):=id rfl
@[simp] theorem b9D (d0:D) (h0:d0.one=true):a0M tab a2a [0] [d0]=some (.agg [d0,.bool false]):=by
 have c0:=a0z h0
 refine b0O (T:=tab) (i:=ti1106) (fs:=[(22,0,1),(4,1,1)]) (id rfl) (id rfl) ?_
 rw [show ti1106.zero=[.nils,.bool false] from id rfl]
 rw [a1I (off:=0) (sz:=1) (id rfl) (by rw [c0.1];rfl) (by simp [spl,a1t,a1u,a1f,a1s]) c0.2,c0.1]
 exact id rfl
@[simp] theorem a6q (o k f:Nat):a0a tab a2a 1 (.ptr o k f)=some (.ptr o k (f+1)):=id rfl
@[simp] theorem a2I (o k f:Nat):a0a tab a2a 0 (.ptr o k f)=some (.ptr o k (f+0)):=id rfl
def lt98_19:List (List UInt8):=[[49],[50],[57]]
@[simp] theorem b5K:a0X tab a3d 3 [0,1,2] [.str [49],.str [50],.str [57]]=some (.sl 1 true (lt98_19.map fun s=>[.str s])):=id rfl
def lt98_20:List (List UInt8):=[[48],[53]]
@[simp] theorem b5L:a0X tab a3d 2 [0,1] [.str [48],.str [53]]=some (.sl 1 true (lt98_20.map fun s=>[.str s])):=id rfl
def lt98_21:List (List UInt8):=[[49],[50]]
@[simp] theorem b5M:a0X tab a3d 2 [0,1] [.str [49],.str [50]]=some (.sl 1 true (lt98_21.map fun s=>[.str s])):=id rfl
def lt98_22:List (List UInt8):=[[105,110,102,111],[119,97,114,110]]
@[simp] theorem b5N:a0X tab a3d 2 [0,1] [.str [105,110,102,111],.str [119,97,114,110]]=some (.sl 1 true (lt98_22.map fun s=>[.str s])):=id rfl
def lt98_23:List (List UInt8):=[[55],[116,49],[116,50]]
@[simp] theorem b5O:a0X tab a3d 3 [0,1,2] [.str [55],.str [116,49],.str [116,50]]=some (.sl 1 true (lt98_23.map fun s=>[.str s])):=id rfl
def lt98_24:List (List UInt8):=[[105,110,102,111],[119,97,114,110],[100,101,98,117,103]]
@[simp] theorem b5P:a0X tab a3d 3 [0,1,2] [.str [105,110,102,111],.str [119,97,114,110],.str [100,101,98,117,103]]=some (.sl 1 true (lt98_24.map fun s=>[.str s])):=id rfl
def lt98_25:List (List UInt8):=[[97,110,110],[98,111,98]]
@[simp] theorem b5Q:a0X tab a3d 2 [0,1] [.str [97,110,110],.str [98,111,98]]=some (.sl 1 true (lt98_25.map fun s=>[.str s])):=id rfl
def lt98_26:List (List UInt8):=[[49,48,46,50],[49,48,46,51],[55,46,55]]
@[simp] theorem b5R:a0X tab a3d 3 [0,1,2] [.str [49,48,46,50],.str [49,48,46,51],.str [55,46,55]]=some (.sl 1 true (lt98_26.map fun s=>[.str s])):=id rfl
def lt98_27:List (List UInt8):=[[102],[103]]
@[simp] theorem b5S:a0X tab a3d 2 [0,1] [.str [102],.str [103]]=some (.sl 1 true (lt98_27.map fun s=>[.str s])):=id rfl
def lt98_28:List (List UInt8):=[[40,49,41],[40,50,50,41]]
@[simp] theorem b5T:a0X tab a3d 2 [0,1] [.str [40,49,41],.str [40,50,50,41]]=some (.sl 1 true (lt98_28.map fun s=>[.str s])):=id rfl
def lt98_29:List (List UInt8):=[[97,110,110],[98,111,98],[101,118,101]]
@[simp] theorem b5U:a0X tab a3d 3 [0,1,2] [.str [97,110,110],.str [98,111,98],.str [101,118,101]]=some (.sl 1 true (lt98_29.map fun s=>[.str s])):=id rfl
def lt98_30:List (List UInt8):=[[105,110],[111,117,116]]
@[simp] theorem b5V:a0X tab a3d 2 [0,1] [.str [105,110],.str [111,117,116]]=some (.sl 1 true (lt98_30.map fun s=>[.str s])):=id rfl
def lt98_31:List (List UInt8):=[[49],[45,50,48],[116,114,117,101]]
@[simp] theorem b5W:a0X tab a3d 3 [0,1,2] [.str [49],.str [45,50,48],.str [116,114,117,101]]=some (.sl 1 true (lt98_31.map fun s=>[.str s])):=id rfl
def lt98_32:List (List UInt8):=[[111,107],[102,97,105,108,101,100]]
@[simp] theorem b5X:a0X tab a3d 2 [0,1] [.str [111,107],.str [102,97,105,108,101,100]]=some (.sl 1 true (lt98_32.map fun s=>[.str s])):=id rfl
@[simp] theorem b4A (h:Hp) (o k f:Nat):a0b tab h a0x (.ptr o k f)=(h.row o k).bind fun row=>a8N 2 (row.drop f):=by show (match h.row o k with | some row=>_ | none=>none)=_;cases h.row o k <;> rfl
@[simp] theorem d3M (a0 b0:Int) (a1 b1:Int) (a2 b2:List UInt8):a0m tab .neq a1o (.agg [.int .i64 a0,.int .i64 a1,.str a2]) (.agg [.int .i64 b0,.int .i64 b1,.str b2])=some (.bool (!(a0==b0&&(a1==b1&&(a2==b2&&true))))):=id rfl
@[simp] theorem c9j (a0 b0:List UInt8) (a1 b1:List UInt8):a0m tab .neq a0x (.agg [.str a0,.str a1]) (.agg [.str b0,.str b1])=some (.bool (!(a0==b0&&(a1==b1&&true)))):=id rfl
theorem a5J {h:Hp} {o T sz kk off:Nat} {rows:List (List D)} {row:List D} {v:D} (ho:h[o]?=some (.row T sz rows)) (hr:rows[kk]?=some row) (hv:(a0B v).length=2) (hl:off+2≤row.length) (hk:v.okv=true) {β:Type} {f:Hp→Option β} {Q:β→Prop}
  (k:∀ h',h'[o]?=some (.row T sz (rows.set kk (spl row off (a0B v))))→Same o h h'→Wp (f h') Q):Wp ((a0h tab h a0x (.ptr o kk off) v).bind f) Q := 
 by rw [show a0h tab h a0x (.ptr o kk off) v=pSt 2 h (.ptr o kk off) v from rfl];exact a3v ho hr hv hl hk k
@[simp] theorem c6t  : a0X tab a1e 0 [] []=some (.sl 2 true []):=id rfl
@[simp] theorem a9T (k:IntKind) (n:Int):a1B tab a5W ty3 (.int k n)=some (.int .i64 (IntKind.wrap .i64 n)):=id rfl
@[simp] theorem b9B (n0:Int):a0M tab a0K [0] [.int .i64 n0]=some (.agg [.int .i64 n0,.int .i64 0]):=id rfl
@[simp] theorem b6C (h:Hp) (x0_0 x0_1 x0_2:D) (x1_0 x1_1 x1_2:D):b9p tab h a8y 2 [0,1] [.agg [x0_0,x0_1,x0_2],.agg [x1_0,x1_1,x1_2]]=some (.msl 3 h.length 0 2,a0H h a0f 3 [[x0_0,x0_1,x0_2],[x1_0,x1_1,x1_2]]):=id rfl
@[simp] theorem c0H (z o r n:Nat):a0y tab a8y (.msl z o r n)=some (.int .i64 n):=id rfl
@[simp] theorem c3s (o r n:Nat) (i:Int):a0c tab a8y (.msl 3 o r n) (.int .i64 i)=if 0≤i∧i<n then some (.ptr o (r+i.toNat) 0) else none:=by show (if 3=3∧0≤i∧i<n then some (D.ptr o (r+i.toNat) 0) else none)=_;simp
@[simp] theorem b3J (k:IntKind) (n:Int):a1B tab b9j ty3 (.int k n)=some (.int .i64 (IntKind.wrap .i64 n)):=id rfl
theorem d6V {h:Hp} {o T sz kk off:Nat} {rows:List (List D)} {row:List D} {v:D} (ho:h[o]?=some (.row T sz rows)) (hr:rows[kk]?=some row) (hv:(a0B v).length=1) (hl:off+1≤row.length) (hk:v.okv=true) {β:Type} {f:Hp→Option β} {Q:β→Prop}
  (k:∀ h',h'[o]?=some (.row T sz (rows.set kk (spl row off (a0B v))))→Same o h h'→Wp (f h') Q):Wp ((a0h tab h ty5 (.ptr o kk off) v).bind f) Q := 
 by rw [show a0h tab h ty5 (.ptr o kk off) v=pSt 1 h (.ptr o kk off) v from rfl];exact a3v ho hr hv hl hk k
@[simp] theorem b6B (h:Hp) (d0:D) (d1:D) (d2:D) (d3:D) (d4:D) (d5:D) (h0:d0.one=true) (h1:d1.one=true) (h2:d2.one=true) (h3:d3.one=true) (h4:d4.one=true) (h5:d5.one=true):b9p tab h a5h 6 [0,1,2,3,4,5] [d0,d1,d2,d3,d4,d5]=some (.msl 1 h.length 0 6,a0H h a0N 1 [[d0],[d1],[d2],[d3],[d4],[d5]]):=b8a (T:=tab) (t:=a5h) (n:=6) (i:=b9d) (j:=ti22) (id rfl) (id rfl) (id rfl) (id rfl) h [d0,d1,d2,d3,d4,d5] rfl (by decide) (by simp [h0,h1,h2,h3,h4,h5])
@[simp] theorem c0F (z o r n:Nat):a0y tab a5h (.msl z o r n)=some (.int .i64 n):=id rfl
@[simp] theorem c3q (o r n:Nat) (i:Int):a0c tab a5h (.msl 1 o r n) (.int .i64 i)=if 0≤i∧i<n then some (.ptr o (r+i.toNat) 0) else none:=by show (if 1=1∧0≤i∧i<n then some (D.ptr o (r+i.toNat) 0) else none)=_;simp
@[simp] theorem a4o (d:D) (xs:List D) (h:Hp):a3e tab R "logtide/event.count" (.iface a5i d::xs) h=R b7x (d::xs) h:=by kernel_rfl
@[simp] theorem a2J (d:D) (xs:List D) (h:Hp):a3e tab R "logtide/event.number" (.iface a5i d::xs) h=R b7y (d::xs) h:=by kernel_rfl
@[simp] theorem a3O (d:D) (xs:List D) (h:Hp):a3e tab R "logtide/event.text" (.iface a5i d::xs) h=R b7z (d::xs) h:=by kernel_rfl
@[simp] theorem a4p (d:D) (xs:List D) (h:Hp):a3e tab R "logtide/event.count" (.iface a4j d::xs) h=R b4k (d::xs) h:=by kernel_rfl
@[simp] theorem a1Y (d:D) (xs:List D) (h:Hp):a3e tab R "logtide/event.number" (.iface a4j d::xs) h=R b4l (d::xs) h:=by kernel_rfl
@[simp] theorem a3k (d:D) (xs:List D) (h:Hp):a3e tab R "logtide/event.text" (.iface a4j d::xs) h=R b4m (d::xs) h:=by kernel_rfl
end Go.Proofs.YtjmndhbabkjebaaGreatDoor

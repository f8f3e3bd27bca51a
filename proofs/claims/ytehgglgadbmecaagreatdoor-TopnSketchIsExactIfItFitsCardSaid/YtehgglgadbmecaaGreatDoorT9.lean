/- Operations at the types of this seat. -/
import Derived.Test.YtehgglgadbmecaaGreatDoorC9
import Derived.Test.YtehgglgadbmecaaGreatDoorPiZ
set_option linter.unusedSimpArgs false
set_option linter.unusedVariables false
set_option linter.unnecessarySimpa false
set_option maxRecDepth 20000
set_option maxHeartbeats 2000000
namespace Go.Proofs.YtehgglgadbmecaaGreatDoor
open Go.Eng Go.Pi
@[simp] theorem b0O (d0:D) (d1:D) (h0:d0.one=true) (h1:d1.one=true):a0P tab a0k [0,1] [d0,d1]=some (.agg [d0,d1,.int .i64 0]):=by
 have c0:=a1d h0
 have c1:=a1d h1
 refine b1A (T:=tab) (i:=ti1146) (fs:=[(24,0,1),(46,1,1),(3,2,1)]) (id rfl) (id rfl) ?_
 rw [show ti1146.zero=[.nils,.nils,.int .i64 0] from id rfl]
 rw [a1N (off:=0) (sz:=1) (id rfl) (by rw [c0.1];rfl) (by simp [spl,a1y,a1z,a1k,a1x]) c0.2,c0.1]
 rw [a1N (off:=1) (sz:=1) (id rfl) (by rw [c1.1];rfl) (by simp [spl,a1y,a1z,a1k,a1x]) c1.2,c1.1]
 exact id rfl
@[simp] theorem b4r (x0_0 x0_1 x0_2:D) (x1_0 x1_1 x1_2:D):a0A tab a0t 2 [0,1] [.agg [x0_0,x0_1,x0_2],.agg [x1_0,x1_1,x1_2]]=some (.sl 3 true [[x0_0,x0_1,x0_2],[x1_0,x1_1,x1_2]]):=id rfl
@[simp] theorem a2L {α:Type} {f:α→List D} {l:List α} {d:D} (h:SlOf 3 f l d):a0w tab a0t d=some (.int .i64 l.length) := 
 by
  rcases h with ⟨rfl,rfl⟩ | ⟨b,rfl⟩
  ·rfl
  ·show some (D.int .i64 ((l.map f).length:Nat))=_;simp
@[simp] theorem b0x (z o r n:Nat):a0w tab a0t (.msl z o r n)=some (.int .i64 n):=id rfl
@[simp] theorem c0E (f:Bool) (rows:List (List D)) (i:Int):a0a tab a0t (.sl 3 f rows) (.int .i64 i)=if 0≤i then (rows[i.toNat]?).map .fptr else none:=by show (if 3=3∧0≤i then (match rows[i.toNat]? with | some row=>some (D.fptr row) | none=>none) else none)=_;by_cases h:0≤i <;> simp [h] <;> cases rows[i.toNat]? <;> rfl
@[simp] theorem a6Q (o r n:Nat) (i:Int):a0a tab a0t (.msl 3 o r n) (.int .i64 i)=if 0≤i∧i<n then some (.ptr o (r+i.toNat) 0) else none:=by show (if 3=3∧0≤i∧i<n then some (D.ptr o (r+i.toNat) 0) else none)=_;simp
@[simp] theorem a8L {α:Type} {f:α→List D} {l:List α} {d:D} (h:SlOf 3 f l d) (i:Int):a0a tab a0t d (.int .i64 i)=if 0≤i then (l[i.toNat]?).map fun p => .fptr (f p) else none := 
 by
  rcases h with ⟨rfl,rfl⟩ | ⟨b,rfl⟩
  ·show none=_;simp
  ·rw [c0E];simp [Function.comp_def]
@[simp] theorem c4i (h:Hp) (o k f:Nat):a0c tab h a0V (.ptr o k f)=(h.row o k).bind fun row=>(row.drop f).head?:=by show (match h.row o k with | some row=>_ | none=>none)=_;cases h.row o k <;> rfl
@[simp] theorem a8e {α:Type} {f:α→List D} {l:List α} {d:D} (h:SlOf 1 f l d):a0w tab a0V d=some (.int .i64 l.length) := 
 by
  rcases h with ⟨rfl,rfl⟩ | ⟨b,rfl⟩
  ·rfl
  ·show some (D.int .i64 ((l.map f).length:Nat))=_;simp
@[simp] theorem c8D (f:Bool) (rows:List (List D)) (i:Int):a0a tab a0V (.sl 1 f rows) (.int .i64 i)=if 0≤i then (rows[i.toNat]?).map .fptr else none:=by show (if 1=1∧0≤i then (match rows[i.toNat]? with | some row=>some (D.fptr row) | none=>none) else none)=_;by_cases h:0≤i <;> simp [h] <;> cases rows[i.toNat]? <;> rfl
@[simp] theorem b1a {α:Type} {f:α→List D} {l:List α} {d:D} (h:SlOf 1 f l d) (i:Int):a0a tab a0V d (.int .i64 i)=if 0≤i then (l[i.toNat]?).map fun p => .fptr (f p) else none := 
 by
  rcases h with ⟨rfl,rfl⟩ | ⟨b,rfl⟩
  ·show none=_;simp
  ·rw [c8D];simp [Function.comp_def]
@[simp] theorem ld3 (c:D) (cs:List D) (h:Hp):a0c tab h ty3 (.fptr (c::cs))=some c:=id rfl
@[simp] theorem c8J (h:Hp) (o k f:Nat):a0c tab h ty3 (.ptr o k f)=(h.row o k).bind fun row=>(row.drop f).head?:=by show (match h.row o k with | some row=>_ | none=>none)=_;cases h.row o k <;> rfl
@[simp] theorem b6W  : a0P tab a3x [] []=some (.agg [.int .i64 0,.str []]):=id rfl
@[simp] theorem b4s (x0_0 x0_1:D):a0A tab a4v 1 [0] [.agg [x0_0,x0_1]]=some (.sl 2 true [[x0_0,x0_1]]):=id rfl
@[simp] theorem c5W (c:D) (cs:List D) (h:Hp):a0c tab h a0E (.fptr (c::cs))=some c:=id rfl
@[simp] theorem a6V {α:Type} {f:α→List D} {l:List α} {d:D} (h:SlOf 3 f l d):a0w tab a0h d=some (.int .i64 l.length) := 
 by
  rcases h with ⟨rfl,rfl⟩ | ⟨b,rfl⟩
  ·rfl
  ·show some (D.int .i64 ((l.map f).length:Nat))=_;simp
@[simp] theorem a3V (z o r n:Nat):a0w tab a0h (.msl z o r n)=some (.int .i64 n):=id rfl
@[simp] theorem c0H (f:Bool) (rows:List (List D)) (i:Int):a0a tab a0h (.sl 3 f rows) (.int .i64 i)=if 0≤i then (rows[i.toNat]?).map .fptr else none:=by show (if 3=3∧0≤i then (match rows[i.toNat]? with | some row=>some (D.fptr row) | none=>none) else none)=_;by_cases h:0≤i <;> simp [h] <;> cases rows[i.toNat]? <;> rfl
@[simp] theorem a3b (o r n:Nat) (i:Int):a0a tab a0h (.msl 3 o r n) (.int .i64 i)=if 0≤i∧i<n then some (.ptr o (r+i.toNat) 0) else none:=by show (if 3=3∧0≤i∧i<n then some (D.ptr o (r+i.toNat) 0) else none)=_;simp
@[simp] theorem b7F {α:Type} {f:α→List D} {l:List α} {d:D} (h:SlOf 3 f l d) (i:Int):a0a tab a0h d (.int .i64 i)=if 0≤i then (l[i.toNat]?).map fun p => .fptr (f p) else none := 
 by
  rcases h with ⟨rfl,rfl⟩ | ⟨b,rfl⟩
  ·show none=_;simp
  ·rw [c0H];simp [Function.comp_def]
@[simp] theorem a2K (h:Hp) (o k f:Nat):a0c tab h a0d (.ptr o k f)=(h.row o k).bind fun row=>a9a 3 (row.drop f):=by show (match h.row o k with | some row=>_ | none=>none)=_;cases h.row o k <;> rfl
theorem a2a {h:Hp} {o T sz kk off:Nat} {rows:List (List D)} {row:List D} {v:D} (ho:h[o]?=some (.row T sz rows)) (hr:rows[kk]?=some row) (hv:(a0u v).length=3) (hl:off+3≤row.length) (hk:v.okv=true) {β:Type} {f:Hp→Option β} {Q:β→Prop}
  (k:∀ h',h'[o]?=some (.row T sz (rows.set kk (spl row off (a0u v))))→Same o h h'→Wp (f h') Q):Wp ((a0s tab h a0d (.ptr o kk off) v).bind f) Q := 
 by rw [show a0s tab h a0d (.ptr o kk off) v=pSt 3 h (.ptr o kk off) v from rfl];exact a2E ho hr hv hl hk k
@[simp] theorem a7K (o k f:Nat):a0b tab a0d 1 (.ptr o k f)=some (.ptr o k (f+1)):=id rfl
@[simp] theorem b1H (n0:Int):a0A tab a0V 1 [0] [.int .i64 n0]=some (.sl 1 true [[.int .i64 n0]]):=id rfl
@[simp] theorem b2k (o k f:Nat):a0b tab a0d 2 (.ptr o k f)=some (.ptr o k (f+2)):=id rfl
@[simp] theorem a7r (d0:D) (d1:D) (n2:Int) (h0:d0.one=true) (h1:d1.one=true):a0P tab a0k [0,1,2] [d0,d1,.int .i64 n2]=some (.agg [d0,d1,.int .i64 n2]):=by
 have c0:=a1d h0
 have c1:=a1d h1
 refine b1A (T:=tab) (i:=ti1146) (fs:=[(24,0,1),(46,1,1),(3,2,1)]) (id rfl) (id rfl) ?_
 rw [show ti1146.zero=[.nils,.nils,.int .i64 0] from id rfl]
 rw [a1N (off:=0) (sz:=1) (id rfl) (by rw [c0.1];rfl) (by simp [spl,a1y,a1z,a1k,a1x]) c0.2,c0.1]
 rw [a1N (off:=1) (sz:=1) (id rfl) (by rw [c1.1];rfl) (by simp [spl,a1y,a1z,a1k,a1x]) c1.2,c1.1]
 rw [a1N (off:=2) (sz:=1) (id rfl) (id rfl) (by simp [spl,a1y,a1z,a1k,a1x]) (id rfl)]
 exact id rfl
@[simp] theorem a9F (x0_0 x0_1 x0_2:D):a0A tab a0t 1 [0] [.agg [x0_0,x0_1,x0_2]]=some (.sl 3 true [[x0_0,x0_1,x0_2]]):=id rfl
theorem b3T {h:Hp} {n0:Nat} (hn0:n0≤h.length) {rows:List (List D)} {x y:D} (hx:Own h n0 a0k 3 rows x) {ys:List (List D)} (hy:a0L h 3 y=some ys) (hl:(rows.length+ys.length)*56≤140737488355328) {β:Type} {f:D × Hp→Option β} {Q:β→Prop}
  (k:∀ x' h',Own h' n0 a0k 3 (rows++ys) x'→h.length≤h'.length→(∀ q,q<n0→h'[q]?=h[q]?)→(∀ q,q<h.length→¬ x.inOb q→h'[q]?=h[q]?)→(∀ q,x'.inOb q→x.inOb q∨h.length≤q)→Wp (f (x',h')) Q):Wp ((a0p tab h a0t a0t x y).bind f) Q := 
 a2Q (T:=tab) (i:=a5Z) (j:=ti1146) (id rfl) (id rfl) (id rfl) (by decide) hn0 hx hy (a2i hl (by omega)) k
@[simp] theorem a2c {α:Type} {f:α→List D} {l:List α} {d:D} (h:SlOf 1 f l d):a0w tab a0E d=some (.int .i64 l.length) := 
 by
  rcases h with ⟨rfl,rfl⟩ | ⟨b,rfl⟩
  ·rfl
  ·show some (D.int .i64 ((l.map f).length:Nat))=_;simp
@[simp] theorem c4j (z:Nat) (f:Bool) (rows:List (List D)):a0w tab a0E (.sl z f rows)=some (.int .i64 rows.length):=id rfl
@[simp] theorem c4g (h:Hp) (o k f:Nat):a0c tab h a0R (.ptr o k f)=(h.row o k).bind fun row=>a9a 10 (row.drop f):=by show (match h.row o k with | some row=>_ | none=>none)=_;cases h.row o k <;> rfl
@[simp] theorem b8M (f:Bool) (rows:List (List D)) (i:Int):a0a tab a0E (.sl 1 f rows) (.int .i64 i)=if 0≤i then (rows[i.toNat]?).map .fptr else none:=by show (if 1=1∧0≤i then (match rows[i.toNat]? with | some row=>some (D.fptr row) | none=>none) else none)=_;by_cases h:0≤i <;> simp [h] <;> cases rows[i.toNat]? <;> rfl
@[simp] theorem a6S {α:Type} {f:α→List D} {l:List α} {d:D} (h:SlOf 1 f l d) (i:Int):a0a tab a0E d (.int .i64 i)=if 0≤i then (l[i.toNat]?).map fun p => .fptr (f p) else none := 
 by
  rcases h with ⟨rfl,rfl⟩ | ⟨b,rfl⟩
  ·show none=_;simp
  ·rw [b8M];simp [Function.comp_def]
@[simp] theorem ld9 (c:D) (cs:List D) (h:Hp):a0c tab h ty9 (.fptr (c::cs))=some c:=id rfl
@[simp] theorem a9I (s0:List UInt8):a0A tab a0E 1 [0] [.str s0]=some (.sl 1 true [[.str s0]]):=id rfl
theorem b8A {h:Hp} {n0:Nat} (hn0:n0≤h.length) {rows:List (List D)} {x y:D} (hx:Own h n0 ty9 1 rows x) {ys:List (List D)} (hy:a0L h 1 y=some ys) (hl:(rows.length+ys.length)*16≤140737488355328) {β:Type} {f:D × Hp→Option β} {Q:β→Prop}
  (k:∀ x' h',Own h' n0 ty9 1 (rows++ys) x'→h.length≤h'.length→(∀ q,q<n0→h'[q]?=h[q]?)→(∀ q,q<h.length→¬ x.inOb q→h'[q]?=h[q]?)→(∀ q,x'.inOb q→x.inOb q∨h.length≤q)→Wp (f (x',h')) Q):Wp ((a0p tab h a0E a0E x y).bind f) Q := 
 a2Q (T:=tab) (i:=b8q) (j:=ti9) (id rfl) (id rfl) (id rfl) (by decide) hn0 hx hy (a2i hl (by omega)) k
@[simp] theorem a8M (h:Hp) (o k f:Nat):a0c tab h a0h (.ptr o k f)=(h.row o k).bind fun row=>(row.drop f).head?:=by show (match h.row o k with | some row=>_ | none=>none)=_;cases h.row o k <;> rfl
theorem b3U {h:Hp} {o T sz kk off:Nat} {rows:List (List D)} {row:List D} {v:D} (ho:h[o]?=some (.row T sz rows)) (hr:rows[kk]?=some row) (hv:(a0u v).length=1) (hl:off+1≤row.length) (hk:v.okv=true) {β:Type} {f:Hp→Option β} {Q:β→Prop}
  (k:∀ h',h'[o]?=some (.row T sz (rows.set kk (spl row off (a0u v))))→Same o h h'→Wp (f h') Q):Wp ((a0s tab h a0h (.ptr o kk off) v).bind f) Q := 
 by rw [show a0s tab h a0h (.ptr o kk off) v=pSt 1 h (.ptr o kk off) v from rfl];exact a2E ho hr hv hl hk k
theorem b8U {h:Hp} {o T sz kk off:Nat} {rows:List (List D)} {row:List D} {v:D} (ho:h[o]?=some (.row T sz rows)) (hr:rows[kk]?=some row) (hv:(a0u v).length=1) (hl:off+1≤row.length) (hk:v.okv=true) {β:Type} {f:Hp→Option β} {Q:β→Prop}
  (k:∀ h',h'[o]?=some (.row T sz (rows.set kk (spl row off (a0u v))))→Same o h h'→Wp (f h') Q):Wp ((a0s tab h ty3 (.ptr o kk off) v).bind f) Q := 
 by rw [show a0s tab h ty3 (.ptr o kk off) v=pSt 1 h (.ptr o kk off) v from rfl];exact a2E ho hr hv hl hk k
@[simp] theorem b0P (d0:D) (n1:Int) (h0:d0.one=true):a0P tab a0d [0,1] [d0,.int .i64 n1]=some (.agg [d0,.int .i64 n1,.int .i64 0]):=by
 have c0:=a1d h0
 refine b1A (T:=tab) (i:=ti1237) (fs:=[(24,0,1),(3,1,1),(3,2,1)]) (id rfl) (id rfl) ?_
 rw [show ti1237.zero=[.nils,.int .i64 0,.int .i64 0] from id rfl]
 rw [a1N (off:=0) (sz:=1) (id rfl) (by rw [c0.1];rfl) (by simp [spl,a1y,a1z,a1k,a1x]) c0.2,c0.1]
 rw [a1N (off:=1) (sz:=1) (id rfl) (id rfl) (by simp [spl,a1y,a1z,a1k,a1x]) (id rfl)]
 exact id rfl
theorem b8i {α:Type} {f:α→List D} {l:List α} {d:D} (hd:SlOf 3 f l d) {k:IntKind} {n:Int} (h0:0≤n) (h1:n≤l.length) :
  ∃ d',a0y tab a0h false true false [d,.int k n]=some d'∧SlOf 3 f (l.take n.toNat) d':=a8Y (T:=tab) (i:=ti1229) (j:=ti1237) (id rfl) (id rfl) (id rfl) (id rfl) hd h0 h1
@[simp] theorem c8K (z:Nat) (f:Bool) (rows:List (List D)):a0w tab a5m (.sl z f rows)=some (.int .i64 rows.length):=id rfl
@[simp] theorem b6V (d0:D) (h0:d0.one=true):a0P tab a3s [0] [d0]=some (.agg [d0,.int .i64 0]):=by
 have c0:=a1d h0
 refine b1A (T:=tab) (i:=ti101) (fs:=[(22,0,1),(3,1,1)]) (id rfl) (id rfl) ?_
 rw [show ti101.zero=[.nils,.int .i64 0] from id rfl]
 rw [a1N (off:=0) (sz:=1) (id rfl) (by rw [c0.1];rfl) (by simp [spl,a1y,a1z,a1k,a1x]) c0.2,c0.1]
 exact id rfl
def lt98_45:List (List UInt8):=[[108,101,118,101,108],[64,104,111,115,116],[64,115,116,114,101,97,109],[99,111,100,101],[64,116,114,97,99,101]]
@[simp] theorem b1b:a0A tab a0E 5 [0,1,2,3,4] [.str [108,101,118,101,108],.str [64,104,111,115,116],.str [64,115,116,114,101,97,109],.str [99,111,100,101],.str [64,116,114,97,99,101]]=some (.sl 1 true (lt98_45.map fun s=>[.str s])):=id rfl
@[simp] theorem b7N {α:Type} {f:α→List D} {l:List α} {d:D} (h:SlOf 1 f l d):a0w tab a3C d=some (.int .i64 l.length) := 
 by
  rcases h with ⟨rfl,rfl⟩ | ⟨b,rfl⟩
  ·rfl
  ·show some (D.int .i64 ((l.map f).length:Nat))=_;simp
@[simp] theorem c3Z (f:Bool) (rows:List (List D)) (i:Int):a0a tab a3C (.sl 1 f rows) (.int .i64 i)=if 0≤i then (rows[i.toNat]?).map .fptr else none:=by show (if 1=1∧0≤i then (match rows[i.toNat]? with | some row=>some (D.fptr row) | none=>none) else none)=_;by_cases h:0≤i <;> simp [h] <;> cases rows[i.toNat]? <;> rfl
@[simp] theorem c0I {α:Type} {f:α→List D} {l:List α} {d:D} (h:SlOf 1 f l d) (i:Int):a0a tab a3C d (.int .i64 i)=if 0≤i then (l[i.toNat]?).map fun p => .fptr (f p) else none := 
 by
  rcases h with ⟨rfl,rfl⟩ | ⟨b,rfl⟩
  ·show none=_;simp
  ·rw [c3Z];simp [Function.comp_def]
@[simp] theorem c4e (c:D) (cs:List D) (h:Hp):a0c tab h a2r (.fptr (c::cs))=some c:=id rfl
@[simp] theorem b7O {α:Type} {f:α→List D} {l:List α} {d:D} (h:SlOf 11 f l d):a0w tab a2r d=some (.int .i64 l.length) := 
 by
  rcases h with ⟨rfl,rfl⟩ | ⟨b,rfl⟩
  ·rfl
  ·show some (D.int .i64 ((l.map f).length:Nat))=_;simp
@[simp] theorem c4a (f:Bool) (rows:List (List D)) (i:Int):a0a tab a2r (.sl 11 f rows) (.int .i64 i)=if 0≤i then (rows[i.toNat]?).map .fptr else none:=by show (if 11=11∧0≤i then (match rows[i.toNat]? with | some row=>some (D.fptr row) | none=>none) else none)=_;by_cases h:0≤i <;> simp [h] <;> cases rows[i.toNat]? <;> rfl
@[simp] theorem c0J {α:Type} {f:α→List D} {l:List α} {d:D} (h:SlOf 11 f l d) (i:Int):a0a tab a2r d (.int .i64 i)=if 0≤i then (l[i.toNat]?).map fun p => .fptr (f p) else none := 
 by
  rcases h with ⟨rfl,rfl⟩ | ⟨b,rfl⟩
  ·show none=_;simp
  ·rw [c4a];simp [Function.comp_def]
@[simp] theorem c5U (c0 c1:D) (cs:List D):a0b tab a2j 1 (.fptr (c0::c1::cs))=some (.fptr (c1::cs)):=id rfl
@[simp] theorem c1F (o k f:Nat):a0b tab a3s 0 (.ptr o k f)=some (.ptr o k (f+0)):=id rfl
@[simp] theorem c8I (h:Hp) (o k f:Nat):a0c tab h a5m (.ptr o k f)=(h.row o k).bind fun row=>(row.drop f).head?:=by show (match h.row o k with | some row=>_ | none=>none)=_;cases h.row o k <;> rfl
@[simp] theorem c1G (o k f:Nat):a0b tab a3s 1 (.ptr o k f)=some (.ptr o k (f+1)):=id rfl
@[simp] theorem c9F (f:Bool) (rows:List (List D)) (i:Int):a0a tab a5m (.sl 1 f rows) (.int .i64 i)=if 0≤i then (rows[i.toNat]?).map .fptr else none:=by show (if 1=1∧0≤i then (match rows[i.toNat]? with | some row=>some (D.fptr row) | none=>none) else none)=_;by_cases h:0≤i <;> simp [h] <;> cases rows[i.toNat]? <;> rfl
@[simp] theorem ld5 (c:D) (cs:List D) (h:Hp):a0c tab h ty5 (.fptr (c::cs))=some c:=id rfl
@[simp] theorem c2u (k:IntKind) (n:Int):a1B tab ty5 ty3 (.int k n)=some (.int .i64 (IntKind.wrap .i64 n)):=id rfl
@[simp] theorem a2m {α:Type} {f:α→List D} {l:List α} {d:D} (h:SlOf 4 f l d):a0w tab a0S d=some (.int .i64 l.length) := 
 by
  rcases h with ⟨rfl,rfl⟩ | ⟨b,rfl⟩
  ·rfl
  ·show some (D.int .i64 ((l.map f).length:Nat))=_;simp
@[simp] theorem c0F (f:Bool) (rows:List (List D)) (i:Int):a0a tab a0S (.sl 4 f rows) (.int .i64 i)=if 0≤i then (rows[i.toNat]?).map .fptr else none:=by show (if 4=4∧0≤i then (match rows[i.toNat]? with | some row=>some (D.fptr row) | none=>none) else none)=_;by_cases h:0≤i <;> simp [h] <;> cases rows[i.toNat]? <;> rfl
@[simp] theorem a6R {α:Type} {f:α→List D} {l:List α} {d:D} (h:SlOf 4 f l d) (i:Int):a0a tab a0S d (.int .i64 i)=if 0≤i then (l[i.toNat]?).map fun p => .fptr (f p) else none := 
 by
  rcases h with ⟨rfl,rfl⟩ | ⟨b,rfl⟩
  ·show none=_;simp
  ·rw [c0F];simp [Function.comp_def]
@[simp] theorem a7H (o k f:Nat):a0b tab a0o 1 (.ptr o k f)=some (.ptr o k (f+1)):=id rfl
theorem c1x {h:Hp} {n0:Nat} (hn0:n0≤h.length) {rows:List (List D)} {x y:D} (hx:Own h n0 ty3 1 rows x) {ys:List (List D)} (hy:a0L h 1 y=some ys) (hl:(rows.length+ys.length)*8≤140737488355328) {β:Type} {f:D × Hp→Option β} {Q:β→Prop}
  (k:∀ x' h',Own h' n0 ty3 1 (rows++ys) x'→h.length≤h'.length→(∀ q,q<n0→h'[q]?=h[q]?)→(∀ q,q<h.length→¬ x.inOb q→h'[q]?=h[q]?)→(∀ q,x'.inOb q→x.inOb q∨h.length≤q)→Wp (f (x',h')) Q):Wp ((a0p tab h a0V a0V x y).bind f) Q := 
 a2Q (T:=tab) (i:=c5g) (j:=ti3) (id rfl) (id rfl) (id rfl) (by decide) hn0 hx hy (a2i hl (by omega)) k
@[simp] theorem b2S {α:Type} {f:α→List D} {l:List α} {d:D} (h:SlOf 10 f l d):a0w tab a3Y d=some (.int .i64 l.length) := 
 by
  rcases h with ⟨rfl,rfl⟩ | ⟨b,rfl⟩
  ·rfl
  ·show some (D.int .i64 ((l.map f).length:Nat))=_;simp
@[simp] theorem c8C (f:Bool) (rows:List (List D)) (i:Int):a0a tab a3Y (.sl 10 f rows) (.int .i64 i)=if 0≤i then (rows[i.toNat]?).map .fptr else none:=by show (if 10=10∧0≤i then (match rows[i.toNat]? with | some row=>some (D.fptr row) | none=>none) else none)=_;by_cases h:0≤i <;> simp [h] <;> cases rows[i.toNat]? <;> rfl
@[simp] theorem b5h {α:Type} {f:α→List D} {l:List α} {d:D} (h:SlOf 10 f l d) (i:Int):a0a tab a3Y d (.int .i64 i)=if 0≤i then (l[i.toNat]?).map fun p => .fptr (f p) else none := 
 by
  rcases h with ⟨rfl,rfl⟩ | ⟨b,rfl⟩
  ·show none=_;simp
  ·rw [c8C];simp [Function.comp_def]
@[simp] theorem b4u  : a0A tab a0h 0 [] []=some (.sl 3 true []):=id rfl
@[simp] theorem b1I (n0:Int) (n1:Int):a0A tab a0V 2 [0,1] [.int .i64 n0,.int .i64 n1]=some (.sl 1 true [[.int .i64 n0],[.int .i64 n1]]):=id rfl
@[simp] theorem b9X  : a0A tab a0E 0 [] []=some (.sl 1 true []):=id rfl
@[simp] theorem b4q  : a0A tab a0t 0 [] []=some (.sl 3 true []):=id rfl
@[simp] theorem b2Q (h:Hp) (o k f:Nat):a0c tab h a0k (.ptr o k f)=(h.row o k).bind fun row=>a9a 3 (row.drop f):=by show (match h.row o k with | some row=>_ | none=>none)=_;cases h.row o k <;> rfl
theorem b8h {α:Type} {f:α→List D} {l:List α} {d:D} (hd:SlOf 3 f l d) {k:IntKind} {n:Int} (h0:0≤n) (h1:n≤l.length) :
  ∃ d',a0y tab a0t false true false [d,.int k n]=some d'∧SlOf 3 f (l.take n.toNat) d':=a8Y (T:=tab) (i:=a5Z) (j:=ti1146) (id rfl) (id rfl) (id rfl) (id rfl) hd h0 h1
@[simp] theorem c5O (c0:D) (cs:List D):a0b tab a0R 0 (.fptr (c0::cs))=some (.fptr (c0::cs)):=id rfl
@[simp] theorem c5P (c0 c1:D) (cs:List D):a0b tab a0R 1 (.fptr (c0::c1::cs))=some (.fptr (c1::cs)):=id rfl
@[simp] theorem c5S (c0 c1 c2 c3 c4 c5:D) (cs:List D):a0b tab a0R 5 (.fptr (c0::c1::c2::c3::c4::c5::cs))=some (.fptr (c5::cs)):=id rfl
@[simp] theorem b7m (o k f:Nat):a0b tab a0R 5 (.ptr o k f)=some (.ptr o k (f+5)):=id rfl
@[simp] theorem b7n (o k f:Nat):a0b tab a0R 6 (.ptr o k f)=some (.ptr o k (f+6)):=id rfl
@[simp] theorem b7o (o k f:Nat):a0b tab a0R 7 (.ptr o k f)=some (.ptr o k (f+7)):=id rfl
@[simp] theorem b7p (o k f:Nat):a0b tab a0R 8 (.ptr o k f)=some (.ptr o k (f+8)):=id rfl
@[simp] theorem c5T (c0 c1 c2 c3 c4 c5 c6 c7 c8 c9:D) (cs:List D):a0b tab a0R 9 (.fptr (c0::c1::c2::c3::c4::c5::c6::c7::c8::c9::cs))=some (.fptr (c9::cs)):=id rfl
@[simp] theorem b7q (o k f:Nat):a0b tab a0R 9 (.ptr o k f)=some (.ptr o k (f+9)):=id rfl
@[simp] theorem c9G (c:D) (cs:List D) (h:Hp):a0c tab h a5r (.fptr (c::cs))=some c:=id rfl
@[simp] theorem a2I (k:IntKind) (n:Int):a1B tab ty3 a1U (.int k n)=some (.int .u64 (IntKind.wrap .u64 n)):=id rfl
@[simp] theorem a2H (k:IntKind) (n:Int):a1B tab a1U ty3 (.int k n)=some (.int .i64 (IntKind.wrap .i64 n)):=id rfl
def lt98_46:List (List UInt8):=[[108,101,118,101,108],[109,115],[117,115,101,114],[99,111,100,101]]
@[simp] theorem b8P:a0A tab a0E 4 [0,1,2,3] [.str [108,101,118,101,108],.str [109,115],.str [117,115,101,114],.str [99,111,100,101]]=some (.sl 1 true (lt98_46.map fun s=>[.str s])):=id rfl
theorem c1y {h:Hp} {o T sz kk off:Nat} {rows:List (List D)} {row:List D} {v:D} (ho:h[o]?=some (.row T sz rows)) (hr:rows[kk]?=some row) (hv:(a0u v).length=11) (hl:off+11≤row.length) (hk:v.okv=true) {β:Type} {f:Hp→Option β} {Q:β→Prop}
  (k:∀ h',h'[o]?=some (.row T sz (rows.set kk (spl row off (a0u v))))→Same o h h'→Wp (f h') Q):Wp ((a0s tab h a2j (.ptr o kk off) v).bind f) Q := 
 by rw [show a0s tab h a2j (.ptr o kk off) v=pSt 11 h (.ptr o kk off) v from rfl];exact a2E ho hr hv hl hk k
@[simp] theorem c4h (h:Hp) (o k f:Nat):a0c tab h a2j (.ptr o k f)=(h.row o k).bind fun row=>a9a 11 (row.drop f):=by show (match h.row o k with | some row=>_ | none=>none)=_;cases h.row o k <;> rfl
theorem c1w {h:Hp} {n0:Nat} (hn0:n0≤h.length) {rows:List (List D)} {x y:D} (hx:Own h n0 a2j 11 rows x) {ys:List (List D)} (hy:a0L h 11 y=some ys) (hl:(rows.length+ys.length)*144≤140737488355328) {β:Type} {f:D × Hp→Option β} {Q:β→Prop}
  (k:∀ x' h',Own h' n0 a2j 11 (rows++ys) x'→h.length≤h'.length→(∀ q,q<n0→h'[q]?=h[q]?)→(∀ q,q<h.length→¬ x.inOb q→h'[q]?=h[q]?)→(∀ q,x'.inOb q→x.inOb q∨h.length≤q)→Wp (f (x',h')) Q):Wp ((a0p tab h a2r a2r x y).bind f) Q := 
 a2Q (T:=tab) (i:=b3M) (j:=c5e) (id rfl) (id rfl) (id rfl) (by decide) hn0 hx hy (a2i hl (by omega)) k
@[simp] theorem c5R (c0 c1 c2 c3:D) (cs:List D):a0b tab a0R 3 (.fptr (c0::c1::c2::c3::cs))=some (.fptr (c3::cs)):=id rfl
@[simp] theorem b7l (o k f:Nat):a0b tab a0R 3 (.ptr o k f)=some (.ptr o k (f+3)):=id rfl
@[simp] theorem b6X (d0:D) (h0:d0.one=true):a0A tab a3C 1 [0] [d0]=some (.sl 1 true [[d0]]):=b0y (T:=tab) (t:=a3C) (n:=1) (i:=b5C) (j:=b3M) (id rfl) (id rfl) (id rfl) (id rfl) [d0] rfl (by decide) (by simp [h0])
theorem c1v {h:Hp} {n0:Nat} (hn0:n0≤h.length) {rows:List (List D)} {x y:D} (hx:Own h n0 a2r 1 rows x) {ys:List (List D)} (hy:a0L h 1 y=some ys) (hl:(rows.length+ys.length)*24≤140737488355328) {β:Type} {f:D × Hp→Option β} {Q:β→Prop}
  (k:∀ x' h',Own h' n0 a2r 1 (rows++ys) x'→h.length≤h'.length→(∀ q,q<n0→h'[q]?=h[q]?)→(∀ q,q<h.length→¬ x.inOb q→h'[q]?=h[q]?)→(∀ q,x'.inOb q→x.inOb q∨h.length≤q)→Wp (f (x',h')) Q):Wp ((a0p tab h a3C a3C x y).bind f) Q := 
 a2Q (T:=tab) (i:=b5C) (j:=b3M) (id rfl) (id rfl) (id rfl) (by decide) hn0 hx hy (a2i hl (by omega)) k
theorem b8z {h:Hp} {n0:Nat} (hn0:n0≤h.length) {rows:List (List D)} {x y:D} (hx:Own h n0 a0R 10 rows x) {ys:List (List D)} (hy:a0L h 10 y=some ys) (hl:(rows.length+ys.length)*128≤140737488355328) {β:Type} {f:D × Hp→Option β} {Q:β→Prop}
  (k:∀ x' h',Own h' n0 a0R 10 (rows++ys) x'→h.length≤h'.length→(∀ q,q<n0→h'[q]?=h[q]?)→(∀ q,q<h.length→¬ x.inOb q→h'[q]?=h[q]?)→(∀ q,x'.inOb q→x.inOb q∨h.length≤q)→Wp (f (x',h')) Q):Wp ((a0p tab h a3Y a3Y x y).bind f) Q := 
 a2Q (T:=tab) (i:=c1j) (j:=c1i) (id rfl) (id rfl) (id rfl) (by decide) hn0 hx hy (a2i hl (by omega)) k
@[simp] theorem c5K (x0_0 x0_1 x0_2 x0_3 x0_4 x0_5 x0_6 x0_7 x0_8 x0_9:D):a0A tab a3Y 1 [0] [.agg [x0_0,x0_1,x0_2,x0_3,x0_4,x0_5,x0_6,x0_7,x0_8,x0_9]]=some (.sl 10 true [[x0_0,x0_1,x0_2,x0_3,x0_4,x0_5,x0_6,x0_7,x0_8,x0_9]]):=id rfl
@[simp] theorem b4t (x0_0 x0_1 x0_2 x0_3:D):a0A tab a0S 1 [0] [.agg [x0_0,x0_1,x0_2,x0_3]]=some (.sl 4 true [[x0_0,x0_1,x0_2,x0_3]]):=id rfl
@[simp] theorem b4I (k:IntKind) (n:Int):a1B tab ty3 a4u (.int k n)=some (.int .u64 (IntKind.wrap .u64 n)):=id rfl
@[simp] theorem b4H (k:IntKind) (n:Int):a1B tab a4u ty5 (.int k n)=some (.int .u8 (IntKind.wrap .u8 n)):=id rfl
@[simp] theorem b9U (n0:Int):a0A tab a5m 1 [0] [.int .u8 n0]=some (.sl 1 true [[.int .u8 n0]]):=id rfl
theorem c9B {h:Hp} {n0:Nat} (hn0:n0≤h.length) {rows:List (List D)} {x y:D} (hx:Own h n0 ty5 1 rows x) {ys:List (List D)} (hy:a0L h 1 y=some ys) (hl:(rows.length+ys.length)*1≤140737488355328) {β:Type} {f:D × Hp→Option β} {Q:β→Prop}
  (k:∀ x' h',Own h' n0 ty5 1 (rows++ys) x'→h.length≤h'.length→(∀ q,q<n0→h'[q]?=h[q]?)→(∀ q,q<h.length→¬ x.inOb q→h'[q]?=h[q]?)→(∀ q,x'.inOb q→x.inOb q∨h.length≤q)→Wp (f (x',h')) Q):Wp ((a0p tab h a5m a5m x y).bind f) Q := 
 a2Q (T:=tab) (i:=c1T) (j:=ti5) (id rfl) (id rfl) (id rfl) (by decide) hn0 hx hy (a2i hl (by omega)) k
@[simp] theorem a8d {α:Type} {f:α→List D} {l:List α} {d:D} (h:SlOf 2 f l d):a0w tab a5r d=some (.int .i64 l.length) := 
 by
  rcases h with ⟨rfl,rfl⟩ | ⟨b,rfl⟩
  ·rfl
  ·show some (D.int .i64 ((l.map f).length:Nat))=_;simp
@[simp] theorem c8B (f:Bool) (rows:List (List D)) (i:Int):a0a tab a5r (.sl 2 f rows) (.int .i64 i)=if 0≤i then (rows[i.toNat]?).map .fptr else none:=by show (if 2=2∧0≤i then (match rows[i.toNat]? with | some row=>some (D.fptr row) | none=>none) else none)=_;by_cases h:0≤i <;> simp [h] <;> cases rows[i.toNat]? <;> rfl
@[simp] theorem b5g {α:Type} {f:α→List D} {l:List α} {d:D} (h:SlOf 2 f l d) (i:Int):a0a tab a5r d (.int .i64 i)=if 0≤i then (l[i.toNat]?).map fun p => .fptr (f p) else none := 
 by
  rcases h with ⟨rfl,rfl⟩ | ⟨b,rfl⟩
  ·show none=_;simp
  ·rw [c8B];simp [Function.comp_def]
@[simp] theorem c3x (c0:D) (cs:List D):a0b tab a3B 0 (.fptr (c0::cs))=some (.fptr (c0::cs)):=id rfl
@[simp] theorem c3y (c0 c1:D) (cs:List D):a0b tab a3B 1 (.fptr (c0::c1::cs))=some (.fptr (c1::cs)):=id rfl
@[simp] theorem b0Q (n0:Int) (n1:Int) (n2:Int):a0P tab a0R [0,1,2] [.int .i64 n0,.int .i64 n1,.int .i64 n2]=some (.agg [.int .i64 n0,.int .i64 n1,.int .i64 n2,.int .i64 0,.nils,.int .i64 0,.int .i64 0,.str [],.str [],.nils]):=id rfl
theorem c5z {h:Hp} {o T sz kk off:Nat} {rows:List (List D)} {row:List D} {v:D} (ho:h[o]?=some (.row T sz rows)) (hr:rows[kk]?=some row) (hv:(a0u v).length=10) (hl:off+10≤row.length) (hk:v.okv=true) {β:Type} {f:Hp→Option β} {Q:β→Prop}
  (k:∀ h',h'[o]?=some (.row T sz (rows.set kk (spl row off (a0u v))))→Same o h h'→Wp (f h') Q):Wp ((a0s tab h a0R (.ptr o kk off) v).bind f) Q := 
 by rw [show a0s tab h a0R (.ptr o kk off) v=pSt 10 h (.ptr o kk off) v from rfl];exact a2E ho hr hv hl hk k
@[simp] theorem c8L (s:List UInt8):a0w tab ty9 (.str s)=some (.int .i64 s.length):=id rfl
@[simp] theorem b2l (o k f:Nat):a0b tab a0R 4 (.ptr o k f)=some (.ptr o k (f+4)):=id rfl
@[simp] theorem c0K (h:Hp) (o k f:Nat):a0c tab h a8s (.ptr o k f)=(h.row o k).bind fun row=>(row.drop f).head?:=by show (match h.row o k with | some row=>_ | none=>none)=_;cases h.row o k <;> rfl
@[simp] theorem b0R (n0:Int) (n1:Int) (s2:List UInt8):a0P tab b3X [0,1,2] [.int .i64 n0,.int .i64 n1,.str s2]=some (.agg [.int .i64 n0,.int .i64 n1,.str s2]):=id rfl
@[simp] theorem b9V (x0_0 x0_1 x0_2:D):a0A tab a8s 1 [0] [.agg [x0_0,x0_1,x0_2]]=some (.sl 3 true [[x0_0,x0_1,x0_2]]):=id rfl
theorem c5v {h:Hp} {n0:Nat} (hn0:n0≤h.length) {rows:List (List D)} {x y:D} (hx:Own h n0 b3X 3 rows x) {ys:List (List D)} (hy:a0L h 3 y=some ys) (hl:(rows.length+ys.length)*32≤140737488355328) {β:Type} {f:D × Hp→Option β} {Q:β→Prop}
  (k:∀ x' h',Own h' n0 b3X 3 (rows++ys) x'→h.length≤h'.length→(∀ q,q<n0→h'[q]?=h[q]?)→(∀ q,q<h.length→¬ x.inOb q→h'[q]?=h[q]?)→(∀ q,x'.inOb q→x.inOb q∨h.length≤q)→Wp (f (x',h')) Q):Wp ((a0p tab h a8s a8s x y).bind f) Q := 
 a2Q (T:=tab) (i:=c5c) (j:=c5f) (id rfl) (id rfl) (id rfl) (by decide) hn0 hx hy (a2i hl (by omega)) k
theorem c5x {h:Hp} {o T sz kk off:Nat} {rows:List (List D)} {row:List D} {v:D} (ho:h[o]?=some (.row T sz rows)) (hr:rows[kk]?=some row) (hv:(a0u v).length=1) (hl:off+1≤row.length) (hk:v.okv=true) {β:Type} {f:Hp→Option β} {Q:β→Prop}
  (k:∀ h',h'[o]?=some (.row T sz (rows.set kk (spl row off (a0u v))))→Same o h h'→Wp (f h') Q):Wp ((a0s tab h a8s (.ptr o kk off) v).bind f) Q := 
 by rw [show a0s tab h a8s (.ptr o kk off) v=pSt 1 h (.ptr o kk off) v from rfl];exact a2E ho hr hv hl hk k
theorem c0L {h:Hp} {n0 e z:Nat} {rows:List (List D)} {d:D} (hd:Own h n0 e z rows d):a0w tab a8s d=some (.int .i64 rows.length):=by
 rcases hd with ⟨rfl,rfl⟩ | ⟨o,_,rfl,_⟩ <;> rfl
@[simp] theorem c4b (o r n:Nat) (i:Int):a0a tab a8s (.msl 3 o r n) (.int .i64 i)=if 0≤i∧i<n then some (.ptr o (r+i.toNat) 0) else none:=by show (if 3=3∧0≤i∧i<n then some (D.ptr o (r+i.toNat) 0) else none)=_;simp
@[simp] theorem b7r (o k f:Nat):a0b tab b3X 2 (.ptr o k f)=some (.ptr o k (f+2)):=id rfl
theorem c5B {h:Hp} {o T sz kk off:Nat} {rows:List (List D)} {row:List D} {v:D} (ho:h[o]?=some (.row T sz rows)) (hr:rows[kk]?=some row) (hv:(a0u v).length=1) (hl:off+1≤row.length) (hk:v.okv=true) {β:Type} {f:Hp→Option β} {Q:β→Prop}
  (k:∀ h',h'[o]?=some (.row T sz (rows.set kk (spl row off (a0u v))))→Same o h h'→Wp (f h') Q):Wp ((a0s tab h ty9 (.ptr o kk off) v).bind f) Q := 
 by rw [show a0s tab h ty9 (.ptr o kk off) v=pSt 1 h (.ptr o kk off) v from rfl];exact a2E ho hr hv hl hk k
def lt98_4:List (List UInt8):=[[115,97,109,112,108,101],[100,114,111,112],[116,111,111,45,108,111,110,103]]
@[simp] theorem b3a:a0A tab a0E 3 [0,1,2] [.str [115,97,109,112,108,101],.str [100,114,111,112],.str [116,111,111,45,108,111,110,103]]=some (.sl 1 true (lt98_4.map fun s=>[.str s])):=id rfl
@[simp] theorem b4o (s0:List UInt8) (x1_0 x1_1 x1_2 x1_3 x1_4 x1_5 x1_6 x1_7 x1_8 x1_9:D):a0P tab a2j [0,1] [.str s0,.agg [x1_0,x1_1,x1_2,x1_3,x1_4,x1_5,x1_6,x1_7,x1_8,x1_9]]=some (.agg [.str s0,x1_0,x1_1,x1_2,x1_3,x1_4,x1_5,x1_6,x1_7,x1_8,x1_9]):=id rfl
def lt98_5:List (List UInt8):=[[116,49],[116,50],[],[49,58,50,58,48]]
@[simp] theorem b3b:a0A tab a0E 4 [0,1,2,3] [.str [116,49],.str [116,50],.str [],.str [49,58,50,58,48]]=some (.sl 1 true (lt98_5.map fun s=>[.str s])):=id rfl
def lt98_6:List (List UInt8):=[[109,97,105,110],[100,101,98,117,103]]
@[simp] theorem b3c:a0A tab a0E 2 [0,1] [.str [109,97,105,110],.str [100,101,98,117,103]]=some (.sl 1 true (lt98_6.map fun s=>[.str s])):=id rfl
theorem c5y {h:Hp} {o T sz kk off:Nat} {rows:List (List D)} {row:List D} {v:D} (ho:h[o]?=some (.row T sz rows)) (hr:rows[kk]?=some row) (hv:(a0u v).length=1) (hl:off+1≤row.length) (hk:v.okv=true) {β:Type} {f:Hp→Option β} {Q:β→Prop}
  (k:∀ h',h'[o]?=some (.row T sz (rows.set kk (spl row off (a0u v))))→Same o h h'→Wp (f h') Q):Wp ((a0s tab h a5r (.ptr o kk off) v).bind f) Q := 
 by rw [show a0s tab h a5r (.ptr o kk off) v=pSt 1 h (.ptr o kk off) v from rfl];exact a2E ho hr hv hl hk k
@[simp] theorem b9S (x0_0 x0_1 x0_2 x0_3 x0_4 x0_5 x0_6 x0_7 x0_8 x0_9:D):a0P tab a2j [1] [.agg [x0_0,x0_1,x0_2,x0_3,x0_4,x0_5,x0_6,x0_7,x0_8,x0_9]]=some (.agg [.str [],x0_0,x0_1,x0_2,x0_3,x0_4,x0_5,x0_6,x0_7,x0_8,x0_9]):=id rfl
@[simp] theorem c5Q (c0 c1 c2:D) (cs:List D):a0b tab a0R 2 (.fptr (c0::c1::c2::cs))=some (.fptr (c2::cs)):=id rfl
@[simp] theorem b2R (h:Hp) (o k f:Nat):a0c tab h a0o (.ptr o k f)=(h.row o k).bind fun row=>a9a 4 (row.drop f):=by show (match h.row o k with | some row=>_ | none=>none)=_;cases h.row o k <;> rfl
theorem b8w {h:Hp} {n0:Nat} (hn0:n0≤h.length) {rows:List (List D)} {x y:D} (hx:Own h n0 a0o 4 rows x) {ys:List (List D)} (hy:a0L h 4 y=some ys) (hl:(rows.length+ys.length)*96≤140737488355328) {β:Type} {f:D × Hp→Option β} {Q:β→Prop}
  (k:∀ x' h',Own h' n0 a0o 4 (rows++ys) x'→h.length≤h'.length→(∀ q,q<n0→h'[q]?=h[q]?)→(∀ q,q<h.length→¬ x.inOb q→h'[q]?=h[q]?)→(∀ q,x'.inOb q→x.inOb q∨h.length≤q)→Wp (f (x',h')) Q):Wp ((a0p tab h a0S a0S x y).bind f) Q := 
 a2Q (T:=tab) (i:=b3N) (j:=ti1168) (id rfl) (id rfl) (id rfl) (by decide) hn0 hx hy (a2i hl (by omega)) k
@[simp] theorem a9E (d0:D) (h0:d0.one=true):a0P tab a0o [0] [d0]=some (.agg [d0,.nils,.nils,.nils]):=by
 have c0:=a1d h0
 refine b1A (T:=tab) (i:=ti1168) (fs:=[(24,0,1),(46,1,1),(95,2,1),(96,3,1)]) (id rfl) (id rfl) ?_
 rw [show ti1168.zero=[.nils,.nils,.nils,.nils] from id rfl]
 rw [a1N (off:=0) (sz:=1) (id rfl) (by rw [c0.1];rfl) (by simp [spl,a1y,a1z,a1k,a1x]) c0.2,c0.1]
 exact id rfl
theorem a9c {h:Hp} {o T sz kk off:Nat} {rows:List (List D)} {row:List D} {v:D} (ho:h[o]?=some (.row T sz rows)) (hr:rows[kk]?=some row) (hv:(a0u v).length=4) (hl:off+4≤row.length) (hk:v.okv=true) {β:Type} {f:Hp→Option β} {Q:β→Prop}
  (k:∀ h',h'[o]?=some (.row T sz (rows.set kk (spl row off (a0u v))))→Same o h h'→Wp (f h') Q):Wp ((a0s tab h a0o (.ptr o kk off) v).bind f) Q := 
 by rw [show a0s tab h a0o (.ptr o kk off) v=pSt 4 h (.ptr o kk off) v from rfl];exact a2E ho hr hv hl hk k
@[simp] theorem a7I (o k f:Nat):a0b tab a0o 2 (.ptr o k f)=some (.ptr o k (f+2)):=id rfl
@[simp] theorem b7K (h:Hp) (o k f:Nat):a0c tab h a0J (.ptr o k f)=(h.row o k).bind fun row=>(row.drop f).head?:=by show (match h.row o k with | some row=>_ | none=>none)=_;cases h.row o k <;> rfl
@[simp] theorem a9G (b0:Bool):a0A tab a0J 1 [0] [.bool b0]=some (.sl 1 true [[.bool b0]]):=id rfl
theorem b8x {h:Hp} {n0:Nat} (hn0:n0≤h.length) {rows:List (List D)} {x y:D} (hx:Own h n0 ty4 1 rows x) {ys:List (List D)} (hy:a0L h 1 y=some ys) (hl:(rows.length+ys.length)*1≤140737488355328) {β:Type} {f:D × Hp→Option β} {Q:β→Prop}
  (k:∀ x' h',Own h' n0 ty4 1 (rows++ys) x'→h.length≤h'.length→(∀ q,q<n0→h'[q]?=h[q]?)→(∀ q,q<h.length→¬ x.inOb q→h'[q]?=h[q]?)→(∀ q,x'.inOb q→x.inOb q∨h.length≤q)→Wp (f (x',h')) Q):Wp ((a0p tab h a0J a0J x y).bind f) Q := 
 a2Q (T:=tab) (i:=b3O) (j:=ti4) (id rfl) (id rfl) (id rfl) (by decide) hn0 hx hy (a2i hl (by omega)) k
@[simp] theorem a7J (o k f:Nat):a0b tab a0o 3 (.ptr o k f)=some (.ptr o k (f+3)):=id rfl
@[simp] theorem b7L (h:Hp) (o k f:Nat):a0c tab h a0O (.ptr o k f)=(h.row o k).bind fun row=>(row.drop f).head?:=by show (match h.row o k with | some row=>_ | none=>none)=_;cases h.row o k <;> rfl
@[simp] theorem a9H (d0:D) (h0:d0.one=true):a0A tab a0O 1 [0] [d0]=some (.sl 1 true [[d0]]):=b0y (T:=tab) (t:=a0O) (n:=1) (i:=b0L) (j:=b8q) (id rfl) (id rfl) (id rfl) (id rfl) [d0] rfl (by decide) (by simp [h0])
theorem b8y {h:Hp} {n0:Nat} (hn0:n0≤h.length) {rows:List (List D)} {x y:D} (hx:Own h n0 a0E 1 rows x) {ys:List (List D)} (hy:a0L h 1 y=some ys) (hl:(rows.length+ys.length)*24≤140737488355328) {β:Type} {f:D × Hp→Option β} {Q:β→Prop}
  (k:∀ x' h',Own h' n0 a0E 1 (rows++ys) x'→h.length≤h'.length→(∀ q,q<n0→h'[q]?=h[q]?)→(∀ q,q<h.length→¬ x.inOb q→h'[q]?=h[q]?)→(∀ q,x'.inOb q→x.inOb q∨h.length≤q)→Wp (f (x',h')) Q):Wp ((a0p tab h a0O a0O x y).bind f) Q := 
 a2Q (T:=tab) (i:=b0L) (j:=b8q) (id rfl) (id rfl) (id rfl) (by decide) hn0 hx hy (a2i hl (by omega)) k
theorem c5A {h:Hp} {o T sz kk off:Nat} {rows:List (List D)} {row:List D} {v:D} (ho:h[o]?=some (.row T sz rows)) (hr:rows[kk]?=some row) (hv:(a0u v).length=1) (hl:off+1≤row.length) (hk:v.okv=true) {β:Type} {f:Hp→Option β} {Q:β→Prop}
  (k:∀ h',h'[o]?=some (.row T sz (rows.set kk (spl row off (a0u v))))→Same o h h'→Wp (f h') Q):Wp ((a0s tab h a0V (.ptr o kk off) v).bind f) Q := 
 by rw [show a0s tab h a0V (.ptr o kk off) v=pSt 1 h (.ptr o kk off) v from rfl];exact a2E ho hr hv hl hk k
theorem b8D {h:Hp} {o T sz kk off:Nat} {rows:List (List D)} {row:List D} {v:D} (ho:h[o]?=some (.row T sz rows)) (hr:rows[kk]?=some row) (hv:(a0u v).length=1) (hl:off+1≤row.length) (hk:v.okv=true) {β:Type} {f:Hp→Option β} {Q:β→Prop}
  (k:∀ h',h'[o]?=some (.row T sz (rows.set kk (spl row off (a0u v))))→Same o h h'→Wp (f h') Q):Wp ((a0s tab h a0J (.ptr o kk off) v).bind f) Q := 
 by rw [show a0s tab h a0J (.ptr o kk off) v=pSt 1 h (.ptr o kk off) v from rfl];exact a2E ho hr hv hl hk k
theorem b8E {h:Hp} {o T sz kk off:Nat} {rows:List (List D)} {row:List D} {v:D} (ho:h[o]?=some (.row T sz rows)) (hr:rows[kk]?=some row) (hv:(a0u v).length=1) (hl:off+1≤row.length) (hk:v.okv=true) {β:Type} {f:Hp→Option β} {Q:β→Prop}
  (k:∀ h',h'[o]?=some (.row T sz (rows.set kk (spl row off (a0u v))))→Same o h h'→Wp (f h') Q):Wp ((a0s tab h a0O (.ptr o kk off) v).bind f) Q := 
 by rw [show a0s tab h a0O (.ptr o kk off) v=pSt 1 h (.ptr o kk off) v from rfl];exact a2E ho hr hv hl hk k
theorem a3l {h:Hp} {o T sz kk off:Nat} {rows:List (List D)} {row:List D} {v:D} (ho:h[o]?=some (.row T sz rows)) (hr:rows[kk]?=some row) (hv:(a0u v).length=3) (hl:off+3≤row.length) (hk:v.okv=true) {β:Type} {f:Hp→Option β} {Q:β→Prop}
  (k:∀ h',h'[o]?=some (.row T sz (rows.set kk (spl row off (a0u v))))→Same o h h'→Wp (f h') Q):Wp ((a0s tab h a0k (.ptr o kk off) v).bind f) Q := 
 by rw [show a0s tab h a0k (.ptr o kk off) v=pSt 3 h (.ptr o kk off) v from rfl];exact a2E ho hr hv hl hk k
def lt98_7:List (List UInt8):=[[32],[32],[44,32],[61],[]]
@[simp] theorem b3d:a0A tab a0E 5 [0,1,2,3,4] [.str [32],.str [32],.str [44,32],.str [61],.str []]=some (.sl 1 true (lt98_7.map fun s=>[.str s])):=id rfl
def lt82_8:List Int:=[1,1,2,5,10,5040]
@[simp] theorem c0M:a0A tab a0V 6 [0,1,2,3,4,5] [.int .i64 1,.int .i64 1,.int .i64 2,.int .i64 5,.int .i64 10,.int .i64 5040]=some (.sl 1 true (lt82_8.map fun n=>[.int .i64 n])):=id rfl
def lt98_9:List (List UInt8):=[[99,111,100,101],[108,101,118,101,108],[109,115],[117,115,101,114]]
@[simp] theorem b1c:lt98_9.length=4:=id rfl
@[simp] theorem b3e:a0A tab a0E 4 [0,1,2,3] [.str [99,111,100,101],.str [108,101,118,101,108],.str [109,115],.str [117,115,101,114]]=some (.sl 1 true (lt98_9.map fun s=>[.str s])):=id rfl
@[simp] theorem b1z (s0:List UInt8) (s1:List UInt8):a0P tab a3B [0,1] [.str s0,.str s1]=some (.agg [.str s0,.str s1]):=id rfl
@[simp] theorem b9W (x0_0 x0_1:D):a0A tab a5r 1 [0] [.agg [x0_0,x0_1]]=some (.sl 2 true [[x0_0,x0_1]]):=id rfl
theorem c5w {h:Hp} {n0:Nat} (hn0:n0≤h.length) {rows:List (List D)} {x y:D} (hx:Own h n0 a3B 2 rows x) {ys:List (List D)} (hy:a0L h 2 y=some ys) (hl:(rows.length+ys.length)*32≤140737488355328) {β:Type} {f:D × Hp→Option β} {Q:β→Prop}
  (k:∀ x' h',Own h' n0 a3B 2 (rows++ys) x'→h.length≤h'.length→(∀ q,q<n0→h'[q]?=h[q]?)→(∀ q,q<h.length→¬ x.inOb q→h'[q]?=h[q]?)→(∀ q,x'.inOb q→x.inOb q∨h.length≤q)→Wp (f (x',h')) Q):Wp ((a0p tab h a5r a5r x y).bind f) Q := 
 a2Q (T:=tab) (i:=c5d) (j:=b8p) (id rfl) (id rfl) (id rfl) (by decide) hn0 hx hy (a2i hl (by omega)) k
@[simp] theorem c0G (f:Bool) (rows:List (List D)) (i:Int):a0a tab a0J (.sl 1 f rows) (.int .i64 i)=if 0≤i then (rows[i.toNat]?).map .fptr else none:=by show (if 1=1∧0≤i then (match rows[i.toNat]? with | some row=>some (D.fptr row) | none=>none) else none)=_;by_cases h:0≤i <;> simp [h] <;> cases rows[i.toNat]? <;> rfl
@[simp] theorem b7E {α:Type} {f:α→List D} {l:List α} {d:D} (h:SlOf 1 f l d) (i:Int):a0a tab a0J d (.int .i64 i)=if 0≤i then (l[i.toNat]?).map fun p => .fptr (f p) else none := 
 by
  rcases h with ⟨rfl,rfl⟩ | ⟨b,rfl⟩
  ·show none=_;simp
  ·rw [c0G];simp [Function.comp_def]
@[simp] theorem c8G (c0 c1:D) (cs:List D) (h:Hp):a0c tab h a3B (.fptr (c0::c1::cs))=some (.agg [c0,c1]):=id rfl
def lt98_10:List (List UInt8):=[[103,101,116],[101,114,114,111,114],[119,97,114,110],[97,49],[117,115,101,114,95,55],[120],[84,105,109,101,111,117,116],[50,48,48],[71,69,84],[101,114,114,111],[122],[],[255],[97,46,98]]
@[simp] theorem b7Q:lt98_10.length=14:=id rfl
@[simp] theorem b8N:a0A tab a0E 14 [0,1,2,3,4,5,6,7,8,9,10,11,12,13] [.str [103,101,116],.str [101,114,114,111,114],.str [119,97,114,110],.str [97,49],.str [117,115,101,114,95,55],.str [120],.str [84,105,109,101,111,117,116],.str [50,48,48],.str [71,69,84],.str [101,114,114,111],.str [122],.str [],.str [255],.str [97,46,98]]=some (.sl 1 true (lt98_10.map fun s=>[.str s])):=id rfl
def lt98_1:List (List UInt8):=[[119,97,114,110],[105,110,102,111],[55],[45,51],[51,49],[],[120,32,121],[57,57,57,57,57,57,57,57,57,57,57,57,57,57,57,57,57,57],[49,48,48,48,48,48,48,48,48,48,48,48,48,48,48,48,48,48,48],[48,55],[45]]
@[simp] theorem b8O:lt98_1.length=11:=id rfl
@[simp] theorem c0N:a0A tab a0E 11 [0,1,2,3,4,5,6,7,8,9,10] [.str [119,97,114,110],.str [105,110,102,111],.str [55],.str [45,51],.str [51,49],.str [],.str [120,32,121],.str [57,57,57,57,57,57,57,57,57,57,57,57,57,57,57,57,57,57],.str [49,48,48,48,48,48,48,48,48,48,48,48,48,48,48,48,48,48,48],.str [48,55],.str [45]]=some (.sl 1 true (lt98_1.map fun s=>[.str s])):=id rfl
end Go.Proofs.YtehgglgadbmecaaGreatDoor

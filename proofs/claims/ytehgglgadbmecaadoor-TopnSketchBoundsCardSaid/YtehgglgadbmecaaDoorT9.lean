/- Operations at the types of this seat. -/
import Derived.Test.YtehgglgadbmecaaDoorC9
import Derived.Test.YtehgglgadbmecaaDoorPiZ
set_option linter.unusedSimpArgs false
set_option linter.unusedVariables false
set_option linter.unnecessarySimpa false
set_option maxRecDepth 20000
set_option maxHeartbeats 2000000
namespace Go.Proofs.YtehgglgadbmecaaDoor
open Go.Eng Go.Pi
@[simp] theorem a9V (d0:D) (d1:D) (h0:d0.one=true) (h1:d1.one=true):a0T tab a0h [0,1] [d0,d1]=some (.agg [d0,d1,.int .i64 0]):=by
 have c0:=a1k h0
 have c1:=a1k h1
 refine b3f (T:=tab) (i:=ti1146) (fs:=[(24,0,1),(40,1,1),(3,2,1)]) (id rfl) (id rfl) ?_
 rw [show ti1146.zero=[.nils,.nils,.int .i64 0] from id rfl]
 rw [a2s (off:=0) (sz:=1) (id rfl) (by rw [c0.1];rfl) (by simp [spl,a2a,a2b,a1O,a1Z]) c0.2,c0.1]
 rw [a2s (off:=1) (sz:=1) (id rfl) (by rw [c1.1];rfl) (by simp [spl,a2a,a2b,a1O,a1Z]) c1.2,c1.1]
 exact id rfl
@[simp] theorem b3i (x0_0 x0_1 x0_2:D) (x1_0 x1_1 x1_2:D):a0y tab a0u 2 [0,1] [.agg [x0_0,x0_1,x0_2],.agg [x1_0,x1_1,x1_2]]=some (.sl 3 true [[x0_0,x0_1,x0_2],[x1_0,x1_1,x1_2]]):=id rfl
@[simp] theorem a4r {α:Type} {f:α→List D} {l:List α} {d:D} (h:SlOf 3 f l d):a0x tab a0u d=some (.int .i64 l.length) := 
 by
  rcases h with ⟨rfl,rfl⟩ | ⟨b,rfl⟩
  ·rfl
  ·show some (D.int .i64 ((l.map f).length:Nat))=_;simp
@[simp] theorem a9C (z o r n:Nat):a0x tab a0u (.msl z o r n)=some (.int .i64 n):=id rfl
@[simp] theorem b9f (f:Bool) (rows:List (List D)) (i:Int):a0b tab a0u (.sl 3 f rows) (.int .i64 i)=if 0≤i then (rows[i.toNat]?).map .fptr else none:=by show (if 3=3∧0≤i then (match rows[i.toNat]? with | some row=>some (D.fptr row) | none=>none) else none)=_;by_cases h:0≤i <;> simp [h] <;> cases rows[i.toNat]? <;> rfl
@[simp] theorem a6g (o r n:Nat) (i:Int):a0b tab a0u (.msl 3 o r n) (.int .i64 i)=if 0≤i∧i<n then some (.ptr o (r+i.toNat) 0) else none:=by show (if 3=3∧0≤i∧i<n then some (D.ptr o (r+i.toNat) 0) else none)=_;simp
@[simp] theorem b1O {α:Type} {f:α→List D} {l:List α} {d:D} (h:SlOf 3 f l d) (i:Int):a0b tab a0u d (.int .i64 i)=if 0≤i then (l[i.toNat]?).map fun p => .fptr (f p) else none := 
 by
  rcases h with ⟨rfl,rfl⟩ | ⟨b,rfl⟩
  ·show none=_;simp
  ·rw [b9f];simp [Function.comp_def]
@[simp] theorem c1Z (h:Hp) (o k f:Nat):a0c tab h a1c (.ptr o k f)=(h.row o k).bind fun row=>(row.drop f).head?:=by show (match h.row o k with | some row=>_ | none=>none)=_;cases h.row o k <;> rfl
@[simp] theorem b5a {α:Type} {f:α→List D} {l:List α} {d:D} (h:SlOf 1 f l d):a0x tab a1c d=some (.int .i64 l.length) := 
 by
  rcases h with ⟨rfl,rfl⟩ | ⟨b,rfl⟩
  ·rfl
  ·show some (D.int .i64 ((l.map f).length:Nat))=_;simp
@[simp] theorem c5S (f:Bool) (rows:List (List D)) (i:Int):a0b tab a1c (.sl 1 f rows) (.int .i64 i)=if 0≤i then (rows[i.toNat]?).map .fptr else none:=by show (if 1=1∧0≤i then (match rows[i.toNat]? with | some row=>some (D.fptr row) | none=>none) else none)=_;by_cases h:0≤i <;> simp [h] <;> cases rows[i.toNat]? <;> rfl
@[simp] theorem b1Q {α:Type} {f:α→List D} {l:List α} {d:D} (h:SlOf 1 f l d) (i:Int):a0b tab a1c d (.int .i64 i)=if 0≤i then (l[i.toNat]?).map fun p => .fptr (f p) else none := 
 by
  rcases h with ⟨rfl,rfl⟩ | ⟨b,rfl⟩
  ·show none=_;simp
  ·rw [c5S];simp [Function.comp_def]
@[simp] theorem ld3 (c:D) (cs:List D) (h:Hp):a0c tab h ty3 (.fptr (c::cs))=some c:=id rfl
@[simp] theorem c5Y (h:Hp) (o k f:Nat):a0c tab h ty3 (.ptr o k f)=(h.row o k).bind fun row=>(row.drop f).head?:=by show (match h.row o k with | some row=>_ | none=>none)=_;cases h.row o k <;> rfl
@[simp] theorem b5M  : a0T tab a3f [] []=some (.agg [.int .i64 0,.str []]):=id rfl
@[simp] theorem b3j (x0_0 x0_1:D):a0y tab a4e 1 [0] [.agg [x0_0,x0_1]]=some (.sl 2 true [[x0_0,x0_1]]):=id rfl
@[simp] theorem a3E {α:Type} {f:α→List D} {l:List α} {d:D} (h:SlOf 3 f l d):a0x tab a0r d=some (.int .i64 l.length) := 
 by
  rcases h with ⟨rfl,rfl⟩ | ⟨b,rfl⟩
  ·rfl
  ·show some (D.int .i64 ((l.map f).length:Nat))=_;simp
@[simp] theorem a6m (z o r n:Nat):a0x tab a0r (.msl z o r n)=some (.int .i64 n):=id rfl
@[simp] theorem b9i (f:Bool) (rows:List (List D)) (i:Int):a0b tab a0r (.sl 3 f rows) (.int .i64 i)=if 0≤i then (rows[i.toNat]?).map .fptr else none:=by show (if 3=3∧0≤i then (match rows[i.toNat]? with | some row=>some (D.fptr row) | none=>none) else none)=_;by_cases h:0≤i <;> simp [h] <;> cases rows[i.toNat]? <;> rfl
@[simp] theorem a6h (o r n:Nat) (i:Int):a0b tab a0r (.msl 3 o r n) (.int .i64 i)=if 0≤i∧i<n then some (.ptr o (r+i.toNat) 0) else none:=by show (if 3=3∧0≤i∧i<n then some (D.ptr o (r+i.toNat) 0) else none)=_;simp
@[simp] theorem a6j {α:Type} {f:α→List D} {l:List α} {d:D} (h:SlOf 3 f l d) (i:Int):a0b tab a0r d (.int .i64 i)=if 0≤i then (l[i.toNat]?).map fun p => .fptr (f p) else none := 
 by
  rcases h with ⟨rfl,rfl⟩ | ⟨b,rfl⟩
  ·show none=_;simp
  ·rw [b9i];simp [Function.comp_def]
@[simp] theorem a3i (h:Hp) (o k f:Nat):a0c tab h a0j (.ptr o k f)=(h.row o k).bind fun row=>a8p 3 (row.drop f):=by show (match h.row o k with | some row=>_ | none=>none)=_;cases h.row o k <;> rfl
theorem a4T {h:Hp} {o T sz kk off:Nat} {rows:List (List D)} {row:List D} {v:D} (ho:h[o]?=some (.row T sz rows)) (hr:rows[kk]?=some row) (hv:(a0t v).length=3) (hl:off+3≤row.length) (hk:v.okv=true) {β:Type} {f:Hp→Option β} {Q:β→Prop}
  (k:∀ h',h'[o]?=some (.row T sz (rows.set kk (spl row off (a0t v))))→Same o h h'→Wp (f h') Q):Wp ((a0s tab h a0j (.ptr o kk off) v).bind f) Q := 
 by rw [show a0s tab h a0j (.ptr o kk off) v=pSt 3 h (.ptr o kk off) v from rfl];exact a2v ho hr hv hl hk k
@[simp] theorem a6Z (o k f:Nat):a0a tab a0j 1 (.ptr o k f)=some (.ptr o k (f+1)):=id rfl
@[simp] theorem a1S {α:Type} {f:α→List D} {l:List α} {d:D} (h:SlOf 1 f l d):a0x tab a0C d=some (.int .i64 l.length) := 
 by
  rcases h with ⟨rfl,rfl⟩ | ⟨b,rfl⟩
  ·rfl
  ·show some (D.int .i64 ((l.map f).length:Nat))=_;simp
@[simp] theorem c2a (z:Nat) (f:Bool) (rows:List (List D)):a0x tab a0C (.sl z f rows)=some (.int .i64 rows.length):=id rfl
@[simp] theorem b7C (f:Bool) (rows:List (List D)) (i:Int):a0b tab a0C (.sl 1 f rows) (.int .i64 i)=if 0≤i then (rows[i.toNat]?).map .fptr else none:=by show (if 1=1∧0≤i then (match rows[i.toNat]? with | some row=>some (D.fptr row) | none=>none) else none)=_;by_cases h:0≤i <;> simp [h] <;> cases rows[i.toNat]? <;> rfl
@[simp] theorem a6k {α:Type} {f:α→List D} {l:List α} {d:D} (h:SlOf 1 f l d) (i:Int):a0b tab a0C d (.int .i64 i)=if 0≤i then (l[i.toNat]?).map fun p => .fptr (f p) else none := 
 by
  rcases h with ⟨rfl,rfl⟩ | ⟨b,rfl⟩
  ·show none=_;simp
  ·rw [b7C];simp [Function.comp_def]
@[simp] theorem ld9 (c:D) (cs:List D) (h:Hp):a0c tab h ty9 (.fptr (c::cs))=some c:=id rfl
@[simp] theorem c5Z (z:Nat) (f:Bool) (rows:List (List D)):a0x tab a5c (.sl z f rows)=some (.int .i64 rows.length):=id rfl
@[simp] theorem b5L (d0:D) (h0:d0.one=true):a0T tab a3b [0] [d0]=some (.agg [d0,.int .i64 0]):=by
 have c0:=a1k h0
 refine b3f (T:=tab) (i:=ti101) (fs:=[(22,0,1),(3,1,1)]) (id rfl) (id rfl) ?_
 rw [show ti101.zero=[.nils,.int .i64 0] from id rfl]
 rw [a2s (off:=0) (sz:=1) (id rfl) (by rw [c0.1];rfl) (by simp [spl,a2a,a2b,a1O,a1Z]) c0.2,c0.1]
 exact id rfl
def lt98_45:List (List UInt8):=[[108,101,118,101,108],[64,104,111,115,116],[64,115,116,114,101,97,109],[99,111,100,101],[64,116,114,97,99,101]]
@[simp] theorem b0i:a0y tab a0C 5 [0,1,2,3,4] [.str [108,101,118,101,108],.str [64,104,111,115,116],.str [64,115,116,114,101,97,109],.str [99,111,100,101],.str [64,116,114,97,99,101]]=some (.sl 1 true (lt98_45.map fun s=>[.str s])):=id rfl
@[simp] theorem a8T (s0:List UInt8):a0y tab a0C 1 [0] [.str s0]=some (.sl 1 true [[.str s0]]):=id rfl
theorem b7p {h:Hp} {n0:Nat} (hn0:n0≤h.length) {rows:List (List D)} {x y:D} (hx:Own h n0 ty9 1 rows x) {ys:List (List D)} (hy:a0I h 1 y=some ys) (hl:(rows.length+ys.length)*16≤140737488355328) {β:Type} {f:D × Hp→Option β} {Q:β→Prop}
  (k:∀ x' h',Own h' n0 ty9 1 (rows++ys) x'→h.length≤h'.length→(∀ q,q<n0→h'[q]?=h[q]?)→(∀ q,q<h.length→¬ x.inOb q→h'[q]?=h[q]?)→(∀ q,x'.inOb q→x.inOb q∨h.length≤q)→Wp (f (x',h')) Q):Wp ((a0p tab h a0C a0C x y).bind f) Q := 
 a2H (T:=tab) (i:=b7g) (j:=ti9) (id rfl) (id rfl) (id rfl) (by decide) hn0 hx hy (a2d hl (by omega)) k
@[simp] theorem b6D {α:Type} {f:α→List D} {l:List α} {d:D} (h:SlOf 1 f l d):a0x tab a3m d=some (.int .i64 l.length) := 
 by
  rcases h with ⟨rfl,rfl⟩ | ⟨b,rfl⟩
  ·rfl
  ·show some (D.int .i64 ((l.map f).length:Nat))=_;simp
@[simp] theorem c1R (f:Bool) (rows:List (List D)) (i:Int):a0b tab a3m (.sl 1 f rows) (.int .i64 i)=if 0≤i then (rows[i.toNat]?).map .fptr else none:=by show (if 1=1∧0≤i then (match rows[i.toNat]? with | some row=>some (D.fptr row) | none=>none) else none)=_;by_cases h:0≤i <;> simp [h] <;> cases rows[i.toNat]? <;> rfl
@[simp] theorem b9j {α:Type} {f:α→List D} {l:List α} {d:D} (h:SlOf 1 f l d) (i:Int):a0b tab a3m d (.int .i64 i)=if 0≤i then (l[i.toNat]?).map fun p => .fptr (f p) else none := 
 by
  rcases h with ⟨rfl,rfl⟩ | ⟨b,rfl⟩
  ·show none=_;simp
  ·rw [c1R];simp [Function.comp_def]
@[simp] theorem c1V (c:D) (cs:List D) (h:Hp):a0c tab h a2h (.fptr (c::cs))=some c:=id rfl
@[simp] theorem b6E {α:Type} {f:α→List D} {l:List α} {d:D} (h:SlOf 11 f l d):a0x tab a2h d=some (.int .i64 l.length) := 
 by
  rcases h with ⟨rfl,rfl⟩ | ⟨b,rfl⟩
  ·rfl
  ·show some (D.int .i64 ((l.map f).length:Nat))=_;simp
@[simp] theorem c1S (f:Bool) (rows:List (List D)) (i:Int):a0b tab a2h (.sl 11 f rows) (.int .i64 i)=if 0≤i then (rows[i.toNat]?).map .fptr else none:=by show (if 11=11∧0≤i then (match rows[i.toNat]? with | some row=>some (D.fptr row) | none=>none) else none)=_;by_cases h:0≤i <;> simp [h] <;> cases rows[i.toNat]? <;> rfl
@[simp] theorem b9k {α:Type} {f:α→List D} {l:List α} {d:D} (h:SlOf 11 f l d) (i:Int):a0b tab a2h d (.int .i64 i)=if 0≤i then (l[i.toNat]?).map fun p => .fptr (f p) else none := 
 by
  rcases h with ⟨rfl,rfl⟩ | ⟨b,rfl⟩
  ·show none=_;simp
  ·rw [c1S];simp [Function.comp_def]
@[simp] theorem c3B (c0 c1:D) (cs:List D):a0a tab a1X 1 (.fptr (c0::c1::cs))=some (.fptr (c1::cs)):=id rfl
@[simp] theorem c1X (h:Hp) (o k f:Nat):a0c tab h a0O (.ptr o k f)=(h.row o k).bind fun row=>a8p 10 (row.drop f):=by show (match h.row o k with | some row=>_ | none=>none)=_;cases h.row o k <;> rfl
@[simp] theorem c0a (o k f:Nat):a0a tab a3b 0 (.ptr o k f)=some (.ptr o k (f+0)):=id rfl
@[simp] theorem c5X (h:Hp) (o k f:Nat):a0c tab h a5c (.ptr o k f)=(h.row o k).bind fun row=>(row.drop f).head?:=by show (match h.row o k with | some row=>_ | none=>none)=_;cases h.row o k <;> rfl
@[simp] theorem c0b (o k f:Nat):a0a tab a3b 1 (.ptr o k f)=some (.ptr o k (f+1)):=id rfl
@[simp] theorem c6M (f:Bool) (rows:List (List D)) (i:Int):a0b tab a5c (.sl 1 f rows) (.int .i64 i)=if 0≤i then (rows[i.toNat]?).map .fptr else none:=by show (if 1=1∧0≤i then (match rows[i.toNat]? with | some row=>some (D.fptr row) | none=>none) else none)=_;by_cases h:0≤i <;> simp [h] <;> cases rows[i.toNat]? <;> rfl
@[simp] theorem ld5 (c:D) (cs:List D) (h:Hp):a0c tab h ty5 (.fptr (c::cs))=some c:=id rfl
@[simp] theorem c3U (k:IntKind) (n:Int):a2g tab ty5 ty3 (.int k n)=some (.int .i64 (IntKind.wrap .i64 n)):=id rfl
theorem b7J {h:Hp} {o T sz kk off:Nat} {rows:List (List D)} {row:List D} {v:D} (ho:h[o]?=some (.row T sz rows)) (hr:rows[kk]?=some row) (hv:(a0t v).length=1) (hl:off+1≤row.length) (hk:v.okv=true) {β:Type} {f:Hp→Option β} {Q:β→Prop}
  (k:∀ h',h'[o]?=some (.row T sz (rows.set kk (spl row off (a0t v))))→Same o h h'→Wp (f h') Q):Wp ((a0s tab h ty3 (.ptr o kk off) v).bind f) Q := 
 by rw [show a0s tab h ty3 (.ptr o kk off) v=pSt 1 h (.ptr o kk off) v from rfl];exact a2v ho hr hv hl hk k
@[simp] theorem a8e (h:Hp) (o k f:Nat):a0c tab h a0r (.ptr o k f)=(h.row o k).bind fun row=>(row.drop f).head?:=by show (match h.row o k with | some row=>_ | none=>none)=_;cases h.row o k <;> rfl
theorem b2S {h:Hp} {o T sz kk off:Nat} {rows:List (List D)} {row:List D} {v:D} (ho:h[o]?=some (.row T sz rows)) (hr:rows[kk]?=some row) (hv:(a0t v).length=1) (hl:off+1≤row.length) (hk:v.okv=true) {β:Type} {f:Hp→Option β} {Q:β→Prop}
  (k:∀ h',h'[o]?=some (.row T sz (rows.set kk (spl row off (a0t v))))→Same o h h'→Wp (f h') Q):Wp ((a0s tab h a0r (.ptr o kk off) v).bind f) Q := 
 by rw [show a0s tab h a0r (.ptr o kk off) v=pSt 1 h (.ptr o kk off) v from rfl];exact a2v ho hr hv hl hk k
@[simp] theorem c3E (c:D) (cs:List D) (h:Hp):a0c tab h a0C (.fptr (c::cs))=some c:=id rfl
@[simp] theorem a9W (d0:D) (n1:Int) (h0:d0.one=true):a0T tab a0j [0,1] [d0,.int .i64 n1]=some (.agg [d0,.int .i64 n1,.int .i64 0]):=by
 have c0:=a1k h0
 refine b3f (T:=tab) (i:=ti1237) (fs:=[(24,0,1),(3,1,1),(3,2,1)]) (id rfl) (id rfl) ?_
 rw [show ti1237.zero=[.nils,.int .i64 0,.int .i64 0] from id rfl]
 rw [a2s (off:=0) (sz:=1) (id rfl) (by rw [c0.1];rfl) (by simp [spl,a2a,a2b,a1O,a1Z]) c0.2,c0.1]
 rw [a2s (off:=1) (sz:=1) (id rfl) (id rfl) (by simp [spl,a2a,a2b,a1O,a1Z]) (id rfl)]
 exact id rfl
@[simp] theorem b1k (o k f:Nat):a0a tab a0j 2 (.ptr o k f)=some (.ptr o k (f+2)):=id rfl
@[simp] theorem a1Y {α:Type} {f:α→List D} {l:List α} {d:D} (h:SlOf 4 f l d):a0x tab a0P d=some (.int .i64 l.length) := 
 by
  rcases h with ⟨rfl,rfl⟩ | ⟨b,rfl⟩
  ·rfl
  ·show some (D.int .i64 ((l.map f).length:Nat))=_;simp
@[simp] theorem b9g (f:Bool) (rows:List (List D)) (i:Int):a0b tab a0P (.sl 4 f rows) (.int .i64 i)=if 0≤i then (rows[i.toNat]?).map .fptr else none:=by show (if 4=4∧0≤i then (match rows[i.toNat]? with | some row=>some (D.fptr row) | none=>none) else none)=_;by_cases h:0≤i <;> simp [h] <;> cases rows[i.toNat]? <;> rfl
@[simp] theorem a6i {α:Type} {f:α→List D} {l:List α} {d:D} (h:SlOf 4 f l d) (i:Int):a0b tab a0P d (.int .i64 i)=if 0≤i then (l[i.toNat]?).map fun p => .fptr (f p) else none := 
 by
  rcases h with ⟨rfl,rfl⟩ | ⟨b,rfl⟩
  ·show none=_;simp
  ·rw [b9g];simp [Function.comp_def]
@[simp] theorem a6W (o k f:Nat):a0a tab a0k 1 (.ptr o k f)=some (.ptr o k (f+1)):=id rfl
theorem b9R {h:Hp} {n0:Nat} (hn0:n0≤h.length) {rows:List (List D)} {x y:D} (hx:Own h n0 ty3 1 rows x) {ys:List (List D)} (hy:a0I h 1 y=some ys) (hl:(rows.length+ys.length)*8≤140737488355328) {β:Type} {f:D × Hp→Option β} {Q:β→Prop}
  (k:∀ x' h',Own h' n0 ty3 1 (rows++ys) x'→h.length≤h'.length→(∀ q,q<n0→h'[q]?=h[q]?)→(∀ q,q<h.length→¬ x.inOb q→h'[q]?=h[q]?)→(∀ q,x'.inOb q→x.inOb q∨h.length≤q)→Wp (f (x',h')) Q):Wp ((a0p tab h a1c a1c x y).bind f) Q := 
 a2H (T:=tab) (i:=c2Q) (j:=ti3) (id rfl) (id rfl) (id rfl) (by decide) hn0 hx hy (a2d hl (by omega)) k
@[simp] theorem b3h (x0_0 x0_1 x0_2:D):a0y tab a0u 1 [0] [.agg [x0_0,x0_1,x0_2]]=some (.sl 3 true [[x0_0,x0_1,x0_2]]):=id rfl
theorem b7k {h:Hp} {n0:Nat} (hn0:n0≤h.length) {rows:List (List D)} {x y:D} (hx:Own h n0 a0h 3 rows x) {ys:List (List D)} (hy:a0I h 3 y=some ys) (hl:(rows.length+ys.length)*56≤140737488355328) {β:Type} {f:D × Hp→Option β} {Q:β→Prop}
  (k:∀ x' h',Own h' n0 a0h 3 (rows++ys) x'→h.length≤h'.length→(∀ q,q<n0→h'[q]?=h[q]?)→(∀ q,q<h.length→¬ x.inOb q→h'[q]?=h[q]?)→(∀ q,x'.inOb q→x.inOb q∨h.length≤q)→Wp (f (x',h')) Q):Wp ((a0p tab h a0u a0u x y).bind f) Q := 
 a2H (T:=tab) (i:=a5A) (j:=ti1146) (id rfl) (id rfl) (id rfl) (by decide) hn0 hx hy (a2d hl (by omega)) k
@[simp] theorem a9D {α:Type} {f:α→List D} {l:List α} {d:D} (h:SlOf 10 f l d):a0x tab a3U d=some (.int .i64 l.length) := 
 by
  rcases h with ⟨rfl,rfl⟩ | ⟨b,rfl⟩
  ·rfl
  ·show some (D.int .i64 ((l.map f).length:Nat))=_;simp
@[simp] theorem c5R (f:Bool) (rows:List (List D)) (i:Int):a0b tab a3U (.sl 10 f rows) (.int .i64 i)=if 0≤i then (rows[i.toNat]?).map .fptr else none:=by show (if 10=10∧0≤i then (match rows[i.toNat]? with | some row=>some (D.fptr row) | none=>none) else none)=_;by_cases h:0≤i <;> simp [h] <;> cases rows[i.toNat]? <;> rfl
@[simp] theorem b1P {α:Type} {f:α→List D} {l:List α} {d:D} (h:SlOf 10 f l d) (i:Int):a0b tab a3U d (.int .i64 i)=if 0≤i then (l[i.toNat]?).map fun p => .fptr (f p) else none := 
 by
  rcases h with ⟨rfl,rfl⟩ | ⟨b,rfl⟩
  ·show none=_;simp
  ·rw [c5R];simp [Function.comp_def]
@[simp] theorem b3g  : a0y tab a0u 0 [] []=some (.sl 3 true []):=id rfl
@[simp] theorem b1S (h:Hp) (o k f:Nat):a0c tab h a0h (.ptr o k f)=(h.row o k).bind fun row=>a8p 3 (row.drop f):=by show (match h.row o k with | some row=>_ | none=>none)=_;cases h.row o k <;> rfl
@[simp] theorem b4H (n0:Int) (n1:Int):a0y tab a1c 2 [0,1] [.int .i64 n0,.int .i64 n1]=some (.sl 1 true [[.int .i64 n0],[.int .i64 n1]]):=id rfl
theorem b6Y {α:Type} {f:α→List D} {l:List α} {d:D} (hd:SlOf 3 f l d) {k:IntKind} {n:Int} (h0:0≤n) (h1:n≤l.length) :
  ∃ d',a0E tab a0u false true false [d,.int k n]=some d'∧SlOf 3 f (l.take n.toNat) d':=b2J (T:=tab) (i:=a5A) (j:=ti1146) (id rfl) (id rfl) (id rfl) (id rfl) hd h0 h1
def lt98_46:List (List UInt8):=[[108,101,118,101,108],[109,115],[117,115,101,114],[99,111,100,101]]
@[simp] theorem b7F:a0y tab a0C 4 [0,1,2,3] [.str [108,101,118,101,108],.str [109,115],.str [117,115,101,114],.str [99,111,100,101]]=some (.sl 1 true (lt98_46.map fun s=>[.str s])):=id rfl
theorem b9S {h:Hp} {o T sz kk off:Nat} {rows:List (List D)} {row:List D} {v:D} (ho:h[o]?=some (.row T sz rows)) (hr:rows[kk]?=some row) (hv:(a0t v).length=11) (hl:off+11≤row.length) (hk:v.okv=true) {β:Type} {f:Hp→Option β} {Q:β→Prop}
  (k:∀ h',h'[o]?=some (.row T sz (rows.set kk (spl row off (a0t v))))→Same o h h'→Wp (f h') Q):Wp ((a0s tab h a1X (.ptr o kk off) v).bind f) Q := 
 by rw [show a0s tab h a1X (.ptr o kk off) v=pSt 11 h (.ptr o kk off) v from rfl];exact a2v ho hr hv hl hk k
@[simp] theorem c1Y (h:Hp) (o k f:Nat):a0c tab h a1X (.ptr o k f)=(h.row o k).bind fun row=>a8p 11 (row.drop f):=by show (match h.row o k with | some row=>_ | none=>none)=_;cases h.row o k <;> rfl
theorem b9Q {h:Hp} {n0:Nat} (hn0:n0≤h.length) {rows:List (List D)} {x y:D} (hx:Own h n0 a1X 11 rows x) {ys:List (List D)} (hy:a0I h 11 y=some ys) (hl:(rows.length+ys.length)*144≤140737488355328) {β:Type} {f:D × Hp→Option β} {Q:β→Prop}
  (k:∀ x' h',Own h' n0 a1X 11 (rows++ys) x'→h.length≤h'.length→(∀ q,q<n0→h'[q]?=h[q]?)→(∀ q,q<h.length→¬ x.inOb q→h'[q]?=h[q]?)→(∀ q,x'.inOb q→x.inOb q∨h.length≤q)→Wp (f (x',h')) Q):Wp ((a0p tab h a2h a2h x y).bind f) Q := 
 a2H (T:=tab) (i:=b2M) (j:=c2O) (id rfl) (id rfl) (id rfl) (by decide) hn0 hx hy (a2d hl (by omega)) k
@[simp] theorem c3y (c0 c1 c2 c3:D) (cs:List D):a0a tab a0O 3 (.fptr (c0::c1::c2::c3::cs))=some (.fptr (c3::cs)):=id rfl
@[simp] theorem b6c (o k f:Nat):a0a tab a0O 3 (.ptr o k f)=some (.ptr o k (f+3)):=id rfl
@[simp] theorem b5N (d0:D) (h0:d0.one=true):a0y tab a3m 1 [0] [d0]=some (.sl 1 true [[d0]]):=a9E (T:=tab) (t:=a3m) (n:=1) (i:=b4q) (j:=b2M) (id rfl) (id rfl) (id rfl) (id rfl) [d0] rfl (by decide) (by simp [h0])
theorem b9P {h:Hp} {n0:Nat} (hn0:n0≤h.length) {rows:List (List D)} {x y:D} (hx:Own h n0 a2h 1 rows x) {ys:List (List D)} (hy:a0I h 1 y=some ys) (hl:(rows.length+ys.length)*24≤140737488355328) {β:Type} {f:D × Hp→Option β} {Q:β→Prop}
  (k:∀ x' h',Own h' n0 a2h 1 (rows++ys) x'→h.length≤h'.length→(∀ q,q<n0→h'[q]?=h[q]?)→(∀ q,q<h.length→¬ x.inOb q→h'[q]?=h[q]?)→(∀ q,x'.inOb q→x.inOb q∨h.length≤q)→Wp (f (x',h')) Q):Wp ((a0p tab h a3m a3m x y).bind f) Q := 
 a2H (T:=tab) (i:=b4q) (j:=b2M) (id rfl) (id rfl) (id rfl) (by decide) hn0 hx hy (a2d hl (by omega)) k
theorem b7o {h:Hp} {n0:Nat} (hn0:n0≤h.length) {rows:List (List D)} {x y:D} (hx:Own h n0 a0O 10 rows x) {ys:List (List D)} (hy:a0I h 10 y=some ys) (hl:(rows.length+ys.length)*128≤140737488355328) {β:Type} {f:D × Hp→Option β} {Q:β→Prop}
  (k:∀ x' h',Own h' n0 a0O 10 (rows++ys) x'→h.length≤h'.length→(∀ q,q<n0→h'[q]?=h[q]?)→(∀ q,q<h.length→¬ x.inOb q→h'[q]?=h[q]?)→(∀ q,x'.inOb q→x.inOb q∨h.length≤q)→Wp (f (x',h')) Q):Wp ((a0p tab h a3U a3U x y).bind f) Q := 
 a2H (T:=tab) (i:=b9H) (j:=b9G) (id rfl) (id rfl) (id rfl) (by decide) hn0 hx hy (a2d hl (by omega)) k
@[simp] theorem c3r (x0_0 x0_1 x0_2 x0_3 x0_4 x0_5 x0_6 x0_7 x0_8 x0_9:D):a0y tab a3U 1 [0] [.agg [x0_0,x0_1,x0_2,x0_3,x0_4,x0_5,x0_6,x0_7,x0_8,x0_9]]=some (.sl 10 true [[x0_0,x0_1,x0_2,x0_3,x0_4,x0_5,x0_6,x0_7,x0_8,x0_9]]):=id rfl
@[simp] theorem b3l  : a0y tab a0r 0 [] []=some (.sl 3 true []):=id rfl
@[simp] theorem a4C (k:IntKind) (n:Int):a2g tab ty3 a2S (.int k n)=some (.int .u64 (IntKind.wrap .u64 n)):=id rfl
@[simp] theorem a4B (k:IntKind) (n:Int):a2g tab a2S ty3 (.int k n)=some (.int .i64 (IntKind.wrap .i64 n)):=id rfl
@[simp] theorem b8H  : a0y tab a0C 0 [] []=some (.sl 1 true []):=id rfl
@[simp] theorem b3k (x0_0 x0_1 x0_2 x0_3:D):a0y tab a0P 1 [0] [.agg [x0_0,x0_1,x0_2,x0_3]]=some (.sl 4 true [[x0_0,x0_1,x0_2,x0_3]]):=id rfl
@[simp] theorem a9X (n0:Int) (n1:Int) (n2:Int):a0T tab a0O [0,1,2] [.int .i64 n0,.int .i64 n1,.int .i64 n2]=some (.agg [.int .i64 n0,.int .i64 n1,.int .i64 n2,.int .i64 0,.nils,.int .i64 0,.int .i64 0,.str [],.str [],.nils]):=id rfl
theorem c3g {h:Hp} {o T sz kk off:Nat} {rows:List (List D)} {row:List D} {v:D} (ho:h[o]?=some (.row T sz rows)) (hr:rows[kk]?=some row) (hv:(a0t v).length=10) (hl:off+10≤row.length) (hk:v.okv=true) {β:Type} {f:Hp→Option β} {Q:β→Prop}
  (k:∀ h',h'[o]?=some (.row T sz (rows.set kk (spl row off (a0t v))))→Same o h h'→Wp (f h') Q):Wp ((a0s tab h a0O (.ptr o kk off) v).bind f) Q := 
 by rw [show a0s tab h a0O (.ptr o kk off) v=pSt 10 h (.ptr o kk off) v from rfl];exact a2v ho hr hv hl hk k
@[simp] theorem c6a (s:List UInt8):a0x tab ty9 (.str s)=some (.int .i64 s.length):=id rfl
@[simp] theorem b1l (o k f:Nat):a0a tab a0O 4 (.ptr o k f)=some (.ptr o k (f+4)):=id rfl
@[simp] theorem b9m (h:Hp) (o k f:Nat):a0c tab h a7H (.ptr o k f)=(h.row o k).bind fun row=>(row.drop f).head?:=by show (match h.row o k with | some row=>_ | none=>none)=_;cases h.row o k <;> rfl
@[simp] theorem a9Y (n0:Int) (n1:Int) (s2:List UInt8):a0T tab b2X [0,1,2] [.int .i64 n0,.int .i64 n1,.str s2]=some (.agg [.int .i64 n0,.int .i64 n1,.str s2]):=id rfl
@[simp] theorem b8F (x0_0 x0_1 x0_2:D):a0y tab a7H 1 [0] [.agg [x0_0,x0_1,x0_2]]=some (.sl 3 true [[x0_0,x0_1,x0_2]]):=id rfl
theorem c3c {h:Hp} {n0:Nat} (hn0:n0≤h.length) {rows:List (List D)} {x y:D} (hx:Own h n0 b2X 3 rows x) {ys:List (List D)} (hy:a0I h 3 y=some ys) (hl:(rows.length+ys.length)*32≤140737488355328) {β:Type} {f:D × Hp→Option β} {Q:β→Prop}
  (k:∀ x' h',Own h' n0 b2X 3 (rows++ys) x'→h.length≤h'.length→(∀ q,q<n0→h'[q]?=h[q]?)→(∀ q,q<h.length→¬ x.inOb q→h'[q]?=h[q]?)→(∀ q,x'.inOb q→x.inOb q∨h.length≤q)→Wp (f (x',h')) Q):Wp ((a0p tab h a7H a7H x y).bind f) Q := 
 a2H (T:=tab) (i:=c2M) (j:=c2P) (id rfl) (id rfl) (id rfl) (by decide) hn0 hx hy (a2d hl (by omega)) k
theorem c3e {h:Hp} {o T sz kk off:Nat} {rows:List (List D)} {row:List D} {v:D} (ho:h[o]?=some (.row T sz rows)) (hr:rows[kk]?=some row) (hv:(a0t v).length=1) (hl:off+1≤row.length) (hk:v.okv=true) {β:Type} {f:Hp→Option β} {Q:β→Prop}
  (k:∀ h',h'[o]?=some (.row T sz (rows.set kk (spl row off (a0t v))))→Same o h h'→Wp (f h') Q):Wp ((a0s tab h a7H (.ptr o kk off) v).bind f) Q := 
 by rw [show a0s tab h a7H (.ptr o kk off) v=pSt 1 h (.ptr o kk off) v from rfl];exact a2v ho hr hv hl hk k
theorem b9n {h:Hp} {n0 e z:Nat} {rows:List (List D)} {d:D} (hd:Own h n0 e z rows d):a0x tab a7H d=some (.int .i64 rows.length):=by
 rcases hd with ⟨rfl,rfl⟩ | ⟨o,_,rfl,_⟩ <;> rfl
@[simp] theorem c1T (o r n:Nat) (i:Int):a0b tab a7H (.msl 3 o r n) (.int .i64 i)=if 0≤i∧i<n then some (.ptr o (r+i.toNat) 0) else none:=by show (if 3=3∧0≤i∧i<n then some (D.ptr o (r+i.toNat) 0) else none)=_;simp
@[simp] theorem b6i (o k f:Nat):a0a tab b2X 2 (.ptr o k f)=some (.ptr o k (f+2)):=id rfl
theorem c3i {h:Hp} {o T sz kk off:Nat} {rows:List (List D)} {row:List D} {v:D} (ho:h[o]?=some (.row T sz rows)) (hr:rows[kk]?=some row) (hv:(a0t v).length=1) (hl:off+1≤row.length) (hk:v.okv=true) {β:Type} {f:Hp→Option β} {Q:β→Prop}
  (k:∀ h',h'[o]?=some (.row T sz (rows.set kk (spl row off (a0t v))))→Same o h h'→Wp (f h') Q):Wp ((a0s tab h ty9 (.ptr o kk off) v).bind f) Q := 
 by rw [show a0s tab h ty9 (.ptr o kk off) v=pSt 1 h (.ptr o kk off) v from rfl];exact a2v ho hr hv hl hk k
def lt98_4:List (List UInt8):=[[115,97,109,112,108,101],[100,114,111,112],[116,111,111,45,108,111,110,103]]
@[simp] theorem b2b:a0y tab a0C 3 [0,1,2] [.str [115,97,109,112,108,101],.str [100,114,111,112],.str [116,111,111,45,108,111,110,103]]=some (.sl 1 true (lt98_4.map fun s=>[.str s])):=id rfl
@[simp] theorem b3e (s0:List UInt8) (x1_0 x1_1 x1_2 x1_3 x1_4 x1_5 x1_6 x1_7 x1_8 x1_9:D):a0T tab a1X [0,1] [.str s0,.agg [x1_0,x1_1,x1_2,x1_3,x1_4,x1_5,x1_6,x1_7,x1_8,x1_9]]=some (.agg [.str s0,x1_0,x1_1,x1_2,x1_3,x1_4,x1_5,x1_6,x1_7,x1_8,x1_9]):=id rfl
@[simp] theorem c3z (c0 c1 c2 c3 c4 c5:D) (cs:List D):a0a tab a0O 5 (.fptr (c0::c1::c2::c3::c4::c5::cs))=some (.fptr (c5::cs)):=id rfl
@[simp] theorem b6d (o k f:Nat):a0a tab a0O 5 (.ptr o k f)=some (.ptr o k (f+5)):=id rfl
@[simp] theorem b6e (o k f:Nat):a0a tab a0O 6 (.ptr o k f)=some (.ptr o k (f+6)):=id rfl
def lt98_5:List (List UInt8):=[[116,49],[116,50],[],[49,58,50,58,48]]
@[simp] theorem b2c:a0y tab a0C 4 [0,1,2,3] [.str [116,49],.str [116,50],.str [],.str [49,58,50,58,48]]=some (.sl 1 true (lt98_5.map fun s=>[.str s])):=id rfl
def lt98_6:List (List UInt8):=[[109,97,105,110],[100,101,98,117,103]]
@[simp] theorem b2d:a0y tab a0C 2 [0,1] [.str [109,97,105,110],.str [100,101,98,117,103]]=some (.sl 1 true (lt98_6.map fun s=>[.str s])):=id rfl
@[simp] theorem b6f (o k f:Nat):a0a tab a0O 7 (.ptr o k f)=some (.ptr o k (f+7)):=id rfl
@[simp] theorem b6g (o k f:Nat):a0a tab a0O 8 (.ptr o k f)=some (.ptr o k (f+8)):=id rfl
@[simp] theorem c3A (c0 c1 c2 c3 c4 c5 c6 c7 c8 c9:D) (cs:List D):a0a tab a0O 9 (.fptr (c0::c1::c2::c3::c4::c5::c6::c7::c8::c9::cs))=some (.fptr (c9::cs)):=id rfl
@[simp] theorem b6h (o k f:Nat):a0a tab a0O 9 (.ptr o k f)=some (.ptr o k (f+9)):=id rfl
theorem c3f {h:Hp} {o T sz kk off:Nat} {rows:List (List D)} {row:List D} {v:D} (ho:h[o]?=some (.row T sz rows)) (hr:rows[kk]?=some row) (hv:(a0t v).length=1) (hl:off+1≤row.length) (hk:v.okv=true) {β:Type} {f:Hp→Option β} {Q:β→Prop}
  (k:∀ h',h'[o]?=some (.row T sz (rows.set kk (spl row off (a0t v))))→Same o h h'→Wp (f h') Q):Wp ((a0s tab h a4V (.ptr o kk off) v).bind f) Q := 
 by rw [show a0s tab h a4V (.ptr o kk off) v=pSt 1 h (.ptr o kk off) v from rfl];exact a2v ho hr hv hl hk k
@[simp] theorem b8C (x0_0 x0_1 x0_2 x0_3 x0_4 x0_5 x0_6 x0_7 x0_8 x0_9:D):a0T tab a1X [1] [.agg [x0_0,x0_1,x0_2,x0_3,x0_4,x0_5,x0_6,x0_7,x0_8,x0_9]]=some (.agg [.str [],x0_0,x0_1,x0_2,x0_3,x0_4,x0_5,x0_6,x0_7,x0_8,x0_9]):=id rfl
@[simp] theorem c3v (c0:D) (cs:List D):a0a tab a0O 0 (.fptr (c0::cs))=some (.fptr (c0::cs)):=id rfl
@[simp] theorem c3w (c0 c1:D) (cs:List D):a0a tab a0O 1 (.fptr (c0::c1::cs))=some (.fptr (c1::cs)):=id rfl
@[simp] theorem c3x (c0 c1 c2:D) (cs:List D):a0a tab a0O 2 (.fptr (c0::c1::c2::cs))=some (.fptr (c2::cs)):=id rfl
@[simp] theorem c6N (c:D) (cs:List D) (h:Hp):a0c tab h a4V (.fptr (c::cs))=some c:=id rfl
@[simp] theorem b1T (h:Hp) (o k f:Nat):a0c tab h a0k (.ptr o k f)=(h.row o k).bind fun row=>a8p 4 (row.drop f):=by show (match h.row o k with | some row=>_ | none=>none)=_;cases h.row o k <;> rfl
theorem b7l {h:Hp} {n0:Nat} (hn0:n0≤h.length) {rows:List (List D)} {x y:D} (hx:Own h n0 a0k 4 rows x) {ys:List (List D)} (hy:a0I h 4 y=some ys) (hl:(rows.length+ys.length)*96≤140737488355328) {β:Type} {f:D × Hp→Option β} {Q:β→Prop}
  (k:∀ x' h',Own h' n0 a0k 4 (rows++ys) x'→h.length≤h'.length→(∀ q,q<n0→h'[q]?=h[q]?)→(∀ q,q<h.length→¬ x.inOb q→h'[q]?=h[q]?)→(∀ q,x'.inOb q→x.inOb q∨h.length≤q)→Wp (f (x',h')) Q):Wp ((a0p tab h a0P a0P x y).bind f) Q := 
 a2H (T:=tab) (i:=b2N) (j:=ti1168) (id rfl) (id rfl) (id rfl) (by decide) hn0 hx hy (a2d hl (by omega)) k
@[simp] theorem a8Q (d0:D) (h0:d0.one=true):a0T tab a0k [0] [d0]=some (.agg [d0,.nils,.nils,.nils]):=by
 have c0:=a1k h0
 refine b3f (T:=tab) (i:=ti1168) (fs:=[(24,0,1),(40,1,1),(87,2,1),(88,3,1)]) (id rfl) (id rfl) ?_
 rw [show ti1168.zero=[.nils,.nils,.nils,.nils] from id rfl]
 rw [a2s (off:=0) (sz:=1) (id rfl) (by rw [c0.1];rfl) (by simp [spl,a2a,a2b,a1O,a1Z]) c0.2,c0.1]
 exact id rfl
theorem a8q {h:Hp} {o T sz kk off:Nat} {rows:List (List D)} {row:List D} {v:D} (ho:h[o]?=some (.row T sz rows)) (hr:rows[kk]?=some row) (hv:(a0t v).length=4) (hl:off+4≤row.length) (hk:v.okv=true) {β:Type} {f:Hp→Option β} {Q:β→Prop}
  (k:∀ h',h'[o]?=some (.row T sz (rows.set kk (spl row off (a0t v))))→Same o h h'→Wp (f h') Q):Wp ((a0s tab h a0k (.ptr o kk off) v).bind f) Q := 
 by rw [show a0s tab h a0k (.ptr o kk off) v=pSt 4 h (.ptr o kk off) v from rfl];exact a2v ho hr hv hl hk k
@[simp] theorem b4G (n0:Int):a0y tab a1c 1 [0] [.int .i64 n0]=some (.sl 1 true [[.int .i64 n0]]):=id rfl
@[simp] theorem a6X (o k f:Nat):a0a tab a0k 2 (.ptr o k f)=some (.ptr o k (f+2)):=id rfl
@[simp] theorem b6A (h:Hp) (o k f:Nat):a0c tab h a0G (.ptr o k f)=(h.row o k).bind fun row=>(row.drop f).head?:=by show (match h.row o k with | some row=>_ | none=>none)=_;cases h.row o k <;> rfl
@[simp] theorem a8R (b0:Bool):a0y tab a0G 1 [0] [.bool b0]=some (.sl 1 true [[.bool b0]]):=id rfl
theorem b7m {h:Hp} {n0:Nat} (hn0:n0≤h.length) {rows:List (List D)} {x y:D} (hx:Own h n0 ty4 1 rows x) {ys:List (List D)} (hy:a0I h 1 y=some ys) (hl:(rows.length+ys.length)*1≤140737488355328) {β:Type} {f:D × Hp→Option β} {Q:β→Prop}
  (k:∀ x' h',Own h' n0 ty4 1 (rows++ys) x'→h.length≤h'.length→(∀ q,q<n0→h'[q]?=h[q]?)→(∀ q,q<h.length→¬ x.inOb q→h'[q]?=h[q]?)→(∀ q,x'.inOb q→x.inOb q∨h.length≤q)→Wp (f (x',h')) Q):Wp ((a0p tab h a0G a0G x y).bind f) Q := 
 a2H (T:=tab) (i:=b2O) (j:=ti4) (id rfl) (id rfl) (id rfl) (by decide) hn0 hx hy (a2d hl (by omega)) k
@[simp] theorem a6Y (o k f:Nat):a0a tab a0k 3 (.ptr o k f)=some (.ptr o k (f+3)):=id rfl
@[simp] theorem b6B (h:Hp) (o k f:Nat):a0c tab h a0L (.ptr o k f)=(h.row o k).bind fun row=>(row.drop f).head?:=by show (match h.row o k with | some row=>_ | none=>none)=_;cases h.row o k <;> rfl
@[simp] theorem a8S (d0:D) (h0:d0.one=true):a0y tab a0L 1 [0] [d0]=some (.sl 1 true [[d0]]):=a9E (T:=tab) (t:=a0L) (n:=1) (i:=a9R) (j:=b7g) (id rfl) (id rfl) (id rfl) (id rfl) [d0] rfl (by decide) (by simp [h0])
theorem b7n {h:Hp} {n0:Nat} (hn0:n0≤h.length) {rows:List (List D)} {x y:D} (hx:Own h n0 a0C 1 rows x) {ys:List (List D)} (hy:a0I h 1 y=some ys) (hl:(rows.length+ys.length)*24≤140737488355328) {β:Type} {f:D × Hp→Option β} {Q:β→Prop}
  (k:∀ x' h',Own h' n0 a0C 1 (rows++ys) x'→h.length≤h'.length→(∀ q,q<n0→h'[q]?=h[q]?)→(∀ q,q<h.length→¬ x.inOb q→h'[q]?=h[q]?)→(∀ q,x'.inOb q→x.inOb q∨h.length≤q)→Wp (f (x',h')) Q):Wp ((a0p tab h a0L a0L x y).bind f) Q := 
 a2H (T:=tab) (i:=a9R) (j:=b7g) (id rfl) (id rfl) (id rfl) (by decide) hn0 hx hy (a2d hl (by omega)) k
theorem c3h {h:Hp} {o T sz kk off:Nat} {rows:List (List D)} {row:List D} {v:D} (ho:h[o]?=some (.row T sz rows)) (hr:rows[kk]?=some row) (hv:(a0t v).length=1) (hl:off+1≤row.length) (hk:v.okv=true) {β:Type} {f:Hp→Option β} {Q:β→Prop}
  (k:∀ h',h'[o]?=some (.row T sz (rows.set kk (spl row off (a0t v))))→Same o h h'→Wp (f h') Q):Wp ((a0s tab h a1c (.ptr o kk off) v).bind f) Q := 
 by rw [show a0s tab h a1c (.ptr o kk off) v=pSt 1 h (.ptr o kk off) v from rfl];exact a2v ho hr hv hl hk k
theorem b7t {h:Hp} {o T sz kk off:Nat} {rows:List (List D)} {row:List D} {v:D} (ho:h[o]?=some (.row T sz rows)) (hr:rows[kk]?=some row) (hv:(a0t v).length=1) (hl:off+1≤row.length) (hk:v.okv=true) {β:Type} {f:Hp→Option β} {Q:β→Prop}
  (k:∀ h',h'[o]?=some (.row T sz (rows.set kk (spl row off (a0t v))))→Same o h h'→Wp (f h') Q):Wp ((a0s tab h a0G (.ptr o kk off) v).bind f) Q := 
 by rw [show a0s tab h a0G (.ptr o kk off) v=pSt 1 h (.ptr o kk off) v from rfl];exact a2v ho hr hv hl hk k
theorem b7u {h:Hp} {o T sz kk off:Nat} {rows:List (List D)} {row:List D} {v:D} (ho:h[o]?=some (.row T sz rows)) (hr:rows[kk]?=some row) (hv:(a0t v).length=1) (hl:off+1≤row.length) (hk:v.okv=true) {β:Type} {f:Hp→Option β} {Q:β→Prop}
  (k:∀ h',h'[o]?=some (.row T sz (rows.set kk (spl row off (a0t v))))→Same o h h'→Wp (f h') Q):Wp ((a0s tab h a0L (.ptr o kk off) v).bind f) Q := 
 by rw [show a0s tab h a0L (.ptr o kk off) v=pSt 1 h (.ptr o kk off) v from rfl];exact a2v ho hr hv hl hk k
theorem a2U {h:Hp} {o T sz kk off:Nat} {rows:List (List D)} {row:List D} {v:D} (ho:h[o]?=some (.row T sz rows)) (hr:rows[kk]?=some row) (hv:(a0t v).length=3) (hl:off+3≤row.length) (hk:v.okv=true) {β:Type} {f:Hp→Option β} {Q:β→Prop}
  (k:∀ h',h'[o]?=some (.row T sz (rows.set kk (spl row off (a0t v))))→Same o h h'→Wp (f h') Q):Wp ((a0s tab h a0h (.ptr o kk off) v).bind f) Q := 
 by rw [show a0s tab h a0h (.ptr o kk off) v=pSt 3 h (.ptr o kk off) v from rfl];exact a2v ho hr hv hl hk k
def lt98_7:List (List UInt8):=[[32],[32],[44,32],[61],[]]
@[simp] theorem b2e:a0y tab a0C 5 [0,1,2,3,4] [.str [32],.str [32],.str [44,32],.str [61],.str []]=some (.sl 1 true (lt98_7.map fun s=>[.str s])):=id rfl
def lt82_8:List Int:=[1,1,2,5,10,5040]
@[simp] theorem b9o:a0y tab a1c 6 [0,1,2,3,4,5] [.int .i64 1,.int .i64 1,.int .i64 2,.int .i64 5,.int .i64 10,.int .i64 5040]=some (.sl 1 true (lt82_8.map fun n=>[.int .i64 n])):=id rfl
def lt98_9:List (List UInt8):=[[99,111,100,101],[108,101,118,101,108],[109,115],[117,115,101,114]]
@[simp] theorem b0j:lt98_9.length=4:=id rfl
@[simp] theorem b2f:a0y tab a0C 4 [0,1,2,3] [.str [99,111,100,101],.str [108,101,118,101,108],.str [109,115],.str [117,115,101,114]]=some (.sl 1 true (lt98_9.map fun s=>[.str s])):=id rfl
@[simp] theorem b0E (s0:List UInt8) (s1:List UInt8):a0T tab a3l [0,1] [.str s0,.str s1]=some (.agg [.str s0,.str s1]):=id rfl
@[simp] theorem b8G (x0_0 x0_1:D):a0y tab a4V 1 [0] [.agg [x0_0,x0_1]]=some (.sl 2 true [[x0_0,x0_1]]):=id rfl
theorem c3d {h:Hp} {n0:Nat} (hn0:n0≤h.length) {rows:List (List D)} {x y:D} (hx:Own h n0 a3l 2 rows x) {ys:List (List D)} (hy:a0I h 2 y=some ys) (hl:(rows.length+ys.length)*32≤140737488355328) {β:Type} {f:D × Hp→Option β} {Q:β→Prop}
  (k:∀ x' h',Own h' n0 a3l 2 (rows++ys) x'→h.length≤h'.length→(∀ q,q<n0→h'[q]?=h[q]?)→(∀ q,q<h.length→¬ x.inOb q→h'[q]?=h[q]?)→(∀ q,x'.inOb q→x.inOb q∨h.length≤q)→Wp (f (x',h')) Q):Wp ((a0p tab h a4V a4V x y).bind f) Q := 
 a2H (T:=tab) (i:=c2N) (j:=b7f) (id rfl) (id rfl) (id rfl) (by decide) hn0 hx hy (a2d hl (by omega)) k
@[simp] theorem a7r {α:Type} {f:α→List D} {l:List α} {d:D} (h:SlOf 2 f l d):a0x tab a4V d=some (.int .i64 l.length) := 
 by
  rcases h with ⟨rfl,rfl⟩ | ⟨b,rfl⟩
  ·rfl
  ·show some (D.int .i64 ((l.map f).length:Nat))=_;simp
@[simp] theorem c5Q (f:Bool) (rows:List (List D)) (i:Int):a0b tab a4V (.sl 2 f rows) (.int .i64 i)=if 0≤i then (rows[i.toNat]?).map .fptr else none:=by show (if 2=2∧0≤i then (match rows[i.toNat]? with | some row=>some (D.fptr row) | none=>none) else none)=_;by_cases h:0≤i <;> simp [h] <;> cases rows[i.toNat]? <;> rfl
@[simp] theorem b3V {α:Type} {f:α→List D} {l:List α} {d:D} (h:SlOf 2 f l d) (i:Int):a0b tab a4V d (.int .i64 i)=if 0≤i then (l[i.toNat]?).map fun p => .fptr (f p) else none := 
 by
  rcases h with ⟨rfl,rfl⟩ | ⟨b,rfl⟩
  ·show none=_;simp
  ·rw [c5Q];simp [Function.comp_def]
@[simp] theorem c5V (c0 c1:D) (cs:List D) (h:Hp):a0c tab h a3l (.fptr (c0::c1::cs))=some (.agg [c0,c1]):=id rfl
@[simp] theorem c1D (c0:D) (cs:List D):a0a tab a3l 0 (.fptr (c0::cs))=some (.fptr (c0::cs)):=id rfl
@[simp] theorem c1E (c0 c1:D) (cs:List D):a0a tab a3l 1 (.fptr (c0::c1::cs))=some (.fptr (c1::cs)):=id rfl
@[simp] theorem b9h (f:Bool) (rows:List (List D)) (i:Int):a0b tab a0G (.sl 1 f rows) (.int .i64 i)=if 0≤i then (rows[i.toNat]?).map .fptr else none:=by show (if 1=1∧0≤i then (match rows[i.toNat]? with | some row=>some (D.fptr row) | none=>none) else none)=_;by_cases h:0≤i <;> simp [h] <;> cases rows[i.toNat]? <;> rfl
@[simp] theorem b6v {α:Type} {f:α→List D} {l:List α} {d:D} (h:SlOf 1 f l d) (i:Int):a0b tab a0G d (.int .i64 i)=if 0≤i then (l[i.toNat]?).map fun p => .fptr (f p) else none := 
 by
  rcases h with ⟨rfl,rfl⟩ | ⟨b,rfl⟩
  ·show none=_;simp
  ·rw [b9h];simp [Function.comp_def]
def lt98_10:List (List UInt8):=[[103,101,116],[101,114,114,111,114],[119,97,114,110],[97,49],[117,115,101,114,95,55],[120],[84,105,109,101,111,117,116],[50,48,48],[71,69,84],[101,114,114,111],[122],[],[255],[97,46,98]]
@[simp] theorem b6G:lt98_10.length=14:=id rfl
@[simp] theorem b7D:a0y tab a0C 14 [0,1,2,3,4,5,6,7,8,9,10,11,12,13] [.str [103,101,116],.str [101,114,114,111,114],.str [119,97,114,110],.str [97,49],.str [117,115,101,114,95,55],.str [120],.str [84,105,109,101,111,117,116],.str [50,48,48],.str [71,69,84],.str [101,114,114,111],.str [122],.str [],.str [255],.str [97,46,98]]=some (.sl 1 true (lt98_10.map fun s=>[.str s])):=id rfl
def lt98_1:List (List UInt8):=[[119,97,114,110],[105,110,102,111],[55],[45,51],[51,49],[],[120,32,121],[57,57,57,57,57,57,57,57,57,57,57,57,57,57,57,57,57,57],[49,48,48,48,48,48,48,48,48,48,48,48,48,48,48,48,48,48,48],[48,55],[45]]
@[simp] theorem b7E:lt98_1.length=11:=id rfl
@[simp] theorem b9p:a0y tab a0C 11 [0,1,2,3,4,5,6,7,8,9,10] [.str [119,97,114,110],.str [105,110,102,111],.str [55],.str [45,51],.str [51,49],.str [],.str [120,32,121],.str [57,57,57,57,57,57,57,57,57,57,57,57,57,57,57,57,57,57],.str [49,48,48,48,48,48,48,48,48,48,48,48,48,48,48,48,48,48,48],.str [48,55],.str [45]]=some (.sl 1 true (lt98_1.map fun s=>[.str s])):=id rfl
@[simp] theorem b3x (k:IntKind) (n:Int):a2g tab ty3 a4d (.int k n)=some (.int .u64 (IntKind.wrap .u64 n)):=id rfl
@[simp] theorem b3w (k:IntKind) (n:Int):a2g tab a4d ty5 (.int k n)=some (.int .u8 (IntKind.wrap .u8 n)):=id rfl
@[simp] theorem b8E (n0:Int):a0y tab a5c 1 [0] [.int .u8 n0]=some (.sl 1 true [[.int .u8 n0]]):=id rfl
end Go.Proofs.YtehgglgadbmecaaDoor

/- Operations at the types of this seat. -/
import Derived.Test.YtjmndhbabkjebaaDoorC9
import Derived.Test.YtjmndhbabkjebaaDoorPiZ
set_option linter.unusedSimpArgs false
set_option linter.unusedVariables false
set_option linter.unnecessarySimpa false
set_option maxRecDepth 20000
set_option maxHeartbeats 2000000
namespace Go.Proofs.YtjmndhbabkjebaaDoor
open Go.Eng Go.Pi
@[simp] theorem a1H {α:Type} {f:α→List D} {l:List α} {d:D} (h:SlOf 1 f l d):a0y tab a0G d=some (.int .i64 l.length) := 
 by
  rcases h with ⟨rfl,rfl⟩ | ⟨b,rfl⟩
  ·rfl
  ·show some (D.int .i64 ((l.map f).length:Nat))=_;simp
@[simp] theorem c9Y (z:Nat) (f:Bool) (rows:List (List D)):a0y tab a0G (.sl z f rows)=some (.int .i64 rows.length):=id rfl
@[simp] theorem b1U (z o r n:Nat):a0y tab a0G (.msl z o r n)=some (.int .i64 n):=id rfl
theorem b0H {α:Type} {f:α→List D} {l:List α} {d:D} (hd:SlOf 1 f l d) {k:IntKind} {n:Int} (h0:0≤n) (h1:n≤l.length) :
  ∃ d',a0w tab a0G false true false [d,.int k n]=some d'∧SlOf 1 f (l.take n.toNat) d':=c0E (T:=tab) (i:=ti22) (j:=ti5) (id rfl) (id rfl) (id rfl) (id rfl) hd h0 h1
@[simp] theorem c2q (d0:D) (h0:d0.one=true):a0D tab a9P [0] [d0]=some (.agg [d0,.int .i64 0]):=by
 have c0:=a0E h0
 refine b2u (T:=tab) (i:=ti80) (fs:=[(22,0,1),(3,1,1)]) (id rfl) (id rfl) ?_
 rw [show ti80.zero=[.nils,.int .i64 0] from id rfl]
 rw [a1v (off:=0) (sz:=1) (id rfl) (by rw [c0.1];rfl) (by simp [spl,a1j,a1k,a0Z,a1i]) c0.2,c0.1]
 exact id rfl
@[simp] theorem c6g (o k f:Nat):a0a tab a9P 1 (.ptr o k f)=some (.ptr o k (f+1)):=id rfl
@[simp] theorem ld3 (c:D) (cs:List D) (h:Hp):a0d tab h ty3 (.fptr (c::cs))=some c:=id rfl
@[simp] theorem a6h (h:Hp) (o k f:Nat):a0d tab h ty3 (.ptr o k f)=(h.row o k).bind fun row=>(row.drop f).head?:=by show (match h.row o k with | some row=>_ | none=>none)=_;cases h.row o k <;> rfl
theorem c1a {h:Hp} {o T sz kk off:Nat} {rows:List (List D)} {row:List D} {v:D} (ho:h[o]?=some (.row T sz rows)) (hr:rows[kk]?=some row) (hv:(a0u v).length=1) (hl:off+1≤row.length) (hk:v.okv=true) {β:Type} {f:Hp→Option β} {Q:β→Prop}
  (k:∀ h',h'[o]?=some (.row T sz (rows.set kk (spl row off (a0u v))))→Same o h h'→Wp (f h') Q):Wp ((a0q tab h ty3 (.ptr o kk off) v).bind f) Q := 
 by rw [show a0q tab h ty3 (.ptr o kk off) v=pSt 1 h (.ptr o kk off) v from rfl];exact a3i ho hr hv hl hk k
@[simp] theorem c6f (o k f:Nat):a0a tab a9P 0 (.ptr o k f)=some (.ptr o k (f+0)):=id rfl
@[simp] theorem c0i (h:Hp) (o k f:Nat):a0d tab h a0G (.ptr o k f)=(h.row o k).bind fun row=>(row.drop f).head?:=by show (match h.row o k with | some row=>_ | none=>none)=_;cases h.row o k <;> rfl
@[simp] theorem c9V (f:Bool) (rows:List (List D)) (i:Int):a0b tab a0G (.sl 1 f rows) (.int .i64 i)=if 0≤i then (rows[i.toNat]?).map .fptr else none:=by show (if 1=1∧0≤i then (match rows[i.toNat]? with | some row=>some (D.fptr row) | none=>none) else none)=_;by_cases h:0≤i <;> simp [h] <;> cases rows[i.toNat]? <;> rfl
@[simp] theorem b7q (o r n:Nat) (i:Int):a0b tab a0G (.msl 1 o r n) (.int .i64 i)=if 0≤i∧i<n then some (.ptr o (r+i.toNat) 0) else none:=by show (if 1=1∧0≤i∧i<n then some (D.ptr o (r+i.toNat) 0) else none)=_;simp
@[simp] theorem b9Z {α:Type} {f:α→List D} {l:List α} {d:D} (h:SlOf 1 f l d) (i:Int):a0b tab a0G d (.int .i64 i)=if 0≤i then (l[i.toNat]?).map fun p => .fptr (f p) else none := 
 by
  rcases h with ⟨rfl,rfl⟩ | ⟨b,rfl⟩
  ·show none=_;simp
  ·rw [c9V];simp [Function.comp_def]
@[simp] theorem ld5 (c:D) (cs:List D) (h:Hp):a0d tab h ty5 (.fptr (c::cs))=some c:=id rfl
@[simp] theorem c7Y (h:Hp) (o k f:Nat):a0d tab h ty5 (.ptr o k f)=(h.row o k).bind fun row=>(row.drop f).head?:=by show (match h.row o k with | some row=>_ | none=>none)=_;cases h.row o k <;> rfl
@[simp] theorem c2D (k:IntKind) (n:Int):a1O tab ty5 ty3 (.int k n)=some (.int .i64 (IntKind.wrap .i64 n)):=id rfl
@[simp] theorem a5C (h:Hp) (o k f:Nat):a0d tab h a0m (.ptr o k f)=(h.row o k).bind fun row=>a9N 3 (row.drop f):=by show (match h.row o k with | some row=>_ | none=>none)=_;cases h.row o k <;> rfl
@[simp] theorem b2t (n0:Int) (d1:D) (h1:d1.one=true):a0D tab a0m [0,1] [.int .i64 n0,d1]=some (.agg [.int .i64 n0,d1,.nils]):=by
 have c1:=a0E h1
 refine b2u (T:=tab) (i:=ti1197) (fs:=[(3,0,1),(27,1,1),(28,2,1)]) (id rfl) (id rfl) ?_
 rw [show ti1197.zero=[.int .i64 0,.nils,.nils] from id rfl]
 rw [a1v (off:=0) (sz:=1) (id rfl) (id rfl) (by simp [spl,a1j,a1k,a0Z,a1i]) (id rfl)]
 rw [a1v (off:=1) (sz:=1) (id rfl) (by rw [c1.1];rfl) (by simp [spl,a1j,a1k,a0Z,a1i]) c1.2,c1.1]
 exact id rfl
theorem a6Y {h:Hp} {o T sz kk off:Nat} {rows:List (List D)} {row:List D} {v:D} (ho:h[o]?=some (.row T sz rows)) (hr:rows[kk]?=some row) (hv:(a0u v).length=3) (hl:off+3≤row.length) (hk:v.okv=true) {β:Type} {f:Hp→Option β} {Q:β→Prop}
  (k:∀ h',h'[o]?=some (.row T sz (rows.set kk (spl row off (a0u v))))→Same o h h'→Wp (f h') Q):Wp ((a0q tab h a0m (.ptr o kk off) v).bind f) Q := 
 by rw [show a0q tab h a0m (.ptr o kk off) v=pSt 3 h (.ptr o kk off) v from rfl];exact a3i ho hr hv hl hk k
@[simp] theorem a8X (o k f:Nat):a0a tab a0m 2 (.ptr o k f)=some (.ptr o k (f+2)):=id rfl
theorem b9c {h:Hp} {o T sz kk off:Nat} {rows:List (List D)} {row:List D} {v:D} (ho:h[o]?=some (.row T sz rows)) (hr:rows[kk]?=some row) (hv:(a0u v).length=1) (hl:off+1≤row.length) (hk:v.okv=true) {β:Type} {f:Hp→Option β} {Q:β→Prop}
  (k:∀ h',h'[o]?=some (.row T sz (rows.set kk (spl row off (a0u v))))→Same o h h'→Wp (f h') Q):Wp ((a0q tab h a1N (.ptr o kk off) v).bind f) Q := 
 by rw [show a0q tab h a1N (.ptr o kk off) v=pSt 1 h (.ptr o kk off) v from rfl];exact a3i ho hr hv hl hk k
theorem b7S {h:Hp} {n0:Nat} (hn0:n0≤h.length) {rows:List (List D)} {x y:D} (hx:Own h n0 ty5 1 rows x) {ys:List (List D)} (hy:a1h h 1 y=some ys) (hl:(rows.length+ys.length)*1≤140737488355328) {β:Type} {f:D × Hp→Option β} {Q:β→Prop}
  (k:∀ x' h',Own h' n0 ty5 1 (rows++ys) x'→h.length≤h'.length→(∀ q,q<n0→h'[q]?=h[q]?)→(∀ q,q<h.length→¬ x.inOb q→h'[q]?=h[q]?)→(∀ q,x'.inOb q→x.inOb q∨h.length≤q)→Wp (f (x',h')) Q):Wp ((a0A tab h a0G a0G x y).bind f) Q := 
 a6s (T:=tab) (i:=ti22) (j:=ti5) (id rfl) (id rfl) (id rfl) (by decide) hn0 hx hy (a3Q hl (by omega)) k
@[simp] theorem b4h (o k f:Nat):a0a tab a0m 1 (.ptr o k f)=some (.ptr o k (f+1)):=id rfl
@[simp] theorem a6L (c:D) (cs:List D) (h:Hp):a0d tab h a0N (.fptr (c::cs))=some c:=id rfl
@[simp] theorem c0h (h:Hp) (o k f:Nat):a0d tab h a0N (.ptr o k f)=(h.row o k).bind fun row=>(row.drop f).head?:=by show (match h.row o k with | some row=>_ | none=>none)=_;cases h.row o k <;> rfl
@[simp] theorem c0f (c:D) (cs:List D) (h:Hp):a0d tab h a1N (.fptr (c::cs))=some c:=id rfl
@[simp] theorem c3k (h:Hp) (o k f:Nat):a0d tab h a1N (.ptr o k f)=(h.row o k).bind fun row=>(row.drop f).head?:=by show (match h.row o k with | some row=>_ | none=>none)=_;cases h.row o k <;> rfl
@[simp] theorem a7i (n0:Int) (n1:Int):a0D tab a1f [0,1] [.int .i64 n0,.int .i64 n1]=some (.agg [.int .i64 n0,.int .i64 n1]):=id rfl
@[simp] theorem b1f (x0_0 x0_1:D):a0H tab a0N 1 [0] [.agg [x0_0,x0_1]]=some (.sl 2 true [[x0_0,x0_1]]):=id rfl
theorem b6p {h:Hp} {n0:Nat} (hn0:n0≤h.length) {rows:List (List D)} {x y:D} (hx:Own h n0 a1f 2 rows x) {ys:List (List D)} (hy:a1h h 2 y=some ys) (hl:(rows.length+ys.length)*16≤140737488355328) {β:Type} {f:D × Hp→Option β} {Q:β→Prop}
  (k:∀ x' h',Own h' n0 a1f 2 (rows++ys) x'→h.length≤h'.length→(∀ q,q<n0→h'[q]?=h[q]?)→(∀ q,q<h.length→¬ x.inOb q→h'[q]?=h[q]?)→(∀ q,x'.inOb q→x.inOb q∨h.length≤q)→Wp (f (x',h')) Q):Wp ((a0A tab h a0N a0N x y).bind f) Q := 
 a6s (T:=tab) (i:=b6i) (j:=b6j) (id rfl) (id rfl) (id rfl) (by decide) hn0 hx hy (a3Q hl (by omega)) k
theorem c0Y {h:Hp} {o T sz kk off:Nat} {rows:List (List D)} {row:List D} {v:D} (ho:h[o]?=some (.row T sz rows)) (hr:rows[kk]?=some row) (hv:(a0u v).length=3) (hl:off+3≤row.length) (hk:v.okv=true) {β:Type} {f:Hp→Option β} {Q:β→Prop}
  (k:∀ h',h'[o]?=some (.row T sz (rows.set kk (spl row off (a0u v))))→Same o h h'→Wp (f h') Q):Wp ((a0q tab h a2n (.ptr o kk off) v).bind f) Q := 
 by rw [show a0q tab h a2n (.ptr o kk off) v=pSt 3 h (.ptr o kk off) v from rfl];exact a3i ho hr hv hl hk k
theorem b3o {h:Hp} {o T sz kk off:Nat} {rows:List (List D)} {row:List D} {v:D} (ho:h[o]?=some (.row T sz rows)) (hr:rows[kk]?=some row) (hv:(a0u v).length=11) (hl:off+11≤row.length) (hk:v.okv=true) {β:Type} {f:Hp→Option β} {Q:β→Prop}
  (k:∀ h',h'[o]?=some (.row T sz (rows.set kk (spl row off (a0u v))))→Same o h h'→Wp (f h') Q):Wp ((a0q tab h a0P (.ptr o kk off) v).bind f) Q := 
 by rw [show a0q tab h a0P (.ptr o kk off) v=pSt 11 h (.ptr o kk off) v from rfl];exact a3i ho hr hv hl hk k
@[simp] theorem a3L (o k f:Nat):a0a tab a0P 1 (.ptr o k f)=some (.ptr o k (f+1)):=id rfl
@[simp] theorem c2Q (c0 c1:D) (cs:List D):a0a tab a0F 1 (.fptr (c0::c1::cs))=some (.fptr (c1::cs)):=id rfl
@[simp] theorem b0f (o k f:Nat):a0a tab a0F 1 (.ptr o k f)=some (.ptr o k (f+1)):=id rfl
@[simp] theorem b8m (c0 c1 c2:D) (cs:List D):a0a tab a0F 2 (.fptr (c0::c1::c2::cs))=some (.fptr (c2::cs)):=id rfl
@[simp] theorem a4D (o k f:Nat):a0a tab a0F 2 (.ptr o k f)=some (.ptr o k (f+2)):=id rfl
@[simp] theorem b8n (c0 c1 c2 c3 c4:D) (cs:List D):a0a tab a0F 4 (.fptr (c0::c1::c2::c3::c4::cs))=some (.fptr (c4::cs)):=id rfl
@[simp] theorem a3x (o k f:Nat):a0a tab a0F 4 (.ptr o k f)=some (.ptr o k (f+4)):=id rfl
@[simp] theorem b5f (c:D) (cs:List D) (h:Hp):a0d tab h a1P (.fptr (c::cs))=some c:=id rfl
@[simp] theorem b5h (h:Hp) (o k f:Nat):a0d tab h a1P (.ptr o k f)=(h.row o k).bind fun row=>(row.drop f).head?:=by show (match h.row o k with | some row=>_ | none=>none)=_;cases h.row o k <;> rfl
theorem b7T {h:Hp} {n0:Nat} (hn0:n0≤h.length) {rows:List (List D)} {x y:D} (hx:Own h n0 a1z 3 rows x) {ys:List (List D)} (hy:a1h h 3 y=some ys) (hl:(rows.length+ys.length)*32≤140737488355328) {β:Type} {f:D × Hp→Option β} {Q:β→Prop}
  (k:∀ x' h',Own h' n0 a1z 3 (rows++ys) x'→h.length≤h'.length→(∀ q,q<n0→h'[q]?=h[q]?)→(∀ q,q<h.length→¬ x.inOb q→h'[q]?=h[q]?)→(∀ q,x'.inOb q→x.inOb q∨h.length≤q)→Wp (f (x',h')) Q):Wp ((a0A tab h a1P a1P x y).bind f) Q := 
 a6s (T:=tab) (i:=c7l) (j:=c7o) (id rfl) (id rfl) (id rfl) (by decide) hn0 hx hy (a3Q hl (by omega)) k
@[simp] theorem a4x {α:Type} {f:α→List D} {l:List α} {d:D} (h:SlOf 3 f l d):a0y tab a1P d=some (.int .i64 l.length) := 
 by
  rcases h with ⟨rfl,rfl⟩ | ⟨b,rfl⟩
  ·rfl
  ·show some (D.int .i64 ((l.map f).length:Nat))=_;simp
theorem b8z {h:Hp} {n0 e z:Nat} {rows:List (List D)} {d:D} (hd:Own h n0 e z rows d):a0y tab a1P d=some (.int .i64 rows.length):=by
 rcases hd with ⟨rfl,rfl⟩ | ⟨o,_,rfl,_⟩ <;> rfl
@[simp] theorem c3o:a0y tab a1P .nils=some (.int .i64 0):=id rfl
@[simp] theorem c9W (f:Bool) (rows:List (List D)) (i:Int):a0b tab a1P (.sl 3 f rows) (.int .i64 i)=if 0≤i then (rows[i.toNat]?).map .fptr else none:=by show (if 3=3∧0≤i then (match rows[i.toNat]? with | some row=>some (D.fptr row) | none=>none) else none)=_;by_cases h:0≤i <;> simp [h] <;> cases rows[i.toNat]? <;> rfl
@[simp] theorem c3c (o r n:Nat) (i:Int):a0b tab a1P (.msl 3 o r n) (.int .i64 i)=if 0≤i∧i<n then some (.ptr o (r+i.toNat) 0) else none:=by show (if 3=3∧0≤i∧i<n then some (D.ptr o (r+i.toNat) 0) else none)=_;simp
@[simp] theorem a9r {α:Type} {f:α→List D} {l:List α} {d:D} (h:SlOf 3 f l d) (i:Int):a0b tab a1P d (.int .i64 i)=if 0≤i then (l[i.toNat]?).map fun p => .fptr (f p) else none := 
 by
  rcases h with ⟨rfl,rfl⟩ | ⟨b,rfl⟩
  ·show none=_;simp
  ·rw [c9W];simp [Function.comp_def]
@[simp] theorem b8o (c0:D) (cs:List D):a0a tab a1z 0 (.fptr (c0::cs))=some (.fptr (c0::cs)):=id rfl
@[simp] theorem a2V (o k f:Nat):a0a tab a1z 0 (.ptr o k f)=some (.ptr o k (f+0)):=id rfl
@[simp] theorem a4v (c0 c1 c2 c3:D) (cs:List D):a0a tab a0F 3 (.fptr (c0::c1::c2::c3::cs))=some (.fptr (c3::cs)):=id rfl
@[simp] theorem a4E (o k f:Nat):a0a tab a0F 3 (.ptr o k f)=some (.ptr o k (f+3)):=id rfl
theorem b7U {h:Hp} {o T sz kk off:Nat} {rows:List (List D)} {row:List D} {v:D} (ho:h[o]?=some (.row T sz rows)) (hr:rows[kk]?=some row) (hv:(a0u v).length=1) (hl:off+1≤row.length) (hk:v.okv=true) {β:Type} {f:Hp→Option β} {Q:β→Prop}
  (k:∀ h',h'[o]?=some (.row T sz (rows.set kk (spl row off (a0u v))))→Same o h h'→Wp (f h') Q):Wp ((a0q tab h a1P (.ptr o kk off) v).bind f) Q := 
 by rw [show a0q tab h a1P (.ptr o kk off) v=pSt 1 h (.ptr o kk off) v from rfl];exact a3i ho hr hv hl hk k
@[simp] theorem b2K (h:Hp) (o k f:Nat):a0d tab h a0P (.ptr o k f)=(h.row o k).bind fun row=>a9N 11 (row.drop f):=by show (match h.row o k with | some row=>_ | none=>none)=_;cases h.row o k <;> rfl
theorem b9b {h:Hp} {n0:Nat} (hn0:n0≤h.length) {rows:List (List D)} {x y:D} (hx:Own h n0 a0P 11 rows x) {ys:List (List D)} (hy:a1h h 11 y=some ys) (hl:(rows.length+ys.length)*144≤140737488355328) {β:Type} {f:D × Hp→Option β} {Q:β→Prop}
  (k:∀ x' h',Own h' n0 a0P 11 (rows++ys) x'→h.length≤h'.length→(∀ q,q<n0→h'[q]?=h[q]?)→(∀ q,q<h.length→¬ x.inOb q→h'[q]?=h[q]?)→(∀ q,x'.inOb q→x.inOb q∨h.length≤q)→Wp (f (x',h')) Q):Wp ((a0A tab h a1N a1N x y).bind f) Q := 
 a6s (T:=tab) (i:=c0N) (j:=c7m) (id rfl) (id rfl) (id rfl) (by decide) hn0 hx hy (a3Q hl (by omega)) k
@[simp] theorem b8h (n0:Int):a0H tab a4d 1 [0] [.int .i64 n0]=some (.sl 1 true [[.int .i64 n0]]):=id rfl
theorem c7D {h:Hp} {n0:Nat} (hn0:n0≤h.length) {rows:List (List D)} {x y:D} (hx:Own h n0 ty3 1 rows x) {ys:List (List D)} (hy:a1h h 1 y=some ys) (hl:(rows.length+ys.length)*8≤140737488355328) {β:Type} {f:D × Hp→Option β} {Q:β→Prop}
  (k:∀ x' h',Own h' n0 ty3 1 (rows++ys) x'→h.length≤h'.length→(∀ q,q<n0→h'[q]?=h[q]?)→(∀ q,q<h.length→¬ x.inOb q→h'[q]?=h[q]?)→(∀ q,x'.inOb q→x.inOb q∨h.length≤q)→Wp (f (x',h')) Q):Wp ((a0A tab h a4d a4d x y).bind f) Q := 
 a6s (T:=tab) (i:=c4F) (j:=ti3) (id rfl) (id rfl) (id rfl) (by decide) hn0 hx hy (a3Q hl (by omega)) k
def lt22_50:List Int:=[76,84,49,10]
@[simp] theorem b0v (h:Hp):c8g tab h a0G 4 [0,1,2,3] [.int .u8 76,.int .u8 84,.int .u8 49,.int .u8 10]=some (.msl 1 h.length 0 4,a0J h ty5 1 (lt22_50.map fun n=>[.int .u8 n])):=id rfl
def lt22_51:List Int:=[0,0,0,0]
@[simp] theorem b2M:a0H tab a0G 4 [0,1,2,3] [.int .u8 0,.int .u8 0,.int .u8 0,.int .u8 0]=some (.sl 1 true (lt22_51.map fun n=>[.int .u8 n])):=id rfl
@[simp] theorem a3g {α:Type} {f:α→List D} {l:List α} {d:D} (h:SlOf 2 f l d):a0y tab a0N d=some (.int .i64 l.length) := 
 by
  rcases h with ⟨rfl,rfl⟩ | ⟨b,rfl⟩
  ·rfl
  ·show some (D.int .i64 ((l.map f).length:Nat))=_;simp
@[simp] theorem c3a (f:Bool) (rows:List (List D)) (i:Int):a0b tab a0N (.sl 2 f rows) (.int .i64 i)=if 0≤i then (rows[i.toNat]?).map .fptr else none:=by show (if 2=2∧0≤i then (match rows[i.toNat]? with | some row=>some (D.fptr row) | none=>none) else none)=_;by_cases h:0≤i <;> simp [h] <;> cases rows[i.toNat]? <;> rfl
@[simp] theorem a6K {α:Type} {f:α→List D} {l:List α} {d:D} (h:SlOf 2 f l d) (i:Int):a0b tab a0N d (.int .i64 i)=if 0≤i then (l[i.toNat]?).map fun p => .fptr (f p) else none := 
 by
  rcases h with ⟨rfl,rfl⟩ | ⟨b,rfl⟩
  ·show none=_;simp
  ·rw [c3a];simp [Function.comp_def]
@[simp] theorem a6M {α:Type} {f:α→List D} {l:List α} {d:D} (h:SlOf 11 f l d):a0y tab a1N d=some (.int .i64 l.length) := 
 by
  rcases h with ⟨rfl,rfl⟩ | ⟨b,rfl⟩
  ·rfl
  ·show some (D.int .i64 ((l.map f).length:Nat))=_;simp
@[simp] theorem c6q (f:Bool) (rows:List (List D)) (i:Int):a0b tab a1N (.sl 11 f rows) (.int .i64 i)=if 0≤i then (rows[i.toNat]?).map .fptr else none:=by show (if 11=11∧0≤i then (match rows[i.toNat]? with | some row=>some (D.fptr row) | none=>none) else none)=_;by_cases h:0≤i <;> simp [h] <;> cases rows[i.toNat]? <;> rfl
@[simp] theorem b5b {α:Type} {f:α→List D} {l:List α} {d:D} (h:SlOf 11 f l d) (i:Int):a0b tab a1N d (.int .i64 i)=if 0≤i then (l[i.toNat]?).map fun p => .fptr (f p) else none := 
 by
  rcases h with ⟨rfl,rfl⟩ | ⟨b,rfl⟩
  ·show none=_;simp
  ·rw [c6q];simp [Function.comp_def]
theorem c0D {α:Type} {f:α→List D} {l:List α} {d:D} (hd:SlOf 1 f l d) {k:IntKind} {n:Int} (h0:0≤n) (h1:n≤l.length) :
  ∃ d',a0w tab a0G true false false [d,.int k n]=some d'∧SlOf 1 f (l.drop n.toNat) d':=c0F (T:=tab) (i:=ti22) (j:=ti5) (id rfl) (id rfl) (id rfl) (id rfl) hd h0 h1
@[simp] theorem b6F (a0 b0:Int) (a1 b1:Int):a0l tab .neq a1f (.agg [.int .i64 a0,.int .i64 a1]) (.agg [.int .i64 b0,.int .i64 b1])=some (.bool (!(a0==b0&&(a1==b1&&true)))):=id rfl
theorem b6r {h:Hp} {o T sz kk off:Nat} {rows:List (List D)} {row:List D} {v:D} (ho:h[o]?=some (.row T sz rows)) (hr:rows[kk]?=some row) (hv:(a0u v).length=10) (hl:off+10≤row.length) (hk:v.okv=true) {β:Type} {f:Hp→Option β} {Q:β→Prop}
  (k:∀ h',h'[o]?=some (.row T sz (rows.set kk (spl row off (a0u v))))→Same o h h'→Wp (f h') Q):Wp ((a0q tab h a0F (.ptr o kk off) v).bind f) Q := 
 by rw [show a0q tab h a0F (.ptr o kk off) v=pSt 10 h (.ptr o kk off) v from rfl];exact a3i ho hr hv hl hk k
@[simp] theorem c6A (h:Hp) (o k f:Nat):a0d tab h a0F (.ptr o k f)=(h.row o k).bind fun row=>a9N 10 (row.drop f):=by show (match h.row o k with | some row=>_ | none=>none)=_;cases h.row o k <;> rfl
@[simp] theorem c2P (c0:D) (cs:List D):a0a tab a0F 0 (.fptr (c0::cs))=some (.fptr (c0::cs)):=id rfl
@[simp] theorem b4i (o k f:Nat):a0a tab a0F 0 (.ptr o k f)=some (.ptr o k (f+0)):=id rfl
@[simp] theorem a8I (n0:Int) (n1:Int) (n2:Int) (n3:Int):a0D tab a0F [0,1,2,3] [.int .i64 n0,.int .i64 n1,.int .i64 n2,.int .i64 n3]=some (.agg [.int .i64 n0,.int .i64 n1,.int .i64 n2,.int .i64 n3,.nils,.int .i64 0,.int .i64 0,.str [],.str [],.nils]):=id rfl
@[simp] theorem b8p (c0 c1:D) (cs:List D):a0a tab a1z 1 (.fptr (c0::c1::cs))=some (.fptr (c1::cs)):=id rfl
@[simp] theorem a2W (o k f:Nat):a0a tab a1z 1 (.ptr o k f)=some (.ptr o k (f+1)):=id rfl
@[simp] theorem b1d (n0:Int) (n1:Int):a0D tab a1z [0,1] [.int .i64 n0,.int .i64 n1]=some (.agg [.int .i64 n0,.int .i64 n1,.str []]):=id rfl
@[simp] theorem b8g (x0_0 x0_1 x0_2:D):a0H tab a1P 1 [0] [.agg [x0_0,x0_1,x0_2]]=some (.sl 3 true [[x0_0,x0_1,x0_2]]):=id rfl
def lt98_35:List (List UInt8):=[[115,97,109,112,108,101],[116,111,111,45,108,111,110,103],[114,49]]
@[simp] theorem b3h:a0H tab a2M 3 [0,1,2] [.str [115,97,109,112,108,101],.str [116,111,111,45,108,111,110,103],.str [114,49]]=some (.sl 1 true (lt98_35.map fun s=>[.str s])):=id rfl
@[simp] theorem b6E (s0:List UInt8) (x1_0 x1_1 x1_2 x1_3 x1_4 x1_5 x1_6 x1_7 x1_8 x1_9:D):a0D tab a0P [0,1] [.str s0,.agg [x1_0,x1_1,x1_2,x1_3,x1_4,x1_5,x1_6,x1_7,x1_8,x1_9]]=some (.agg [.str s0,x1_0,x1_1,x1_2,x1_3,x1_4,x1_5,x1_6,x1_7,x1_8,x1_9]):=id rfl
@[simp] theorem c4T (k:IntKind) (n:Int):a1O tab ty3 ty5 (.int k n)=some (.int .u8 (IntKind.wrap .u8 n)):=id rfl
@[simp] theorem b8f (n0:Int):a0H tab a0G 1 [0] [.int .u8 n0]=some (.sl 1 true [[.int .u8 n0]]):=id rfl
@[simp] theorem b6A (d0:D) (h0:d0.one=true):a0D tab a1T [0] [d0]=some (.agg [d0]):=by
 have c0:=a0E h0
 refine b2u (T:=tab) (i:=ti1101) (fs:=[(22,0,1)]) (id rfl) (id rfl) ?_
 rw [show ti1101.zero=[.nils] from id rfl]
 rw [a1v (off:=0) (sz:=1) (id rfl) (by rw [c0.1];rfl) (by simp [spl,a1j,a1k,a0Z,a1i]) c0.2,c0.1]
 exact id rfl
@[simp] theorem a5b (o k f:Nat):a0a tab a1T 0 (.ptr o k f)=some (.ptr o k (f+0)):=id rfl
@[simp] theorem a6d (k:IntKind) (n:Int):a1O tab ty3 a1F (.int k n)=some (.int .u64 (IntKind.wrap .u64 n)):=id rfl
@[simp] theorem a7X (k:IntKind) (n:Int):a1O tab ty5 a1F (.int k n)=some (.int .u64 (IntKind.wrap .u64 n)):=id rfl
@[simp] theorem a4U (k:IntKind) (n:Int):a1O tab a1F ty3 (.int k n)=some (.int .i64 (IntKind.wrap .i64 n)):=id rfl
@[simp] theorem b9p  : a0D tab a0m [] []=some (.agg [.int .i64 0,.nils,.nils]):=id rfl
@[simp] theorem b6D (d0:D) (h0:d0.one=true):a0D tab a1g [0] [d0]=some (.agg [d0,.bool false]):=by
 have c0:=a0E h0
 refine b2u (T:=tab) (i:=ti1223) (fs:=[(22,0,1),(4,1,1)]) (id rfl) (id rfl) ?_
 rw [show ti1223.zero=[.nils,.bool false] from id rfl]
 rw [a1v (off:=0) (sz:=1) (id rfl) (by rw [c0.1];rfl) (by simp [spl,a1j,a1k,a0Z,a1i]) c0.2,c0.1]
 exact id rfl
@[simp] theorem b6C (n0:Int):a0D tab a0m [0] [.int .i64 n0]=some (.agg [.int .i64 n0,.nils,.nils]):=id rfl
@[simp] theorem a2U (o k f:Nat):a0a tab a1g 1 (.ptr o k f)=some (.ptr o k (f+1)):=id rfl
@[simp] theorem c7X (h:Hp) (o k f:Nat):a0d tab h ty4 (.ptr o k f)=(h.row o k).bind fun row=>(row.drop f).head?:=by show (match h.row o k with | some row=>_ | none=>none)=_;cases h.row o k <;> rfl
theorem c0X {h:Hp} {o T sz kk off:Nat} {rows:List (List D)} {row:List D} {v:D} (ho:h[o]?=some (.row T sz rows)) (hr:rows[kk]?=some row) (hv:(a0u v).length=1) (hl:off+1≤row.length) (hk:v.okv=true) {β:Type} {f:Hp→Option β} {Q:β→Prop}
  (k:∀ h',h'[o]?=some (.row T sz (rows.set kk (spl row off (a0u v))))→Same o h h'→Wp (f h') Q):Wp ((a0q tab h a0N (.ptr o kk off) v).bind f) Q := 
 by rw [show a0q tab h a0N (.ptr o kk off) v=pSt 1 h (.ptr o kk off) v from rfl];exact a3i ho hr hv hl hk k
@[simp] theorem a3o (o k f:Nat):a0a tab a1g 0 (.ptr o k f)=some (.ptr o k (f+0)):=id rfl
@[simp] theorem b4n (o k f:Nat):a0a tab a0P 0 (.ptr o k f)=some (.ptr o k (f+0)):=id rfl
@[simp] theorem ld9 (c:D) (cs:List D) (h:Hp):a0d tab h ty9 (.fptr (c::cs))=some c:=id rfl
@[simp] theorem b2L (h:Hp) (o k f:Nat):a0d tab h ty9 (.ptr o k f)=(h.row o k).bind fun row=>(row.drop f).head?:=by show (match h.row o k with | some row=>_ | none=>none)=_;cases h.row o k <;> rfl
@[simp] theorem b4j (o k f:Nat):a0a tab a0F 5 (.ptr o k f)=some (.ptr o k (f+5)):=id rfl
@[simp] theorem b4k (o k f:Nat):a0a tab a0F 6 (.ptr o k f)=some (.ptr o k (f+6)):=id rfl
@[simp] theorem b4l (o k f:Nat):a0a tab a0F 7 (.ptr o k f)=some (.ptr o k (f+7)):=id rfl
@[simp] theorem b4m (o k f:Nat):a0a tab a0F 8 (.ptr o k f)=some (.ptr o k (f+8)):=id rfl
@[simp] theorem a6D (o k f:Nat):a0a tab a0F 9 (.ptr o k f)=some (.ptr o k (f+9)):=id rfl
@[simp] theorem b8v (c:D) (cs:List D) (h:Hp):a0d tab h a1m (.fptr (c::cs))=some c:=id rfl
@[simp] theorem c3l (h:Hp) (o k f:Nat):a0d tab h a1m (.ptr o k f)=(h.row o k).bind fun row=>(row.drop f).head?:=by show (match h.row o k with | some row=>_ | none=>none)=_;cases h.row o k <;> rfl
def lt82_14:List Int:=[1,1,2,5040]
@[simp] theorem b2N:a0H tab a4d 4 [0,1,2,3] [.int .i64 1,.int .i64 1,.int .i64 2,.int .i64 5040]=some (.sl 1 true (lt82_14.map fun n=>[.int .i64 n])):=id rfl
@[simp] theorem c6r (f:Bool) (rows:List (List D)) (i:Int):a0b tab a4d (.sl 1 f rows) (.int .i64 i)=if 0≤i then (rows[i.toNat]?).map .fptr else none:=by show (if 1=1∧0≤i then (match rows[i.toNat]? with | some row=>some (D.fptr row) | none=>none) else none)=_;by_cases h:0≤i <;> simp [h] <;> cases rows[i.toNat]? <;> rfl
@[simp] theorem c6s (o r n:Nat) (i:Int):a0b tab a4d (.msl 1 o r n) (.int .i64 i)=if 0≤i∧i<n then some (.ptr o (r+i.toNat) 0) else none:=by show (if 1=1∧0≤i∧i<n then some (D.ptr o (r+i.toNat) 0) else none)=_;simp
@[simp] theorem c3d {α:Type} {f:α→List D} {l:List α} {d:D} (h:SlOf 1 f l d) (i:Int):a0b tab a4d d (.int .i64 i)=if 0≤i then (l[i.toNat]?).map fun p => .fptr (f p) else none := 
 by
  rcases h with ⟨rfl,rfl⟩ | ⟨b,rfl⟩
  ·show none=_;simp
  ·rw [c6r];simp [Function.comp_def]
def lt98_15:List (List UInt8):=[[],[116,49],[116,50],[105,100]]
@[simp] theorem b2O:a0H tab a2M 4 [0,1,2,3] [.str [],.str [116,49],.str [116,50],.str [105,100]]=some (.sl 1 true (lt98_15.map fun s=>[.str s])):=id rfl
def lt98_16:List (List UInt8):=[[109,97,105,110],[97,117,100,105,116]]
@[simp] theorem b2P:a0H tab a2M 2 [0,1] [.str [109,97,105,110],.str [97,117,100,105,116]]=some (.sl 1 true (lt98_16.map fun s=>[.str s])):=id rfl
@[simp] theorem a4r (n0:Int) (n1:Int) (n2:Int) (n3:Int) (n4:Int) (s5:List UInt8) (s6:List UInt8) (d7:D) (h7:d7.one=true):a0D tab a0F [0,1,2,5,6,7,8,9] [.int .i64 n0,.int .i64 n1,.int .i64 n2,.int .i64 n3,.int .i64 n4,.str s5,.str s6,d7]=some (.agg [.int .i64 n0,.int .i64 n1,.int .i64 n2,.int .i64 0,.nils,.int .i64 n3,.int .i64 n4,.str s5,.str s6,d7]):=by
 have c7:=a0E h7
 refine b2u (T:=tab) (i:=ti31) (fs:=[(3,0,1),(3,1,1),(3,2,1),(3,3,1),(58,4,1),(3,5,1),(3,6,1),(9,7,1),(9,8,1),(59,9,1)]) (id rfl) (id rfl) ?_
 rw [show ti31.zero=[.int .i64 0,.int .i64 0,.int .i64 0,.int .i64 0,.nils,.int .i64 0,.int .i64 0,.str [],.str [],.nils] from id rfl]
 rw [a1v (off:=0) (sz:=1) (id rfl) (id rfl) (by simp [spl,a1j,a1k,a0Z,a1i]) (id rfl)]
 rw [a1v (off:=1) (sz:=1) (id rfl) (id rfl) (by simp [spl,a1j,a1k,a0Z,a1i]) (id rfl)]
 rw [a1v (off:=2) (sz:=1) (id rfl) (id rfl) (by simp [spl,a1j,a1k,a0Z,a1i]) (id rfl)]
 rw [a1v (off:=5) (sz:=1) (id rfl) (id rfl) (by simp [spl,a1j,a1k,a0Z,a1i]) (id rfl)]
 rw [a1v (off:=6) (sz:=1) (id rfl) (id rfl) (by simp [spl,a1j,a1k,a0Z,a1i]) (id rfl)]
 rw [a1v (off:=7) (sz:=1) (id rfl) (id rfl) (by simp [spl,a1j,a1k,a0Z,a1i]) (id rfl)]
 rw [a1v (off:=8) (sz:=1) (id rfl) (id rfl) (by simp [spl,a1j,a1k,a0Z,a1i]) (id rfl)]
 rw [a1v (off:=9) (sz:=1) (id rfl) (by rw [c7.1];rfl) (by simp [spl,a1j,a1k,a0Z,a1i]) c7.2,c7.1]
 exact id rfl
@[simp] theorem c6B (h:Hp) (o k f:Nat):a0d tab h a1z (.ptr o k f)=(h.row o k).bind fun row=>a9N 3 (row.drop f):=by show (match h.row o k with | some row=>_ | none=>none)=_;cases h.row o k <;> rfl
theorem c4i {h:Hp} {o T sz kk off:Nat} {rows:List (List D)} {row:List D} {v:D} (ho:h[o]?=some (.row T sz rows)) (hr:rows[kk]?=some row) (hv:(a0u v).length=3) (hl:off+3≤row.length) (hk:v.okv=true) {β:Type} {f:Hp→Option β} {Q:β→Prop}
  (k:∀ h',h'[o]?=some (.row T sz (rows.set kk (spl row off (a0u v))))→Same o h h'→Wp (f h') Q):Wp ((a0q tab h a1z (.ptr o kk off) v).bind f) Q := 
 by rw [show a0q tab h a1z (.ptr o kk off) v=pSt 3 h (.ptr o kk off) v from rfl];exact a3i ho hr hv hl hk k
@[simp] theorem c3t {α:Type} {f:α→List D} {l:List α} {d:D} (h:SlOf 1 f l d):a0y tab a2M d=some (.int .i64 l.length) := 
 by
  rcases h with ⟨rfl,rfl⟩ | ⟨b,rfl⟩
  ·rfl
  ·show some (D.int .i64 ((l.map f).length:Nat))=_;simp
@[simp] theorem c6D (z:Nat) (f:Bool) (rows:List (List D)):a0y tab a2M (.sl z f rows)=some (.int .i64 rows.length):=id rfl
@[simp] theorem c7U (f:Bool) (rows:List (List D)) (i:Int):a0b tab a2M (.sl 1 f rows) (.int .i64 i)=if 0≤i then (rows[i.toNat]?).map .fptr else none:=by show (if 1=1∧0≤i then (match rows[i.toNat]? with | some row=>some (D.fptr row) | none=>none) else none)=_;by_cases h:0≤i <;> simp [h] <;> cases rows[i.toNat]? <;> rfl
@[simp] theorem c6t {α:Type} {f:α→List D} {l:List α} {d:D} (h:SlOf 1 f l d) (i:Int):a0b tab a2M d (.int .i64 i)=if 0≤i then (l[i.toNat]?).map fun p => .fptr (f p) else none := 
 by
  rcases h with ⟨rfl,rfl⟩ | ⟨b,rfl⟩
  ·show none=_;simp
  ·rw [c7U];simp [Function.comp_def]
@[simp] theorem a8o (s:List UInt8):a0y tab ty9 (.str s)=some (.int .i64 s.length):=id rfl
@[simp] theorem a3a {α:Type} {f:α→List D} {l:List α} {d:D} (h:SlOf 2 f l d):a0y tab a1m d=some (.int .i64 l.length) := 
 by
  rcases h with ⟨rfl,rfl⟩ | ⟨b,rfl⟩
  ·rfl
  ·show some (D.int .i64 ((l.map f).length:Nat))=_;simp
theorem c3q {h:Hp} {n0 e z:Nat} {rows:List (List D)} {d:D} (hd:Own h n0 e z rows d):a0y tab a1m d=some (.int .i64 rows.length):=by
 rcases hd with ⟨rfl,rfl⟩ | ⟨o,_,rfl,_⟩ <;> rfl
@[simp] theorem b8y (z o r n:Nat):a0y tab a1m (.msl z o r n)=some (.int .i64 n):=id rfl
@[simp] theorem c3p:a0y tab a1m .nils=some (.int .i64 0):=id rfl
@[simp] theorem b1g (d0:D) (d1:D) (d2:D) (d3:D) (h0:d0.one=true) (h1:d1.one=true) (h2:d2.one=true) (h3:d3.one=true):a0H tab a5r 4 [0,1,2,3] [d0,d1,d2,d3]=some (.sl 1 true [[d0],[d1],[d2],[d3]]):=b7v (T:=tab) (t:=a5r) (n:=4) (i:=b6l) (j:=b6k) (id rfl) (id rfl) (id rfl) (id rfl) [d0,d1,d2,d3] rfl (by decide) (by simp [h0,h1,h2,h3])
@[simp] theorem b5i (z:Nat) (f:Bool) (rows:List (List D)):a0y tab a5r (.sl z f rows)=some (.int .i64 rows.length):=id rfl
@[simp] theorem a9q (f:Bool) (rows:List (List D)) (i:Int):a0b tab a5r (.sl 1 f rows) (.int .i64 i)=if 0≤i then (rows[i.toNat]?).map .fptr else none:=by show (if 1=1∧0≤i then (match rows[i.toNat]? with | some row=>some (D.fptr row) | none=>none) else none)=_;by_cases h:0≤i <;> simp [h] <;> cases rows[i.toNat]? <;> rfl
@[simp] theorem a9u (c:D) (cs:List D) (h:Hp):a0d tab h b8W (.fptr (c::cs))=some c:=id rfl
@[simp] theorem c7O (c0 c1 c2:D) (cs:List D):a0a tab a1z 2 (.fptr (c0::c1::c2::cs))=some (.fptr (c2::cs)):=id rfl
@[simp] theorem a2X (o k f:Nat):a0a tab a1z 2 (.ptr o k f)=some (.ptr o k (f+2)):=id rfl
@[simp] theorem c2t (x0_0 x0_1:D):a0H tab a1m 1 [0] [.agg [x0_0,x0_1]]=some (.sl 2 true [[x0_0,x0_1]]):=id rfl
theorem c4h {h:Hp} {n0:Nat} (hn0:n0≤h.length) {rows:List (List D)} {x y:D} (hx:Own h n0 a0t 2 rows x) {ys:List (List D)} (hy:a1h h 2 y=some ys) (hl:(rows.length+ys.length)*32≤140737488355328) {β:Type} {f:D × Hp→Option β} {Q:β→Prop}
  (k:∀ x' h',Own h' n0 a0t 2 (rows++ys) x'→h.length≤h'.length→(∀ q,q<n0→h'[q]?=h[q]?)→(∀ q,q<h.length→¬ x.inOb q→h'[q]?=h[q]?)→(∀ q,x'.inOb q→x.inOb q∨h.length≤q)→Wp (f (x',h')) Q):Wp ((a0A tab h a1m a1m x y).bind f) Q := 
 a6s (T:=tab) (i:=c4E) (j:=ti109) (id rfl) (id rfl) (id rfl) (by decide) hn0 hx hy (a3Q hl (by omega)) k
theorem c7E {h:Hp} {o T sz kk off:Nat} {rows:List (List D)} {row:List D} {v:D} (ho:h[o]?=some (.row T sz rows)) (hr:rows[kk]?=some row) (hv:(a0u v).length=1) (hl:off+1≤row.length) (hk:v.okv=true) {β:Type} {f:Hp→Option β} {Q:β→Prop}
  (k:∀ h',h'[o]?=some (.row T sz (rows.set kk (spl row off (a0u v))))→Same o h h'→Wp (f h') Q):Wp ((a0q tab h a1m (.ptr o kk off) v).bind f) Q := 
 by rw [show a0q tab h a1m (.ptr o kk off) v=pSt 1 h (.ptr o kk off) v from rfl];exact a3i ho hr hv hl hk k
@[simp] theorem c9X (f:Bool) (rows:List (List D)) (i:Int):a0b tab a1m (.sl 2 f rows) (.int .i64 i)=if 0≤i then (rows[i.toNat]?).map .fptr else none:=by show (if 2=2∧0≤i then (match rows[i.toNat]? with | some row=>some (D.fptr row) | none=>none) else none)=_;by_cases h:0≤i <;> simp [h] <;> cases rows[i.toNat]? <;> rfl
@[simp] theorem b2H (o r n:Nat) (i:Int):a0b tab a1m (.msl 2 o r n) (.int .i64 i)=if 0≤i∧i<n then some (.ptr o (r+i.toNat) 0) else none:=by show (if 2=2∧0≤i∧i<n then some (D.ptr o (r+i.toNat) 0) else none)=_;simp
@[simp] theorem b5c {α:Type} {f:α→List D} {l:List α} {d:D} (h:SlOf 2 f l d) (i:Int):a0b tab a1m d (.int .i64 i)=if 0≤i then (l[i.toNat]?).map fun p => .fptr (f p) else none := 
 by
  rcases h with ⟨rfl,rfl⟩ | ⟨b,rfl⟩
  ·show none=_;simp
  ·rw [c9X];simp [Function.comp_def]
@[simp] theorem b1u (o k f:Nat):a0a tab a0t 0 (.ptr o k f)=some (.ptr o k (f+0)):=id rfl
@[simp] theorem c6e (c0 c1:D) (cs:List D):a0a tab a0t 1 (.fptr (c0::c1::cs))=some (.fptr (c1::cs)):=id rfl
@[simp] theorem b1v (o k f:Nat):a0a tab a0t 1 (.ptr o k f)=some (.ptr o k (f+1)):=id rfl
@[simp] theorem b6R (k:IntKind) (n:Int):a1O tab a1F ty5 (.int k n)=some (.int .u8 (IntKind.wrap .u8 n)):=id rfl
theorem c7F {h:Hp} {o T sz kk off:Nat} {rows:List (List D)} {row:List D} {v:D} (ho:h[o]?=some (.row T sz rows)) (hr:rows[kk]?=some row) (hv:(a0u v).length=1) (hl:off+1≤row.length) (hk:v.okv=true) {β:Type} {f:Hp→Option β} {Q:β→Prop}
  (k:∀ h',h'[o]?=some (.row T sz (rows.set kk (spl row off (a0u v))))→Same o h h'→Wp (f h') Q):Wp ((a0q tab h ty4 (.ptr o kk off) v).bind f) Q := 
 by rw [show a0q tab h ty4 (.ptr o kk off) v=pSt 1 h (.ptr o kk off) v from rfl];exact a3i ho hr hv hl hk k
theorem c0Z {h:Hp} {o T sz kk off:Nat} {rows:List (List D)} {row:List D} {v:D} (ho:h[o]?=some (.row T sz rows)) (hr:rows[kk]?=some row) (hv:(a0u v).length=1) (hl:off+1≤row.length) (hk:v.okv=true) {β:Type} {f:Hp→Option β} {Q:β→Prop}
  (k:∀ h',h'[o]?=some (.row T sz (rows.set kk (spl row off (a0u v))))→Same o h h'→Wp (f h') Q):Wp ((a0q tab h a0G (.ptr o kk off) v).bind f) Q := 
 by rw [show a0q tab h a0G (.ptr o kk off) v=pSt 1 h (.ptr o kk off) v from rfl];exact a3i ho hr hv hl hk k
@[simp] theorem c7M (a0 b0:Int) (a1 b1:Int) (a2 b2:List UInt8):a0l tab .neq a1z (.agg [.int .i64 a0,.int .i64 a1,.str a2]) (.agg [.int .i64 b0,.int .i64 b1,.str b2])=some (.bool (!(a0==b0&&(a1==b1&&(a2==b2&&true))))):=id rfl
@[simp] theorem b8w (h:Hp) (o k f:Nat):a0d tab h a0t (.ptr o k f)=(h.row o k).bind fun row=>a9N 2 (row.drop f):=by show (match h.row o k with | some row=>_ | none=>none)=_;cases h.row o k <;> rfl
@[simp] theorem c4L (a0 b0:List UInt8) (a1 b1:List UInt8):a0l tab .neq a0t (.agg [.str a0,.str a1]) (.agg [.str b0,.str b1])=some (.bool (!(a0==b0&&(a1==b1&&true)))):=id rfl
def lt98_17:List (List UInt8):=[[97],[105,100],[108,101,118,101,108],[117,115,101,114]]
@[simp] theorem b0w:lt98_17.length=4:=id rfl
@[simp] theorem b2Q:a0H tab a2M 4 [0,1,2,3] [.str [97],.str [105,100],.str [108,101,118,101,108],.str [117,115,101,114]]=some (.sl 1 true (lt98_17.map fun s=>[.str s])):=id rfl
def lt98_18:List (List UInt8):=[[],[49],[105,110,102,111],[119,97,114,110],[97,110,110],[50,46,53,48],[116,114,117,101],[116,49]]
@[simp] theorem b2R:a0H tab a2M 8 [0,1,2,3,4,5,6,7] [.str [],.str [49],.str [105,110,102,111],.str [119,97,114,110],.str [97,110,110],.str [50,46,53,48],.str [116,114,117,101],.str [116,49]]=some (.sl 1 true (lt98_18.map fun s=>[.str s])):=id rfl
@[simp] theorem b3x (s0:List UInt8) (s1:List UInt8):a0D tab a0t [0,1] [.str s0,.str s1]=some (.agg [.str s0,.str s1]):=id rfl
theorem c8h {h:Hp} {o T sz kk off:Nat} {rows:List (List D)} {row:List D} {v:D} (ho:h[o]?=some (.row T sz rows)) (hr:rows[kk]?=some row) (hv:(a0u v).length=1) (hl:off+1≤row.length) (hk:v.okv=true) {β:Type} {f:Hp→Option β} {Q:β→Prop}
  (k:∀ h',h'[o]?=some (.row T sz (rows.set kk (spl row off (a0u v))))→Same o h h'→Wp (f h') Q):Wp ((a0q tab h ty9 (.ptr o kk off) v).bind f) Q := 
 by rw [show a0q tab h ty9 (.ptr o kk off) v=pSt 1 h (.ptr o kk off) v from rfl];exact a3i ho hr hv hl hk k
@[simp] theorem b6B (d0:D) (h0:d0.one=true):a0D tab a1q [0] [d0]=some (.agg [d0,.bool false]):=by
 have c0:=a0E h0
 refine b2u (T:=tab) (i:=ti1106) (fs:=[(22,0,1),(4,1,1)]) (id rfl) (id rfl) ?_
 rw [show ti1106.zero=[.nils,.bool false] from id rfl]
 rw [a1v (off:=0) (sz:=1) (id rfl) (by rw [c0.1];rfl) (by simp [spl,a1j,a1k,a0Z,a1i]) c0.2,c0.1]
 exact id rfl
@[simp] theorem a5c (o k f:Nat):a0a tab a1q 1 (.ptr o k f)=some (.ptr o k (f+1)):=id rfl
@[simp] theorem a2e (o k f:Nat):a0a tab a1q 0 (.ptr o k f)=some (.ptr o k (f+0)):=id rfl
def lt98_19:List (List UInt8):=[[49],[50],[57]]
@[simp] theorem b2S:a0H tab a2M 3 [0,1,2] [.str [49],.str [50],.str [57]]=some (.sl 1 true (lt98_19.map fun s=>[.str s])):=id rfl
def lt98_20:List (List UInt8):=[[48],[53]]
@[simp] theorem b2T:a0H tab a2M 2 [0,1] [.str [48],.str [53]]=some (.sl 1 true (lt98_20.map fun s=>[.str s])):=id rfl
def lt98_21:List (List UInt8):=[[49],[50]]
@[simp] theorem b2U:a0H tab a2M 2 [0,1] [.str [49],.str [50]]=some (.sl 1 true (lt98_21.map fun s=>[.str s])):=id rfl
def lt98_22:List (List UInt8):=[[105,110,102,111],[119,97,114,110]]
@[simp] theorem b2V:a0H tab a2M 2 [0,1] [.str [105,110,102,111],.str [119,97,114,110]]=some (.sl 1 true (lt98_22.map fun s=>[.str s])):=id rfl
def lt98_23:List (List UInt8):=[[55],[116,49],[116,50]]
@[simp] theorem b2W:a0H tab a2M 3 [0,1,2] [.str [55],.str [116,49],.str [116,50]]=some (.sl 1 true (lt98_23.map fun s=>[.str s])):=id rfl
def lt98_24:List (List UInt8):=[[105,110,102,111],[119,97,114,110],[100,101,98,117,103]]
@[simp] theorem b2X:a0H tab a2M 3 [0,1,2] [.str [105,110,102,111],.str [119,97,114,110],.str [100,101,98,117,103]]=some (.sl 1 true (lt98_24.map fun s=>[.str s])):=id rfl
def lt98_25:List (List UInt8):=[[97,110,110],[98,111,98]]
@[simp] theorem b2Y:a0H tab a2M 2 [0,1] [.str [97,110,110],.str [98,111,98]]=some (.sl 1 true (lt98_25.map fun s=>[.str s])):=id rfl
def lt98_26:List (List UInt8):=[[49,48,46,50],[49,48,46,51],[55,46,55]]
@[simp] theorem b2Z:a0H tab a2M 3 [0,1,2] [.str [49,48,46,50],.str [49,48,46,51],.str [55,46,55]]=some (.sl 1 true (lt98_26.map fun s=>[.str s])):=id rfl
def lt98_27:List (List UInt8):=[[102],[103]]
@[simp] theorem b3a:a0H tab a2M 2 [0,1] [.str [102],.str [103]]=some (.sl 1 true (lt98_27.map fun s=>[.str s])):=id rfl
def lt98_28:List (List UInt8):=[[40,49,41],[40,50,50,41]]
@[simp] theorem b3b:a0H tab a2M 2 [0,1] [.str [40,49,41],.str [40,50,50,41]]=some (.sl 1 true (lt98_28.map fun s=>[.str s])):=id rfl
def lt98_29:List (List UInt8):=[[97,110,110],[98,111,98],[101,118,101]]
@[simp] theorem b3c:a0H tab a2M 3 [0,1,2] [.str [97,110,110],.str [98,111,98],.str [101,118,101]]=some (.sl 1 true (lt98_29.map fun s=>[.str s])):=id rfl
def lt98_30:List (List UInt8):=[[105,110],[111,117,116]]
@[simp] theorem b3d:a0H tab a2M 2 [0,1] [.str [105,110],.str [111,117,116]]=some (.sl 1 true (lt98_30.map fun s=>[.str s])):=id rfl
def lt98_31:List (List UInt8):=[[49],[45,50,48],[116,114,117,101]]
@[simp] theorem b3e:a0H tab a2M 3 [0,1,2] [.str [49],.str [45,50,48],.str [116,114,117,101]]=some (.sl 1 true (lt98_31.map fun s=>[.str s])):=id rfl
def lt98_32:List (List UInt8):=[[111,107],[102,97,105,108,101,100]]
@[simp] theorem b3f:a0H tab a2M 2 [0,1] [.str [111,107],.str [102,97,105,108,101,100]]=some (.sl 1 true (lt98_32.map fun s=>[.str s])):=id rfl
theorem a5R {h:Hp} {o T sz kk off:Nat} {rows:List (List D)} {row:List D} {v:D} (ho:h[o]?=some (.row T sz rows)) (hr:rows[kk]?=some row) (hv:(a0u v).length=2) (hl:off+2≤row.length) (hk:v.okv=true) {β:Type} {f:Hp→Option β} {Q:β→Prop}
  (k:∀ h',h'[o]?=some (.row T sz (rows.set kk (spl row off (a0u v))))→Same o h h'→Wp (f h') Q):Wp ((a0q tab h a0t (.ptr o kk off) v).bind f) Q := 
 by rw [show a0q tab h a0t (.ptr o kk off) v=pSt 2 h (.ptr o kk off) v from rfl];exact a3i ho hr hv hl hk k
def lt98_33:List (List UInt8):=[[97],[98],[32],[49],[117,115,101,114],[61],[34],[55],[46],[44],[120,32,121],[49,48,46,50],[45],[195,169],[91],[105,100],[9],[58]]
@[simp] theorem b3g:a0H tab a2M 18 [0,1,2,3,4,5,6,7,8,9,10,11,12,13,14,15,16,17] [.str [97],.str [98],.str [32],.str [49],.str [117,115,101,114],.str [61],.str [34],.str [55],.str [46],.str [44],.str [120,32,121],.str [49,48,46,50],.str [45],.str [195,169],.str [91],.str [105,100],.str [9],.str [58]]=some (.sl 1 true (lt98_33.map fun s=>[.str s])):=id rfl
@[simp] theorem c2s  : a0H tab a1m 0 [] []=some (.sl 2 true []):=id rfl
@[simp] theorem a7W (k:IntKind) (n:Int):a1O tab ty3 a5s (.int k n)=some (.int .u64 (IntKind.wrap .u64 n)):=id rfl
@[simp] theorem a7V (k:IntKind) (n:Int):a1O tab a5s ty3 (.int k n)=some (.int .i64 (IntKind.wrap .i64 n)):=id rfl
@[simp] theorem b6S (k:IntKind) (n:Int):a1O tab b8X ty3 (.int k n)=some (.int .i64 (IntKind.wrap .i64 n)):=id rfl
@[simp] theorem c3s {α:Type} {f:α→List D} {l:List α} {d:D} (h:SlOf 1 f l d):a0y tab a4d d=some (.int .i64 l.length) := 
 by
  rcases h with ⟨rfl,rfl⟩ | ⟨b,rfl⟩
  ·rfl
  ·show some (D.int .i64 ((l.map f).length:Nat))=_;simp
theorem c3r {h:Hp} {n0 e z:Nat} {rows:List (List D)} {d:D} (hd:Own h n0 e z rows d):a0y tab a4d d=some (.int .i64 rows.length):=by
 rcases hd with ⟨rfl,rfl⟩ | ⟨o,_,rfl,_⟩ <;> rfl
@[simp] theorem c6C (z:Nat) (f:Bool) (rows:List (List D)):a0y tab a4d (.sl z f rows)=some (.int .i64 rows.length):=id rfl
@[simp] theorem c3b (f:Bool) (rows:List (List D)) (i:Int):a0b tab a4c (.sl 3 f rows) (.int .i64 i)=if 0≤i then (rows[i.toNat]?).map .fptr else none:=by show (if 3=3∧0≤i then (match rows[i.toNat]? with | some row=>some (D.fptr row) | none=>none) else none)=_;by_cases h:0≤i <;> simp [h] <;> cases rows[i.toNat]? <;> rfl
@[simp] theorem b9Y (o r n:Nat) (i:Int):a0b tab a4c (.msl 3 o r n) (.int .i64 i)=if 0≤i∧i<n then some (.ptr o (r+i.toNat) 0) else none:=by show (if 3=3∧0≤i∧i<n then some (D.ptr o (r+i.toNat) 0) else none)=_;simp
@[simp] theorem a3z (d:D) (xs:List D) (h:Hp):a2D tab R "logtide/event.count" (.iface a4b d::xs) h=R b4F (d::xs) h:=by kernel_rfl
@[simp] theorem a2f (d:D) (xs:List D) (h:Hp):a2D tab R "logtide/event.number" (.iface a4b d::xs) h=R b4G (d::xs) h:=by kernel_rfl
@[simp] theorem a3f (d:D) (xs:List D) (h:Hp):a2D tab R "logtide/event.text" (.iface a4b d::xs) h=R b4H (d::xs) h:=by kernel_rfl
@[simp] theorem a3A (d:D) (xs:List D) (h:Hp):a2D tab R "logtide/event.count" (.iface a3u d::xs) h=R b1G (d::xs) h:=by kernel_rfl
@[simp] theorem a1p (d:D) (xs:List D) (h:Hp):a2D tab R "logtide/event.number" (.iface a3u d::xs) h=R b1H (d::xs) h:=by kernel_rfl
@[simp] theorem a2H (d:D) (xs:List D) (h:Hp):a2D tab R "logtide/event.text" (.iface a3u d::xs) h=R b1I (d::xs) h:=by kernel_rfl
end Go.Proofs.YtjmndhbabkjebaaDoor

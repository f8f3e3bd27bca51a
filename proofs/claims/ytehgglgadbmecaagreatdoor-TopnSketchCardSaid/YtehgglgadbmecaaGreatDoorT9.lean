/- Operations at the types of this seat. -/
import Derived.Test.YtehgglgadbmecaaGreatDoorC9
import Derived.Test.YtehgglgadbmecaaGreatDoorPiZ
set_option linter.unusedSimpArgs false
set_option linter.unusedVariables false
set_option linter.unnecessarySimpa false
set_option maxRecDepth 20000
set_option maxHeartbeats 2000000
namespace Go.Proofs.YtehgglgadbmecaaGreatDoor
open Go.Eng Go.Pi
@[simp] theorem b3W (x0_0 x0_1 x0_2:D) (x1_0 x1_1 x1_2:D):a0A tab a0r 2 [0,1] [.agg [x0_0,x0_1,x0_2],.agg [x1_0,x1_1,x1_2]]=some (.sl 3 true [[x0_0,x0_1,x0_2],[x1_0,x1_1,x1_2]]):=id rfl
@[simp] theorem a2P {α:Type} {f:α→List D} {l:List α} {d:D} (h:SlOf 3 f l d):a0w tab a0r d=some (.int .i64 l.length) := 
 by
  rcases h with ⟨rfl,rfl⟩ | ⟨b,rfl⟩
  ·rfl
  ·show some (D.int .i64 ((l.map f).length:Nat))=_;simp
@[simp] theorem a7i (z o r n:Nat):a0w tab a0r (.msl z o r n)=some (.int .i64 n):=id rfl
@[simp] theorem b9X (f:Bool) (rows:List (List D)) (i:Int):a0a tab a0r (.sl 3 f rows) (.int .i64 i)=if 0≤i then (rows[i.toNat]?).map .fptr else none:=by show (if 3=3∧0≤i then (match rows[i.toNat]? with | some row=>some (D.fptr row) | none=>none) else none)=_;by_cases h:0≤i <;> simp [h] <;> cases rows[i.toNat]? <;> rfl
@[simp] theorem a5m (o r n:Nat) (i:Int):a0a tab a0r (.msl 3 o r n) (.int .i64 i)=if 0≤i∧i<n then some (.ptr o (r+i.toNat) 0) else none:=by show (if 3=3∧0≤i∧i<n then some (D.ptr o (r+i.toNat) 0) else none)=_;simp
@[simp] theorem a7g {α:Type} {f:α→List D} {l:List α} {d:D} (h:SlOf 3 f l d) (i:Int):a0a tab a0r d (.int .i64 i)=if 0≤i then (l[i.toNat]?).map fun p => .fptr (f p) else none := 
 by
  rcases h with ⟨rfl,rfl⟩ | ⟨b,rfl⟩
  ·show none=_;simp
  ·rw [b9X];simp [Function.comp_def]
@[simp] theorem b1V (o k f:Nat):a0b tab a0j 1 (.ptr o k f)=some (.ptr o k (f+1)):=id rfl
@[simp] theorem c3J (h:Hp) (o k f:Nat):a0c tab h a0Y (.ptr o k f)=(h.row o k).bind fun row=>(row.drop f).head?:=by show (match h.row o k with | some row=>_ | none=>none)=_;cases h.row o k <;> rfl
@[simp] theorem a8p {α:Type} {f:α→List D} {l:List α} {d:D} (h:SlOf 1 f l d):a0w tab a0Y d=some (.int .i64 l.length) := 
 by
  rcases h with ⟨rfl,rfl⟩ | ⟨b,rfl⟩
  ·rfl
  ·show some (D.int .i64 ((l.map f).length:Nat))=_;simp
@[simp] theorem c7M (f:Bool) (rows:List (List D)) (i:Int):a0a tab a0Y (.sl 1 f rows) (.int .i64 i)=if 0≤i then (rows[i.toNat]?).map .fptr else none:=by show (if 1=1∧0≤i then (match rows[i.toNat]? with | some row=>some (D.fptr row) | none=>none) else none)=_;by_cases h:0≤i <;> simp [h] <;> cases rows[i.toNat]? <;> rfl
@[simp] theorem a8W {α:Type} {f:α→List D} {l:List α} {d:D} (h:SlOf 1 f l d) (i:Int):a0a tab a0Y d (.int .i64 i)=if 0≤i then (l[i.toNat]?).map fun p => .fptr (f p) else none := 
 by
  rcases h with ⟨rfl,rfl⟩ | ⟨b,rfl⟩
  ·show none=_;simp
  ·rw [c7M];simp [Function.comp_def]
@[simp] theorem ld3 (c:D) (cs:List D) (h:Hp):a0c tab h ty3 (.fptr (c::cs))=some c:=id rfl
@[simp] theorem c3G (h:Hp) (o k f:Nat):a0c tab h ty3 (.ptr o k f)=(h.row o k).bind fun row=>(row.drop f).head?:=by show (match h.row o k with | some row=>_ | none=>none)=_;cases h.row o k <;> rfl
@[simp] theorem b1U (o k f:Nat):a0b tab a0j 0 (.ptr o k f)=some (.ptr o k (f+0)):=id rfl
@[simp] theorem c3E (c:D) (cs:List D) (h:Hp):a0c tab h a0D (.fptr (c::cs))=some c:=id rfl
@[simp] theorem c0d (h:Hp) (o k f:Nat):a0c tab h a0D (.ptr o k f)=(h.row o k).bind fun row=>(row.drop f).head?:=by show (match h.row o k with | some row=>_ | none=>none)=_;cases h.row o k <;> rfl
@[simp] theorem a2l {α:Type} {f:α→List D} {l:List α} {d:D} (h:SlOf 3 f l d):a0w tab a0g d=some (.int .i64 l.length) := 
 by
  rcases h with ⟨rfl,rfl⟩ | ⟨b,rfl⟩
  ·rfl
  ·show some (D.int .i64 ((l.map f).length:Nat))=_;simp
@[simp] theorem a3Z (z o r n:Nat):a0w tab a0g (.msl z o r n)=some (.int .i64 n):=id rfl
@[simp] theorem b9Y (f:Bool) (rows:List (List D)) (i:Int):a0a tab a0g (.sl 3 f rows) (.int .i64 i)=if 0≤i then (rows[i.toNat]?).map .fptr else none:=by show (if 3=3∧0≤i then (match rows[i.toNat]? with | some row=>some (D.fptr row) | none=>none) else none)=_;by_cases h:0≤i <;> simp [h] <;> cases rows[i.toNat]? <;> rfl
@[simp] theorem a2B (o r n:Nat) (i:Int):a0a tab a0g (.msl 3 o r n) (.int .i64 i)=if 0≤i∧i<n then some (.ptr o (r+i.toNat) 0) else none:=by show (if 3=3∧0≤i∧i<n then some (D.ptr o (r+i.toNat) 0) else none)=_;simp
@[simp] theorem a3B {α:Type} {f:α→List D} {l:List α} {d:D} (h:SlOf 3 f l d) (i:Int):a0a tab a0g d (.int .i64 i)=if 0≤i then (l[i.toNat]?).map fun p => .fptr (f p) else none := 
 by
  rcases h with ⟨rfl,rfl⟩ | ⟨b,rfl⟩
  ·show none=_;simp
  ·rw [b9Y];simp [Function.comp_def]
@[simp] theorem c0b (c0 c1 c2:D) (cs:List D) (h:Hp):a0c tab h a0d (.fptr (c0::c1::c2::cs))=some (.agg [c0,c1,c2]):=id rfl
@[simp] theorem a2O (h:Hp) (o k f:Nat):a0c tab h a0d (.ptr o k f)=(h.row o k).bind fun row=>b1f 3 (row.drop f):=by show (match h.row o k with | some row=>_ | none=>none)=_;cases h.row o k <;> rfl
theorem a2c {h:Hp} {o T sz kk off:Nat} {rows:List (List D)} {row:List D} {v:D} (ho:h[o]?=some (.row T sz rows)) (hr:rows[kk]?=some row) (hv:(a0u v).length=3) (hl:off+3≤row.length) (hk:v.okv=true) {β:Type} {f:Hp→Option β} {Q:β→Prop}
  (k:∀ h',h'[o]?=some (.row T sz (rows.set kk (spl row off (a0u v))))→Same o h h'→Wp (f h') Q):Wp ((a0t tab h a0d (.ptr o kk off) v).bind f) Q := 
 by rw [show a0t tab h a0d (.ptr o kk off) v=pSt 3 h (.ptr o kk off) v from rfl];exact a4c ho hr hv hl hk k
@[simp] theorem b1W (o k f:Nat):a0b tab a0d 0 (.ptr o k f)=some (.ptr o k (f+0)):=id rfl
@[simp] theorem a3U (o k f:Nat):a0b tab a0d 1 (.ptr o k f)=some (.ptr o k (f+1)):=id rfl
@[simp] theorem b5v (n0:Int):a0A tab a0Y 1 [0] [.int .i64 n0]=some (.sl 1 true [[.int .i64 n0]]):=id rfl
@[simp] theorem a7U (o k f:Nat):a0b tab a0d 2 (.ptr o k f)=some (.ptr o k (f+2)):=id rfl
@[simp] theorem a4p (d0:D) (d1:D) (n2:Int) (h0:d0.one=true) (h1:d1.one=true):a0M tab a0j [0,1,2] [d0,d1,.int .i64 n2]=some (.agg [d0,d1,.int .i64 n2]):=by
 have c0:=a1U h0
 have c1:=a1U h1
 refine b3T (T:=tab) (i:=ti1146) (fs:=[(24,0,1),(46,1,1),(3,2,1)]) (id rfl) (id rfl) ?_
 rw [show ti1146.zero=[.nils,.nils,.int .i64 0] from id rfl]
 rw [a1Q (off:=0) (sz:=1) (id rfl) (by rw [c0.1];rfl) (by simp [spl,a1z,a1A,a1i,a1y]) c0.2,c0.1]
 rw [a1Q (off:=1) (sz:=1) (id rfl) (by rw [c1.1];rfl) (by simp [spl,a1z,a1A,a1i,a1y]) c1.2,c1.1]
 rw [a1Q (off:=2) (sz:=1) (id rfl) (id rfl) (by simp [spl,a1z,a1A,a1i,a1y]) (id rfl)]
 exact id rfl
@[simp] theorem a6O (x0_0 x0_1 x0_2:D):a0A tab a0r 1 [0] [.agg [x0_0,x0_1,x0_2]]=some (.sl 3 true [[x0_0,x0_1,x0_2]]):=id rfl
theorem a5v {h:Hp} {n0:Nat} (hn0:n0≤h.length) {rows:List (List D)} {x y:D} (hx:Own h n0 a0j 3 rows x) {ys:List (List D)} (hy:a0G h 3 y=some ys) (hl:(rows.length+ys.length)*56≤140737488355328) {β:Type} {f:D × Hp→Option β} {Q:β→Prop}
  (k:∀ x' h',Own h' n0 a0j 3 (rows++ys) x'→h.length≤h'.length→(∀ q,q<n0→h'[q]?=h[q]?)→(∀ q,q<h.length→¬ x.inOb q→h'[q]?=h[q]?)→(∀ q,x'.inOb q→x.inOb q∨h.length≤q)→Wp (f (x',h')) Q):Wp ((a0q tab h a0r a0r x y).bind f) Q := 
 a4o (T:=tab) (i:=ti1144) (j:=ti1146) (id rfl) (id rfl) (id rfl) (by decide) hn0 hx hy (a2G hl (by omega)) k
@[simp] theorem a1C {α:Type} {f:α→List D} {l:List α} {d:D} (h:SlOf 1 f l d):a0w tab a0D d=some (.int .i64 l.length) := 
 by
  rcases h with ⟨rfl,rfl⟩ | ⟨b,rfl⟩
  ·rfl
  ·show some (D.int .i64 ((l.map f).length:Nat))=_;simp
@[simp] theorem c3K (z:Nat) (f:Bool) (rows:List (List D)):a0w tab a0D (.sl z f rows)=some (.int .i64 rows.length):=id rfl
@[simp] theorem c0e (z o r n:Nat):a0w tab a0D (.msl z o r n)=some (.int .i64 n):=id rfl
@[simp] theorem c3H (h:Hp) (o k f:Nat):a0c tab h a0P (.ptr o k f)=(h.row o k).bind fun row=>b1f 10 (row.drop f):=by show (match h.row o k with | some row=>_ | none=>none)=_;cases h.row o k <;> rfl
@[simp] theorem b8s (f:Bool) (rows:List (List D)) (i:Int):a0a tab a0D (.sl 1 f rows) (.int .i64 i)=if 0≤i then (rows[i.toNat]?).map .fptr else none:=by show (if 1=1∧0≤i then (match rows[i.toNat]? with | some row=>some (D.fptr row) | none=>none) else none)=_;by_cases h:0≤i <;> simp [h] <;> cases rows[i.toNat]? <;> rfl
@[simp] theorem c3z (o r n:Nat) (i:Int):a0a tab a0D (.msl 1 o r n) (.int .i64 i)=if 0≤i∧i<n then some (.ptr o (r+i.toNat) 0) else none:=by show (if 1=1∧0≤i∧i<n then some (D.ptr o (r+i.toNat) 0) else none)=_;simp
@[simp] theorem a5n {α:Type} {f:α→List D} {l:List α} {d:D} (h:SlOf 1 f l d) (i:Int):a0a tab a0D d (.int .i64 i)=if 0≤i then (l[i.toNat]?).map fun p => .fptr (f p) else none := 
 by
  rcases h with ⟨rfl,rfl⟩ | ⟨b,rfl⟩
  ·show none=_;simp
  ·rw [b8s];simp [Function.comp_def]
@[simp] theorem ld9 (c:D) (cs:List D) (h:Hp):a0c tab h ty9 (.fptr (c::cs))=some c:=id rfl
@[simp] theorem c7S (h:Hp) (o k f:Nat):a0c tab h ty9 (.ptr o k f)=(h.row o k).bind fun row=>(row.drop f).head?:=by show (match h.row o k with | some row=>_ | none=>none)=_;cases h.row o k <;> rfl
@[simp] theorem a9P (s0:List UInt8):a0A tab a0D 1 [0] [.str s0]=some (.sl 1 true [[.str s0]]):=id rfl
theorem b5k {h:Hp} {n0:Nat} (hn0:n0≤h.length) {rows:List (List D)} {x y:D} (hx:Own h n0 ty9 1 rows x) {ys:List (List D)} (hy:a0G h 1 y=some ys) (hl:(rows.length+ys.length)*16≤140737488355328) {β:Type} {f:D × Hp→Option β} {Q:β→Prop}
  (k:∀ x' h',Own h' n0 ty9 1 (rows++ys) x'→h.length≤h'.length→(∀ q,q<n0→h'[q]?=h[q]?)→(∀ q,q<h.length→¬ x.inOb q→h'[q]?=h[q]?)→(∀ q,x'.inOb q→x.inOb q∨h.length≤q)→Wp (f (x',h')) Q):Wp ((a0q tab h a0D a0D x y).bind f) Q := 
 a4o (T:=tab) (i:=c0H) (j:=ti9) (id rfl) (id rfl) (id rfl) (by decide) hn0 hx hy (a2G hl (by omega)) k
@[simp] theorem a8Y (h:Hp) (o k f:Nat):a0c tab h a0g (.ptr o k f)=(h.row o k).bind fun row=>(row.drop f).head?:=by show (match h.row o k with | some row=>_ | none=>none)=_;cases h.row o k <;> rfl
theorem b3y {h:Hp} {o T sz kk off:Nat} {rows:List (List D)} {row:List D} {v:D} (ho:h[o]?=some (.row T sz rows)) (hr:rows[kk]?=some row) (hv:(a0u v).length=1) (hl:off+1≤row.length) (hk:v.okv=true) {β:Type} {f:Hp→Option β} {Q:β→Prop}
  (k:∀ h',h'[o]?=some (.row T sz (rows.set kk (spl row off (a0u v))))→Same o h h'→Wp (f h') Q):Wp ((a0t tab h a0g (.ptr o kk off) v).bind f) Q := 
 by rw [show a0t tab h a0g (.ptr o kk off) v=pSt 1 h (.ptr o kk off) v from rfl];exact a4c ho hr hv hl hk k
theorem b8j {h:Hp} {o T sz kk off:Nat} {rows:List (List D)} {row:List D} {v:D} (ho:h[o]?=some (.row T sz rows)) (hr:rows[kk]?=some row) (hv:(a0u v).length=1) (hl:off+1≤row.length) (hk:v.okv=true) {β:Type} {f:Hp→Option β} {Q:β→Prop}
  (k:∀ h',h'[o]?=some (.row T sz (rows.set kk (spl row off (a0u v))))→Same o h h'→Wp (f h') Q):Wp ((a0t tab h ty3 (.ptr o kk off) v).bind f) Q := 
 by rw [show a0t tab h ty3 (.ptr o kk off) v=pSt 1 h (.ptr o kk off) v from rfl];exact a4c ho hr hv hl hk k
@[simp] theorem a5I (d0:D) (n1:Int) (h0:d0.one=true):a0M tab a0d [0,1] [d0,.int .i64 n1]=some (.agg [d0,.int .i64 n1,.int .i64 0]):=by
 have c0:=a1U h0
 refine b3T (T:=tab) (i:=ti1237) (fs:=[(24,0,1),(3,1,1),(3,2,1)]) (id rfl) (id rfl) ?_
 rw [show ti1237.zero=[.nils,.int .i64 0,.int .i64 0] from id rfl]
 rw [a1Q (off:=0) (sz:=1) (id rfl) (by rw [c0.1];rfl) (by simp [spl,a1z,a1A,a1i,a1y]) c0.2,c0.1]
 rw [a1Q (off:=1) (sz:=1) (id rfl) (id rfl) (by simp [spl,a1z,a1A,a1i,a1y]) (id rfl)]
 exact id rfl
@[simp] theorem b3Y (x0_0 x0_1 x0_2:D):a0A tab a0g 1 [0] [.agg [x0_0,x0_1,x0_2]]=some (.sl 3 true [[x0_0,x0_1,x0_2]]):=id rfl
theorem a7x {h:Hp} {n0:Nat} (hn0:n0≤h.length) {rows:List (List D)} {x y:D} (hx:Own h n0 a0d 3 rows x) {ys:List (List D)} (hy:a0G h 3 y=some ys) (hl:(rows.length+ys.length)*40≤140737488355328) {β:Type} {f:D × Hp→Option β} {Q:β→Prop}
  (k:∀ x' h',Own h' n0 a0d 3 (rows++ys) x'→h.length≤h'.length→(∀ q,q<n0→h'[q]?=h[q]?)→(∀ q,q<h.length→¬ x.inOb q→h'[q]?=h[q]?)→(∀ q,x'.inOb q→x.inOb q∨h.length≤q)→Wp (f (x',h')) Q):Wp ((a0q tab h a0g a0g x y).bind f) Q := 
 a4o (T:=tab) (i:=ti1229) (j:=ti1237) (id rfl) (id rfl) (id rfl) (by decide) hn0 hx hy (a2G hl (by omega)) k
theorem b3n {α:Type} {f:α→List D} {l:List α} {d:D} (hd:SlOf 3 f l d) {k:IntKind} {n:Int} (h0:0≤n) (h1:n≤l.length) :
  ∃ d',a0s tab a0g false true false [d,.int k n]=some d'∧SlOf 3 f (l.take n.toNat) d':=a9j (T:=tab) (i:=ti1229) (j:=ti1237) (id rfl) (id rfl) (id rfl) (id rfl) hd h0 h1
theorem b3o {α:Type} {f:α→List D} {l:List α} {d:D} (hd:SlOf 3 f l d) {k:IntKind} {n:Int} (h0:0≤n) (h1:n≤l.length) :
  ∃ d',a0s tab a0g true false false [d,.int k n]=some d'∧SlOf 3 f (l.drop n.toNat) d':=b3p (T:=tab) (i:=ti1229) (j:=ti1237) (id rfl) (id rfl) (id rfl) (id rfl) hd h0 h1
@[simp] theorem a7G (d0:D) (n1:Int) (n2:Int) (h0:d0.one=true):a0M tab a0d [0,1,2] [d0,.int .i64 n1,.int .i64 n2]=some (.agg [d0,.int .i64 n1,.int .i64 n2]):=by
 have c0:=a1U h0
 refine b3T (T:=tab) (i:=ti1237) (fs:=[(24,0,1),(3,1,1),(3,2,1)]) (id rfl) (id rfl) ?_
 rw [show ti1237.zero=[.nils,.int .i64 0,.int .i64 0] from id rfl]
 rw [a1Q (off:=0) (sz:=1) (id rfl) (by rw [c0.1];rfl) (by simp [spl,a1z,a1A,a1i,a1y]) c0.2,c0.1]
 rw [a1Q (off:=1) (sz:=1) (id rfl) (id rfl) (by simp [spl,a1z,a1A,a1i,a1y]) (id rfl)]
 rw [a1Q (off:=2) (sz:=1) (id rfl) (id rfl) (by simp [spl,a1z,a1A,a1i,a1y]) (id rfl)]
 exact id rfl
@[simp] theorem c7T (z:Nat) (f:Bool) (rows:List (List D)):a0w tab a5F (.sl z f rows)=some (.int .i64 rows.length):=id rfl
@[simp] theorem b6M (d0:D) (h0:d0.one=true):a0M tab a3u [0] [d0]=some (.agg [d0,.int .i64 0]):=by
 have c0:=a1U h0
 refine b3T (T:=tab) (i:=ti101) (fs:=[(22,0,1),(3,1,1)]) (id rfl) (id rfl) ?_
 rw [show ti101.zero=[.nils,.int .i64 0] from id rfl]
 rw [a1Q (off:=0) (sz:=1) (id rfl) (by rw [c0.1];rfl) (by simp [spl,a1z,a1A,a1i,a1y]) c0.2,c0.1]
 exact id rfl
def lt98_45:List (List UInt8):=[[108,101,118,101,108],[64,104,111,115,116],[64,115,116,114,101,97,109],[99,111,100,101],[64,116,114,97,99,101]]
@[simp] theorem b0V:a0A tab a0D 5 [0,1,2,3,4] [.str [108,101,118,101,108],.str [64,104,111,115,116],.str [64,115,116,114,101,97,109],.str [99,111,100,101],.str [64,116,114,97,99,101]]=some (.sl 1 true (lt98_45.map fun s=>[.str s])):=id rfl
@[simp] theorem b7x {α:Type} {f:α→List D} {l:List α} {d:D} (h:SlOf 1 f l d):a0w tab a3G d=some (.int .i64 l.length) := 
 by
  rcases h with ⟨rfl,rfl⟩ | ⟨b,rfl⟩
  ·rfl
  ·show some (D.int .i64 ((l.map f).length:Nat))=_;simp
@[simp] theorem c3w (f:Bool) (rows:List (List D)) (i:Int):a0a tab a3G (.sl 1 f rows) (.int .i64 i)=if 0≤i then (rows[i.toNat]?).map .fptr else none:=by show (if 1=1∧0≤i then (match rows[i.toNat]? with | some row=>some (D.fptr row) | none=>none) else none)=_;by_cases h:0≤i <;> simp [h] <;> cases rows[i.toNat]? <;> rfl
@[simp] theorem b9Z {α:Type} {f:α→List D} {l:List α} {d:D} (h:SlOf 1 f l d) (i:Int):a0a tab a3G d (.int .i64 i)=if 0≤i then (l[i.toNat]?).map fun p => .fptr (f p) else none := 
 by
  rcases h with ⟨rfl,rfl⟩ | ⟨b,rfl⟩
  ·show none=_;simp
  ·rw [c3w];simp [Function.comp_def]
@[simp] theorem c3D (c:D) (cs:List D) (h:Hp):a0c tab h a2w (.fptr (c::cs))=some c:=id rfl
@[simp] theorem b7y {α:Type} {f:α→List D} {l:List α} {d:D} (h:SlOf 11 f l d):a0w tab a2w d=some (.int .i64 l.length) := 
 by
  rcases h with ⟨rfl,rfl⟩ | ⟨b,rfl⟩
  ·rfl
  ·show some (D.int .i64 ((l.map f).length:Nat))=_;simp
@[simp] theorem c3x (f:Bool) (rows:List (List D)) (i:Int):a0a tab a2w (.sl 11 f rows) (.int .i64 i)=if 0≤i then (rows[i.toNat]?).map .fptr else none:=by show (if 11=11∧0≤i then (match rows[i.toNat]? with | some row=>some (D.fptr row) | none=>none) else none)=_;by_cases h:0≤i <;> simp [h] <;> cases rows[i.toNat]? <;> rfl
@[simp] theorem c0a {α:Type} {f:α→List D} {l:List α} {d:D} (h:SlOf 11 f l d) (i:Int):a0a tab a2w d (.int .i64 i)=if 0≤i then (l[i.toNat]?).map fun p => .fptr (f p) else none := 
 by
  rcases h with ⟨rfl,rfl⟩ | ⟨b,rfl⟩
  ·show none=_;simp
  ·rw [c3x];simp [Function.comp_def]
@[simp] theorem c5j (c0 c1:D) (cs:List D):a0b tab a2j 1 (.fptr (c0::c1::cs))=some (.fptr (c1::cs)):=id rfl
@[simp] theorem c1e (o k f:Nat):a0b tab a3u 0 (.ptr o k f)=some (.ptr o k (f+0)):=id rfl
@[simp] theorem c7R (h:Hp) (o k f:Nat):a0c tab h a5F (.ptr o k f)=(h.row o k).bind fun row=>(row.drop f).head?:=by show (match h.row o k with | some row=>_ | none=>none)=_;cases h.row o k <;> rfl
@[simp] theorem c1f (o k f:Nat):a0b tab a3u 1 (.ptr o k f)=some (.ptr o k (f+1)):=id rfl
@[simp] theorem c8L (f:Bool) (rows:List (List D)) (i:Int):a0a tab a5F (.sl 1 f rows) (.int .i64 i)=if 0≤i then (rows[i.toNat]?).map .fptr else none:=by show (if 1=1∧0≤i then (match rows[i.toNat]? with | some row=>some (D.fptr row) | none=>none) else none)=_;by_cases h:0≤i <;> simp [h] <;> cases rows[i.toNat]? <;> rfl
@[simp] theorem ld5 (c:D) (cs:List D) (h:Hp):a0c tab h ty5 (.fptr (c::cs))=some c:=id rfl
@[simp] theorem c5u (k:IntKind) (n:Int):a1D tab ty5 ty3 (.int k n)=some (.int .i64 (IntKind.wrap .i64 n)):=id rfl
@[simp] theorem b2w {α:Type} {f:α→List D} {l:List α} {d:D} (h:SlOf 10 f l d):a0w tab a4g d=some (.int .i64 l.length) := 
 by
  rcases h with ⟨rfl,rfl⟩ | ⟨b,rfl⟩
  ·rfl
  ·show some (D.int .i64 ((l.map f).length:Nat))=_;simp
@[simp] theorem c7L (f:Bool) (rows:List (List D)) (i:Int):a0a tab a4g (.sl 10 f rows) (.int .i64 i)=if 0≤i then (rows[i.toNat]?).map .fptr else none:=by show (if 10=10∧0≤i then (match rows[i.toNat]? with | some row=>some (D.fptr row) | none=>none) else none)=_;by_cases h:0≤i <;> simp [h] <;> cases rows[i.toNat]? <;> rfl
@[simp] theorem b4K {α:Type} {f:α→List D} {l:List α} {d:D} (h:SlOf 10 f l d) (i:Int):a0a tab a4g d (.int .i64 i)=if 0≤i then (l[i.toNat]?).map fun p => .fptr (f p) else none := 
 by
  rcases h with ⟨rfl,rfl⟩ | ⟨b,rfl⟩
  ·show none=_;simp
  ·rw [c7L];simp [Function.comp_def]
@[simp] theorem b3X  : a0A tab a0g 0 [] []=some (.sl 3 true []):=id rfl
@[simp] theorem b1u (n0:Int) (n1:Int):a0A tab a0Y 2 [0,1] [.int .i64 n0,.int .i64 n1]=some (.sl 1 true [[.int .i64 n0],[.int .i64 n1]]):=id rfl
@[simp] theorem b9u  : a0A tab a0D 0 [] []=some (.sl 1 true []):=id rfl
@[simp] theorem b3V  : a0A tab a0r 0 [] []=some (.sl 3 true []):=id rfl
@[simp] theorem a8X (h:Hp) (o k f:Nat):a0c tab h a0j (.ptr o k f)=(h.row o k).bind fun row=>b1f 3 (row.drop f):=by show (match h.row o k with | some row=>_ | none=>none)=_;cases h.row o k <;> rfl
theorem b7T {α:Type} {f:α→List D} {l:List α} {d:D} (hd:SlOf 3 f l d) {k:IntKind} {n:Int} (h0:0≤n) (h1:n≤l.length) :
  ∃ d',a0s tab a0r false true false [d,.int k n]=some d'∧SlOf 3 f (l.take n.toNat) d':=a9j (T:=tab) (i:=ti1144) (j:=ti1146) (id rfl) (id rfl) (id rfl) (id rfl) hd h0 h1
@[simp] theorem c5d (c0:D) (cs:List D):a0b tab a0P 0 (.fptr (c0::cs))=some (.fptr (c0::cs)):=id rfl
@[simp] theorem c5e (c0 c1:D) (cs:List D):a0b tab a0P 1 (.fptr (c0::c1::cs))=some (.fptr (c1::cs)):=id rfl
@[simp] theorem c5h (c0 c1 c2 c3 c4 c5:D) (cs:List D):a0b tab a0P 5 (.fptr (c0::c1::c2::c3::c4::c5::cs))=some (.fptr (c5::cs)):=id rfl
@[simp] theorem b7a (o k f:Nat):a0b tab a0P 5 (.ptr o k f)=some (.ptr o k (f+5)):=id rfl
@[simp] theorem b7b (o k f:Nat):a0b tab a0P 6 (.ptr o k f)=some (.ptr o k (f+6)):=id rfl
@[simp] theorem b7c (o k f:Nat):a0b tab a0P 7 (.ptr o k f)=some (.ptr o k (f+7)):=id rfl
@[simp] theorem b7d (o k f:Nat):a0b tab a0P 8 (.ptr o k f)=some (.ptr o k (f+8)):=id rfl
@[simp] theorem c5i (c0 c1 c2 c3 c4 c5 c6 c7 c8 c9:D) (cs:List D):a0b tab a0P 9 (.fptr (c0::c1::c2::c3::c4::c5::c6::c7::c8::c9::cs))=some (.fptr (c9::cs)):=id rfl
@[simp] theorem b7e (o k f:Nat):a0b tab a0P 9 (.ptr o k f)=some (.ptr o k (f+9)):=id rfl
@[simp] theorem c8M (c:D) (cs:List D) (h:Hp):a0c tab h a5y (.fptr (c::cs))=some c:=id rfl
@[simp] theorem a2L (k:IntKind) (n:Int):a1D tab ty3 a1W (.int k n)=some (.int .u64 (IntKind.wrap .u64 n)):=id rfl
@[simp] theorem a2K (k:IntKind) (n:Int):a1D tab a1W ty3 (.int k n)=some (.int .i64 (IntKind.wrap .i64 n)):=id rfl
def lt98_46:List (List UInt8):=[[108,101,118,101,108],[109,115],[117,115,101,114],[99,111,100,101]]
@[simp] theorem b8v:a0A tab a0D 4 [0,1,2,3] [.str [108,101,118,101,108],.str [109,115],.str [117,115,101,114],.str [99,111,100,101]]=some (.sl 1 true (lt98_46.map fun s=>[.str s])):=id rfl
theorem c0V {h:Hp} {o T sz kk off:Nat} {rows:List (List D)} {row:List D} {v:D} (ho:h[o]?=some (.row T sz rows)) (hr:rows[kk]?=some row) (hv:(a0u v).length=11) (hl:off+11≤row.length) (hk:v.okv=true) {β:Type} {f:Hp→Option β} {Q:β→Prop}
  (k:∀ h',h'[o]?=some (.row T sz (rows.set kk (spl row off (a0u v))))→Same o h h'→Wp (f h') Q):Wp ((a0t tab h a2j (.ptr o kk off) v).bind f) Q := 
 by rw [show a0t tab h a2j (.ptr o kk off) v=pSt 11 h (.ptr o kk off) v from rfl];exact a4c ho hr hv hl hk k
@[simp] theorem c3I (h:Hp) (o k f:Nat):a0c tab h a2j (.ptr o k f)=(h.row o k).bind fun row=>b1f 11 (row.drop f):=by show (match h.row o k with | some row=>_ | none=>none)=_;cases h.row o k <;> rfl
theorem c0U {h:Hp} {n0:Nat} (hn0:n0≤h.length) {rows:List (List D)} {x y:D} (hx:Own h n0 a2j 11 rows x) {ys:List (List D)} (hy:a0G h 11 y=some ys) (hl:(rows.length+ys.length)*144≤140737488355328) {β:Type} {f:D × Hp→Option β} {Q:β→Prop}
  (k:∀ x' h',Own h' n0 a2j 11 (rows++ys) x'→h.length≤h'.length→(∀ q,q<n0→h'[q]?=h[q]?)→(∀ q,q<h.length→¬ x.inOb q→h'[q]?=h[q]?)→(∀ q,x'.inOb q→x.inOb q∨h.length≤q)→Wp (f (x',h')) Q):Wp ((a0q tab h a2w a2w x y).bind f) Q := 
 a4o (T:=tab) (i:=b3t) (j:=c4v) (id rfl) (id rfl) (id rfl) (by decide) hn0 hx hy (a2G hl (by omega)) k
@[simp] theorem c5g (c0 c1 c2 c3:D) (cs:List D):a0b tab a0P 3 (.fptr (c0::c1::c2::c3::cs))=some (.fptr (c3::cs)):=id rfl
@[simp] theorem b6Z (o k f:Nat):a0b tab a0P 3 (.ptr o k f)=some (.ptr o k (f+3)):=id rfl
@[simp] theorem b6N (d0:D) (h0:d0.one=true):a0A tab a3G 1 [0] [d0]=some (.sl 1 true [[d0]]):=b4O (T:=tab) (t:=a3G) (n:=1) (i:=b5f) (j:=b3t) (id rfl) (id rfl) (id rfl) (id rfl) [d0] rfl (by decide) (by simp [h0])
theorem c0T {h:Hp} {n0:Nat} (hn0:n0≤h.length) {rows:List (List D)} {x y:D} (hx:Own h n0 a2w 1 rows x) {ys:List (List D)} (hy:a0G h 1 y=some ys) (hl:(rows.length+ys.length)*24≤140737488355328) {β:Type} {f:D × Hp→Option β} {Q:β→Prop}
  (k:∀ x' h',Own h' n0 a2w 1 (rows++ys) x'→h.length≤h'.length→(∀ q,q<n0→h'[q]?=h[q]?)→(∀ q,q<h.length→¬ x.inOb q→h'[q]?=h[q]?)→(∀ q,x'.inOb q→x.inOb q∨h.length≤q)→Wp (f (x',h')) Q):Wp ((a0q tab h a3G a3G x y).bind f) Q := 
 a4o (T:=tab) (i:=b5f) (j:=b3t) (id rfl) (id rfl) (id rfl) (by decide) hn0 hx hy (a2G hl (by omega)) k
theorem b8f {h:Hp} {n0:Nat} (hn0:n0≤h.length) {rows:List (List D)} {x y:D} (hx:Own h n0 a0P 10 rows x) {ys:List (List D)} (hy:a0G h 10 y=some ys) (hl:(rows.length+ys.length)*128≤140737488355328) {β:Type} {f:D × Hp→Option β} {Q:β→Prop}
  (k:∀ x' h',Own h' n0 a0P 10 (rows++ys) x'→h.length≤h'.length→(∀ q,q<n0→h'[q]?=h[q]?)→(∀ q,q<h.length→¬ x.inOb q→h'[q]?=h[q]?)→(∀ q,x'.inOb q→x.inOb q∨h.length≤q)→Wp (f (x',h')) Q):Wp ((a0q tab h a4g a4g x y).bind f) Q := 
 a4o (T:=tab) (i:=c0G) (j:=c0F) (id rfl) (id rfl) (id rfl) (by decide) hn0 hx hy (a2G hl (by omega)) k
@[simp] theorem c4Z (x0_0 x0_1 x0_2 x0_3 x0_4 x0_5 x0_6 x0_7 x0_8 x0_9:D):a0A tab a4g 1 [0] [.agg [x0_0,x0_1,x0_2,x0_3,x0_4,x0_5,x0_6,x0_7,x0_8,x0_9]]=some (.sl 10 true [[x0_0,x0_1,x0_2,x0_3,x0_4,x0_5,x0_6,x0_7,x0_8,x0_9]]):=id rfl
@[simp] theorem b4m (k:IntKind) (n:Int):a1D tab ty3 a4x (.int k n)=some (.int .u64 (IntKind.wrap .u64 n)):=id rfl
@[simp] theorem b4l (k:IntKind) (n:Int):a1D tab a4x ty5 (.int k n)=some (.int .u8 (IntKind.wrap .u8 n)):=id rfl
@[simp] theorem b9r (n0:Int):a0A tab a5F 1 [0] [.int .u8 n0]=some (.sl 1 true [[.int .u8 n0]]):=id rfl
@[simp] theorem a8o {α:Type} {f:α→List D} {l:List α} {d:D} (h:SlOf 2 f l d):a0w tab a5y d=some (.int .i64 l.length) := 
 by
  rcases h with ⟨rfl,rfl⟩ | ⟨b,rfl⟩
  ·rfl
  ·show some (D.int .i64 ((l.map f).length:Nat))=_;simp
@[simp] theorem c7K (f:Bool) (rows:List (List D)) (i:Int):a0a tab a5y (.sl 2 f rows) (.int .i64 i)=if 0≤i then (rows[i.toNat]?).map .fptr else none:=by show (if 2=2∧0≤i then (match rows[i.toNat]? with | some row=>some (D.fptr row) | none=>none) else none)=_;by_cases h:0≤i <;> simp [h] <;> cases rows[i.toNat]? <;> rfl
@[simp] theorem b4J {α:Type} {f:α→List D} {l:List α} {d:D} (h:SlOf 2 f l d) (i:Int):a0a tab a5y d (.int .i64 i)=if 0≤i then (l[i.toNat]?).map fun p => .fptr (f p) else none := 
 by
  rcases h with ⟨rfl,rfl⟩ | ⟨b,rfl⟩
  ·show none=_;simp
  ·rw [c7K];simp [Function.comp_def]
@[simp] theorem c2V (c0:D) (cs:List D):a0b tab a3F 0 (.fptr (c0::cs))=some (.fptr (c0::cs)):=id rfl
@[simp] theorem c2W (c0 c1:D) (cs:List D):a0b tab a3F 1 (.fptr (c0::c1::cs))=some (.fptr (c1::cs)):=id rfl
@[simp] theorem b0L (n0:Int) (n1:Int) (n2:Int):a0M tab a0P [0,1,2] [.int .i64 n0,.int .i64 n1,.int .i64 n2]=some (.agg [.int .i64 n0,.int .i64 n1,.int .i64 n2,.int .i64 0,.nils,.int .i64 0,.int .i64 0,.str [],.str [],.nils]):=id rfl
theorem c4P {h:Hp} {o T sz kk off:Nat} {rows:List (List D)} {row:List D} {v:D} (ho:h[o]?=some (.row T sz rows)) (hr:rows[kk]?=some row) (hv:(a0u v).length=10) (hl:off+10≤row.length) (hk:v.okv=true) {β:Type} {f:Hp→Option β} {Q:β→Prop}
  (k:∀ h',h'[o]?=some (.row T sz (rows.set kk (spl row off (a0u v))))→Same o h h'→Wp (f h') Q):Wp ((a0t tab h a0P (.ptr o kk off) v).bind f) Q := 
 by rw [show a0t tab h a0P (.ptr o kk off) v=pSt 10 h (.ptr o kk off) v from rfl];exact a4c ho hr hv hl hk k
@[simp] theorem c7U (s:List UInt8):a0w tab ty9 (.str s)=some (.int .i64 s.length):=id rfl
@[simp] theorem b1X (o k f:Nat):a0b tab a0P 4 (.ptr o k f)=some (.ptr o k (f+4)):=id rfl
@[simp] theorem c0c (h:Hp) (o k f:Nat):a0c tab h a8D (.ptr o k f)=(h.row o k).bind fun row=>(row.drop f).head?:=by show (match h.row o k with | some row=>_ | none=>none)=_;cases h.row o k <;> rfl
@[simp] theorem b0M (n0:Int) (n1:Int) (s2:List UInt8):a0M tab b3E [0,1,2] [.int .i64 n0,.int .i64 n1,.str s2]=some (.agg [.int .i64 n0,.int .i64 n1,.str s2]):=id rfl
@[simp] theorem b9s (x0_0 x0_1 x0_2:D):a0A tab a8D 1 [0] [.agg [x0_0,x0_1,x0_2]]=some (.sl 3 true [[x0_0,x0_1,x0_2]]):=id rfl
theorem c4L {h:Hp} {n0:Nat} (hn0:n0≤h.length) {rows:List (List D)} {x y:D} (hx:Own h n0 b3E 3 rows x) {ys:List (List D)} (hy:a0G h 3 y=some ys) (hl:(rows.length+ys.length)*32≤140737488355328) {β:Type} {f:D × Hp→Option β} {Q:β→Prop}
  (k:∀ x' h',Own h' n0 b3E 3 (rows++ys) x'→h.length≤h'.length→(∀ q,q<n0→h'[q]?=h[q]?)→(∀ q,q<h.length→¬ x.inOb q→h'[q]?=h[q]?)→(∀ q,x'.inOb q→x.inOb q∨h.length≤q)→Wp (f (x',h')) Q):Wp ((a0q tab h a8D a8D x y).bind f) Q := 
 a4o (T:=tab) (i:=c4t) (j:=c4w) (id rfl) (id rfl) (id rfl) (by decide) hn0 hx hy (a2G hl (by omega)) k
theorem c4N {h:Hp} {o T sz kk off:Nat} {rows:List (List D)} {row:List D} {v:D} (ho:h[o]?=some (.row T sz rows)) (hr:rows[kk]?=some row) (hv:(a0u v).length=1) (hl:off+1≤row.length) (hk:v.okv=true) {β:Type} {f:Hp→Option β} {Q:β→Prop}
  (k:∀ h',h'[o]?=some (.row T sz (rows.set kk (spl row off (a0u v))))→Same o h h'→Wp (f h') Q):Wp ((a0t tab h a8D (.ptr o kk off) v).bind f) Q := 
 by rw [show a0t tab h a8D (.ptr o kk off) v=pSt 1 h (.ptr o kk off) v from rfl];exact a4c ho hr hv hl hk k
theorem c0f {h:Hp} {n0 e z:Nat} {rows:List (List D)} {d:D} (hd:Own h n0 e z rows d):a0w tab a8D d=some (.int .i64 rows.length):=by
 rcases hd with ⟨rfl,rfl⟩ | ⟨o,_,rfl,_⟩ <;> rfl
@[simp] theorem c3y (o r n:Nat) (i:Int):a0a tab a8D (.msl 3 o r n) (.int .i64 i)=if 0≤i∧i<n then some (.ptr o (r+i.toNat) 0) else none:=by show (if 3=3∧0≤i∧i<n then some (D.ptr o (r+i.toNat) 0) else none)=_;simp
@[simp] theorem b7f (o k f:Nat):a0b tab b3E 2 (.ptr o k f)=some (.ptr o k (f+2)):=id rfl
theorem c4Q {h:Hp} {o T sz kk off:Nat} {rows:List (List D)} {row:List D} {v:D} (ho:h[o]?=some (.row T sz rows)) (hr:rows[kk]?=some row) (hv:(a0u v).length=1) (hl:off+1≤row.length) (hk:v.okv=true) {β:Type} {f:Hp→Option β} {Q:β→Prop}
  (k:∀ h',h'[o]?=some (.row T sz (rows.set kk (spl row off (a0u v))))→Same o h h'→Wp (f h') Q):Wp ((a0t tab h ty9 (.ptr o kk off) v).bind f) Q := 
 by rw [show a0t tab h ty9 (.ptr o kk off) v=pSt 1 h (.ptr o kk off) v from rfl];exact a4c ho hr hv hl hk k
def lt98_4:List (List UInt8):=[[115,97,109,112,108,101],[100,114,111,112],[116,111,111,45,108,111,110,103]]
@[simp] theorem b2E:a0A tab a0D 3 [0,1,2] [.str [115,97,109,112,108,101],.str [100,114,111,112],.str [116,111,111,45,108,111,110,103]]=some (.sl 1 true (lt98_4.map fun s=>[.str s])):=id rfl
@[simp] theorem b3S (s0:List UInt8) (x1_0 x1_1 x1_2 x1_3 x1_4 x1_5 x1_6 x1_7 x1_8 x1_9:D):a0M tab a2j [0,1] [.str s0,.agg [x1_0,x1_1,x1_2,x1_3,x1_4,x1_5,x1_6,x1_7,x1_8,x1_9]]=some (.agg [.str s0,x1_0,x1_1,x1_2,x1_3,x1_4,x1_5,x1_6,x1_7,x1_8,x1_9]):=id rfl
def lt98_5:List (List UInt8):=[[116,49],[116,50],[],[49,58,50,58,48]]
@[simp] theorem b2F:a0A tab a0D 4 [0,1,2,3] [.str [116,49],.str [116,50],.str [],.str [49,58,50,58,48]]=some (.sl 1 true (lt98_5.map fun s=>[.str s])):=id rfl
def lt98_6:List (List UInt8):=[[109,97,105,110],[100,101,98,117,103]]
@[simp] theorem b2G:a0A tab a0D 2 [0,1] [.str [109,97,105,110],.str [100,101,98,117,103]]=some (.sl 1 true (lt98_6.map fun s=>[.str s])):=id rfl
theorem c4O {h:Hp} {o T sz kk off:Nat} {rows:List (List D)} {row:List D} {v:D} (ho:h[o]?=some (.row T sz rows)) (hr:rows[kk]?=some row) (hv:(a0u v).length=1) (hl:off+1≤row.length) (hk:v.okv=true) {β:Type} {f:Hp→Option β} {Q:β→Prop}
  (k:∀ h',h'[o]?=some (.row T sz (rows.set kk (spl row off (a0u v))))→Same o h h'→Wp (f h') Q):Wp ((a0t tab h a5y (.ptr o kk off) v).bind f) Q := 
 by rw [show a0t tab h a5y (.ptr o kk off) v=pSt 1 h (.ptr o kk off) v from rfl];exact a4c ho hr hv hl hk k
@[simp] theorem b9q (x0_0 x0_1 x0_2 x0_3 x0_4 x0_5 x0_6 x0_7 x0_8 x0_9:D):a0M tab a2j [1] [.agg [x0_0,x0_1,x0_2,x0_3,x0_4,x0_5,x0_6,x0_7,x0_8,x0_9]]=some (.agg [.str [],x0_0,x0_1,x0_2,x0_3,x0_4,x0_5,x0_6,x0_7,x0_8,x0_9]):=id rfl
@[simp] theorem c5f (c0 c1 c2:D) (cs:List D):a0b tab a0P 2 (.fptr (c0::c1::c2::cs))=some (.fptr (c2::cs)):=id rfl
theorem a3m {h:Hp} {o T sz kk off:Nat} {rows:List (List D)} {row:List D} {v:D} (ho:h[o]?=some (.row T sz rows)) (hr:rows[kk]?=some row) (hv:(a0u v).length=3) (hl:off+3≤row.length) (hk:v.okv=true) {β:Type} {f:Hp→Option β} {Q:β→Prop}
  (k:∀ h',h'[o]?=some (.row T sz (rows.set kk (spl row off (a0u v))))→Same o h h'→Wp (f h') Q):Wp ((a0t tab h a0j (.ptr o kk off) v).bind f) Q := 
 by rw [show a0t tab h a0j (.ptr o kk off) v=pSt 3 h (.ptr o kk off) v from rfl];exact a4c ho hr hv hl hk k
def lt98_7:List (List UInt8):=[[32],[32],[44,32],[61],[]]
@[simp] theorem b2H:a0A tab a0D 5 [0,1,2,3,4] [.str [32],.str [32],.str [44,32],.str [61],.str []]=some (.sl 1 true (lt98_7.map fun s=>[.str s])):=id rfl
def lt82_8:List Int:=[1,1,2,5,10,5040]
@[simp] theorem c0g:a0A tab a0Y 6 [0,1,2,3,4,5] [.int .i64 1,.int .i64 1,.int .i64 2,.int .i64 5,.int .i64 10,.int .i64 5040]=some (.sl 1 true (lt82_8.map fun n=>[.int .i64 n])):=id rfl
def lt98_9:List (List UInt8):=[[99,111,100,101],[108,101,118,101,108],[109,115],[117,115,101,114]]
@[simp] theorem b0W:lt98_9.length=4:=id rfl
@[simp] theorem b2I:a0A tab a0D 4 [0,1,2,3] [.str [99,111,100,101],.str [108,101,118,101,108],.str [109,115],.str [117,115,101,114]]=some (.sl 1 true (lt98_9.map fun s=>[.str s])):=id rfl
@[simp] theorem b1n (s0:List UInt8) (s1:List UInt8):a0M tab a3F [0,1] [.str s0,.str s1]=some (.agg [.str s0,.str s1]):=id rfl
@[simp] theorem b9t (x0_0 x0_1:D):a0A tab a5y 1 [0] [.agg [x0_0,x0_1]]=some (.sl 2 true [[x0_0,x0_1]]):=id rfl
theorem c4M {h:Hp} {n0:Nat} (hn0:n0≤h.length) {rows:List (List D)} {x y:D} (hx:Own h n0 a3F 2 rows x) {ys:List (List D)} (hy:a0G h 2 y=some ys) (hl:(rows.length+ys.length)*32≤140737488355328) {β:Type} {f:D × Hp→Option β} {Q:β→Prop}
  (k:∀ x' h',Own h' n0 a3F 2 (rows++ys) x'→h.length≤h'.length→(∀ q,q<n0→h'[q]?=h[q]?)→(∀ q,q<h.length→¬ x.inOb q→h'[q]?=h[q]?)→(∀ q,x'.inOb q→x.inOb q∨h.length≤q)→Wp (f (x',h')) Q):Wp ((a0q tab h a5y a5y x y).bind f) Q := 
 a4o (T:=tab) (i:=c4u) (j:=b7Z) (id rfl) (id rfl) (id rfl) (by decide) hn0 hx hy (a2G hl (by omega)) k
@[simp] theorem c7P (c0 c1:D) (cs:List D) (h:Hp):a0c tab h a3F (.fptr (c0::c1::cs))=some (.agg [c0,c1]):=id rfl
def lt98_10:List (List UInt8):=[[103,101,116],[101,114,114,111,114],[119,97,114,110],[97,49],[117,115,101,114,95,55],[120],[84,105,109,101,111,117,116],[50,48,48],[71,69,84],[101,114,114,111],[122],[],[255],[97,46,98]]
@[simp] theorem b7A:lt98_10.length=14:=id rfl
@[simp] theorem b8t:a0A tab a0D 14 [0,1,2,3,4,5,6,7,8,9,10,11,12,13] [.str [103,101,116],.str [101,114,114,111,114],.str [119,97,114,110],.str [97,49],.str [117,115,101,114,95,55],.str [120],.str [84,105,109,101,111,117,116],.str [50,48,48],.str [71,69,84],.str [101,114,114,111],.str [122],.str [],.str [255],.str [97,46,98]]=some (.sl 1 true (lt98_10.map fun s=>[.str s])):=id rfl
def lt98_1:List (List UInt8):=[[119,97,114,110],[105,110,102,111],[55],[45,51],[51,49],[],[120,32,121],[57,57,57,57,57,57,57,57,57,57,57,57,57,57,57,57,57,57],[49,48,48,48,48,48,48,48,48,48,48,48,48,48,48,48,48,48,48],[48,55],[45]]
@[simp] theorem b8u:lt98_1.length=11:=id rfl
@[simp] theorem c0h:a0A tab a0D 11 [0,1,2,3,4,5,6,7,8,9,10] [.str [119,97,114,110],.str [105,110,102,111],.str [55],.str [45,51],.str [51,49],.str [],.str [120,32,121],.str [57,57,57,57,57,57,57,57,57,57,57,57,57,57,57,57,57,57],.str [49,48,48,48,48,48,48,48,48,48,48,48,48,48,48,48,48,48,48],.str [48,55],.str [45]]=some (.sl 1 true (lt98_1.map fun s=>[.str s])):=id rfl
end Go.Proofs.YtehgglgadbmecaaGreatDoor

/- Operations at the types of this seat. -/
import Derived.Test.YtkpnnfhodlanjaaDoorC9
import Derived.Test.YtkpnnfhodlanjaaDoorPiZ
set_option linter.unusedSimpArgs false
set_option linter.unusedVariables false
set_option linter.unnecessarySimpa false
set_option maxRecDepth 20000
set_option maxHeartbeats 2000000
namespace Go.Proofs.YtkpnnfhodlanjaaDoor
open Go.Eng Go.Pi
@[simp] theorem b4o (c0 c1 c2 c3 c4 c5:D) (cs:List D):a0e tab a1h 5 (.fptr (c0::c1::c2::c3::c4::c5::cs))=some (.fptr (c5::cs)):=id rfl
@[simp] theorem ld3 (c:D) (cs:List D) (h:Hp):a0f tab h ty3 (.fptr (c::cs))=some c:=id rfl
@[simp] theorem b5K (h:Hp) (o k f:Nat):a0f tab h ty3 (.ptr o k f)=(h.row o k).bind fun row=>(row.drop f).head?:=by show (match h.row o k with | some row=>_ | none=>none)=_;cases h.row o k <;> rfl
@[simp] theorem b4l (c0:D) (cs:List D):a0e tab a1h 0 (.fptr (c0::cs))=some (.fptr (c0::cs)):=id rfl
@[simp] theorem b4m (c0 c1:D) (cs:List D):a0e tab a1h 1 (.fptr (c0::c1::cs))=some (.fptr (c1::cs)):=id rfl
@[simp] theorem b4n (c0 c1 c2:D) (cs:List D):a0e tab a1h 2 (.fptr (c0::c1::c2::cs))=some (.fptr (c2::cs)):=id rfl
@[simp] theorem b3W (n0:Int) (n1:Int) (n2:Int) (n3:Int):a2w tab a9Q 4 [0,1,2,3] [.int .i64 n0,.int .i64 n1,.int .i64 n2,.int .i64 n3]=some (.sl 1 true [[.int .i64 n0],[.int .i64 n1],[.int .i64 n2],[.int .i64 n3]]):=id rfl
@[simp] theorem b0M {α:Type} {f:α→List D} {l:List α} {d:D} (h:SlOf 2 f l d):a0X tab a0m d=some (.int .i64 l.length) := 
 by
  rcases h with ⟨rfl,rfl⟩ | ⟨b,rfl⟩
  ·rfl
  ·show some (D.int .i64 ((l.map f).length:Nat))=_;simp
theorem b0K {h:Hp} {n0 e z:Nat} {rows:List (List D)} {d:D} (hd:Own h n0 e z rows d):a0X tab a0m d=some (.int .i64 rows.length):=by
 rcases hd with ⟨rfl,rfl⟩ | ⟨o,_,rfl,_⟩ <;> rfl
@[simp] theorem a7p (z o r n:Nat):a0X tab a0m (.msl z o r n)=some (.int .i64 n):=id rfl
@[simp] theorem b0J:a0X tab a0m .nils=some (.int .i64 0):=id rfl
@[simp] theorem a3q (k:IntKind) (n:Int):a1J tab ty3 a2Z (.int k n)=some (.int .u64 (IntKind.wrap .u64 n)):=id rfl
@[simp] theorem b4I {α:Type} {f:α→List D} {l:List α} {d:D} (h:SlOf 1 f l d):a0X tab a9Q d=some (.int .i64 l.length) := 
 by
  rcases h with ⟨rfl,rfl⟩ | ⟨b,rfl⟩
  ·rfl
  ·show some (D.int .i64 ((l.map f).length:Nat))=_;simp
@[simp] theorem b9u (f:Bool) (rows:List (List D)) (i:Int):a0a tab a9Q (.sl 1 f rows) (.int .i64 i)=if 0≤i then (rows[i.toNat]?).map .fptr else none:=by show (if 1=1∧0≤i then (match rows[i.toNat]? with | some row=>some (D.fptr row) | none=>none) else none)=_;by_cases h:0≤i <;> simp [h] <;> cases rows[i.toNat]? <;> rfl
@[simp] theorem b4z {α:Type} {f:α→List D} {l:List α} {d:D} (h:SlOf 1 f l d) (i:Int):a0a tab a9Q d (.int .i64 i)=if 0≤i then (l[i.toNat]?).map fun p => .fptr (f p) else none := 
 by
  rcases h with ⟨rfl,rfl⟩ | ⟨b,rfl⟩
  ·show none=_;simp
  ·rw [b9u];simp [Function.comp_def]
@[simp] theorem a3j {α:Type} {f:α→List D} {l:List α} {d:D} (h:SlOf 12 f l d):a0X tab a0j d=some (.int .i64 l.length) := 
 by
  rcases h with ⟨rfl,rfl⟩ | ⟨b,rfl⟩
  ·rfl
  ·show some (D.int .i64 ((l.map f).length:Nat))=_;simp
@[simp] theorem b0H (z o r n:Nat):a0X tab a0j (.msl z o r n)=some (.int .i64 n):=id rfl
@[simp] theorem ld9 (c:D) (cs:List D) (h:Hp):a0f tab h ty9 (.fptr (c::cs))=some c:=id rfl
@[simp] theorem a8Z (o r n:Nat) (i:Int):a0a tab a0m (.msl 2 o r n) (.int .i64 i)=if 0≤i∧i<n then some (.ptr o (r+i.toNat) 0) else none:=by show (if 2=2∧0≤i∧i<n then some (D.ptr o (r+i.toNat) 0) else none)=_;simp
@[simp] theorem a9d (h:Hp) (o k f:Nat):a0f tab h a0d (.ptr o k f)=(h.row o k).bind fun row=>b2P 2 (row.drop f):=by show (match h.row o k with | some row=>_ | none=>none)=_;cases h.row o k <;> rfl
@[simp] theorem b7P (c0 c1 c2 c3 c4 c5 c6 c7 c8 c9:D) (cs:List D):a0e tab a1h 9 (.fptr (c0::c1::c2::c3::c4::c5::c6::c7::c8::c9::cs))=some (.fptr (c9::cs)):=id rfl
@[simp] theorem b9V (c:D) (cs:List D) (h:Hp):a0f tab h b2Q (.fptr (c::cs))=some c:=id rfl
@[simp] theorem b4x (f:Bool) (rows:List (List D)) (i:Int):a0a tab a0j (.sl 12 f rows) (.int .i64 i)=if 0≤i then (rows[i.toNat]?).map .fptr else none:=by show (if 12=12∧0≤i then (match rows[i.toNat]? with | some row=>some (D.fptr row) | none=>none) else none)=_;by_cases h:0≤i <;> simp [h] <;> cases rows[i.toNat]? <;> rfl
@[simp] theorem a8Y (o r n:Nat) (i:Int):a0a tab a0j (.msl 12 o r n) (.int .i64 i)=if 0≤i∧i<n then some (.ptr o (r+i.toNat) 0) else none:=by show (if 12=12∧0≤i∧i<n then some (D.ptr o (r+i.toNat) 0) else none)=_;simp
@[simp] theorem a3B {α:Type} {f:α→List D} {l:List α} {d:D} (h:SlOf 12 f l d) (i:Int):a0a tab a0j d (.int .i64 i)=if 0≤i then (l[i.toNat]?).map fun p => .fptr (f p) else none := 
 by
  rcases h with ⟨rfl,rfl⟩ | ⟨b,rfl⟩
  ·show none=_;simp
  ·rw [b4x];simp [Function.comp_def]
@[simp] theorem a9c (h:Hp) (o k f:Nat):a0f tab h a0c (.ptr o k f)=(h.row o k).bind fun row=>b2P 12 (row.drop f):=by show (match h.row o k with | some row=>_ | none=>none)=_;cases h.row o k <;> rfl
theorem a5o {h:Hp} {o T sz kk off:Nat} {rows:List (List D)} {row:List D} {v:D} (ho:h[o]?=some (.row T sz rows)) (hr:rows[kk]?=some row) (hv:(a0z v).length=2) (hl:off+2≤row.length) (hk:v.okv=true) {β:Type} {f:Hp→Option β} {Q:β→Prop}
  (k:∀ h',h'[o]?=some (.row T sz (rows.set kk (spl row off (a0z v))))→Same o h h'→Wp (f h') Q):Wp ((a0q tab h a0d (.ptr o kk off) v).bind f) Q := 
 by rw [show a0q tab h a0d (.ptr o kk off) v=pSt 2 h (.ptr o kk off) v from rfl];exact a5T ho hr hv hl hk k
@[simp] theorem a6W (k:IntKind) (n:Int):a1J tab ty3 a0B (.int k n)=some (.int .u64 (IntKind.wrap .u64 n)):=id rfl
theorem a3J {h:Hp} {o T sz kk off:Nat} {rows:List (List D)} {row:List D} {v:D} (ho:h[o]?=some (.row T sz rows)) (hr:rows[kk]?=some row) (hv:(a0z v).length=1) (hl:off+1≤row.length) (hk:v.okv=true) {β:Type} {f:Hp→Option β} {Q:β→Prop}
  (k:∀ h',h'[o]?=some (.row T sz (rows.set kk (spl row off (a0z v))))→Same o h h'→Wp (f h') Q):Wp ((a0q tab h a0B (.ptr o kk off) v).bind f) Q := 
 by rw [show a0q tab h a0B (.ptr o kk off) v=pSt 1 h (.ptr o kk off) v from rfl];exact a5T ho hr hv hl hk k
@[simp] theorem a8m (k:IntKind) (n:Int):a1J tab a2Z ty3 (.int k n)=some (.int .i64 (IntKind.wrap .i64 n)):=id rfl
@[simp] theorem b1V (k:IntKind) (n:Int):a1J tab ty5 ty3 (.int k n)=some (.int .i64 (IntKind.wrap .i64 n)):=id rfl
@[simp] theorem a6V (k:IntKind) (n:Int):a1J tab a3f ty5 (.int k n)=some (.int .u8 (IntKind.wrap .u8 n)):=id rfl
@[simp] theorem b4G {α:Type} {f:α→List D} {l:List α} {d:D} (h:SlOf 2 f l d):a0X tab b2Q d=some (.int .i64 l.length) := 
 by
  rcases h with ⟨rfl,rfl⟩ | ⟨b,rfl⟩
  ·rfl
  ·show some (D.int .i64 ((l.map f).length:Nat))=_;simp
@[simp] theorem b9s (f:Bool) (rows:List (List D)) (i:Int):a0a tab b2Q (.sl 2 f rows) (.int .i64 i)=if 0≤i then (rows[i.toNat]?).map .fptr else none:=by show (if 2=2∧0≤i then (match rows[i.toNat]? with | some row=>some (D.fptr row) | none=>none) else none)=_;by_cases h:0≤i <;> simp [h] <;> cases rows[i.toNat]? <;> rfl
@[simp] theorem b4y {α:Type} {f:α→List D} {l:List α} {d:D} (h:SlOf 2 f l d) (i:Int):a0a tab b2Q d (.int .i64 i)=if 0≤i then (l[i.toNat]?).map fun p => .fptr (f p) else none := 
 by
  rcases h with ⟨rfl,rfl⟩ | ⟨b,rfl⟩
  ·show none=_;simp
  ·rw [b9s];simp [Function.comp_def]
@[simp] theorem b9v (c0 c1:D) (cs:List D) (h:Hp):a0f tab h a7V (.fptr (c0::c1::cs))=some (.agg [c0,c1]):=id rfl
@[simp] theorem b6L (c0:D) (cs:List D):a0e tab a7V 0 (.fptr (c0::cs))=some (.fptr (c0::cs)):=id rfl
@[simp] theorem b6M (c0 c1:D) (cs:List D):a0e tab a7V 1 (.fptr (c0::c1::cs))=some (.fptr (c1::cs)):=id rfl
theorem a5n {h:Hp} {o T sz kk off:Nat} {rows:List (List D)} {row:List D} {v:D} (ho:h[o]?=some (.row T sz rows)) (hr:rows[kk]?=some row) (hv:(a0z v).length=12) (hl:off+12≤row.length) (hk:v.okv=true) {β:Type} {f:Hp→Option β} {Q:β→Prop}
  (k:∀ h',h'[o]?=some (.row T sz (rows.set kk (spl row off (a0z v))))→Same o h h'→Wp (f h') Q):Wp ((a0q tab h a0c (.ptr o kk off) v).bind f) Q := 
 by rw [show a0q tab h a0c (.ptr o kk off) v=pSt 12 h (.ptr o kk off) v from rfl];exact a5T ho hr hv hl hk k
@[simp] theorem b2v (h:Hp) (o k f:Nat):a0f tab h a0B (.ptr o k f)=(h.row o k).bind fun row=>(row.drop f).head?:=by show (match h.row o k with | some row=>_ | none=>none)=_;cases h.row o k <;> rfl
theorem b8c {h:Hp} {o T sz kk off:Nat} {rows:List (List D)} {row:List D} {v:D} (ho:h[o]?=some (.row T sz rows)) (hr:rows[kk]?=some row) (hv:(a0z v).length=1) (hl:off+1≤row.length) (hk:v.okv=true) {β:Type} {f:Hp→Option β} {Q:β→Prop}
  (k:∀ h',h'[o]?=some (.row T sz (rows.set kk (spl row off (a0z v))))→Same o h h'→Wp (f h') Q):Wp ((a0q tab h ty3 (.ptr o kk off) v).bind f) Q := 
 by rw [show a0q tab h ty3 (.ptr o kk off) v=pSt 1 h (.ptr o kk off) v from rfl];exact a5T ho hr hv hl hk k
theorem b7G {h:Hp} {n0:Nat} (hn0:n0≤h.length) {rows:List (List D)} {x y:D} (hx:Own h n0 a1h 10 rows x) {ys:List (List D)} (hy:a1q h 10 y=some ys) (hl:(rows.length+ys.length)*128≤140737488355328) {β:Type} {f:D × Hp→Option β} {Q:β→Prop}
  (k:∀ x' h',Own h' n0 a1h 10 (rows++ys) x'→h.length≤h'.length→(∀ q,q<n0→h'[q]?=h[q]?)→(∀ q,q<h.length→¬ x.inOb q→h'[q]?=h[q]?)→(∀ q,x'.inOb q→x.inOb q∨h.length≤q)→Wp (f (x',h')) Q):Wp ((a1a tab h a2H a2H x y).bind f) Q := 
 a6Q (T:=tab) (i:=b7m) (j:=b7l) (id rfl) (id rfl) (id rfl) (by decide) hn0 hx hy (a7q hl (by omega)) k
@[simp] theorem b4H {α:Type} {f:α→List D} {l:List α} {d:D} (h:SlOf 10 f l d):a0X tab a2H d=some (.int .i64 l.length) := 
 by
  rcases h with ⟨rfl,rfl⟩ | ⟨b,rfl⟩
  ·rfl
  ·show some (D.int .i64 ((l.map f).length:Nat))=_;simp
theorem b1r {h:Hp} {n0 e z:Nat} {rows:List (List D)} {d:D} (hd:Own h n0 e z rows d):a0X tab a2H d=some (.int .i64 rows.length):=by
 rcases hd with ⟨rfl,rfl⟩ | ⟨o,_,rfl,_⟩ <;> rfl
@[simp] theorem b4F (z o r n:Nat):a0X tab a2H (.msl z o r n)=some (.int .i64 n):=id rfl
@[simp] theorem b0L {α:Type} {f:α→List D} {l:List α} {d:D} (h:SlOf 20 f l d):a0X tab a2p d=some (.int .i64 l.length) := 
 by
  rcases h with ⟨rfl,rfl⟩ | ⟨b,rfl⟩
  ·rfl
  ·show some (D.int .i64 ((l.map f).length:Nat))=_;simp
@[simp] theorem b0I:a0X tab a2p .nils=some (.int .i64 0):=id rfl
theorem b2J {α:Type} {f:α→List D} {l:List α} {d:D} (hd:SlOf 12 f l d) {k:IntKind} {n:Int} (h0:0≤n) (h1:n≤l.length) :
  ∃ d',a1d tab a0j true false false [d,.int k n]=some d'∧SlOf 12 f (l.drop n.toNat) d':=b2K (T:=tab) (i:=a7D) (j:=a7E) (id rfl) (id rfl) (id rfl) (id rfl) hd h0 h1
@[simp] theorem b4E (h:Hp) (o k f:Nat):a0f tab h a1h (.ptr o k f)=(h.row o k).bind fun row=>b2P 10 (row.drop f):=by show (match h.row o k with | some row=>_ | none=>none)=_;cases h.row o k <;> rfl
theorem b2Y {h:Hp} {n0:Nat} (hn0:n0≤h.length) {rows:List (List D)} {x y:D} (hx:Own h n0 a0d 2 rows x) {ys:List (List D)} (hy:a1q h 2 y=some ys) (hl:(rows.length+ys.length)*16≤140737488355328) {β:Type} {f:D × Hp→Option β} {Q:β→Prop}
  (k:∀ x' h',Own h' n0 a0d 2 (rows++ys) x'→h.length≤h'.length→(∀ q,q<n0→h'[q]?=h[q]?)→(∀ q,q<h.length→¬ x.inOb q→h'[q]?=h[q]?)→(∀ q,x'.inOb q→x.inOb q∨h.length≤q)→Wp (f (x',h')) Q):Wp ((a1a tab h a0m a0m x y).bind f) Q := 
 a6Q (T:=tab) (i:=a9M) (j:=a9N) (id rfl) (id rfl) (id rfl) (by decide) hn0 hx hy (a7q hl (by omega)) k
@[simp] theorem b9t (f:Bool) (rows:List (List D)) (i:Int):a0a tab a2H (.sl 10 f rows) (.int .i64 i)=if 0≤i then (rows[i.toNat]?).map .fptr else none:=by show (if 10=10∧0≤i then (match rows[i.toNat]? with | some row=>some (D.fptr row) | none=>none) else none)=_;by_cases h:0≤i <;> simp [h] <;> cases rows[i.toNat]? <;> rfl
@[simp] theorem b6U (o r n:Nat) (i:Int):a0a tab a2H (.msl 10 o r n) (.int .i64 i)=if 0≤i∧i<n then some (.ptr o (r+i.toNat) 0) else none:=by show (if 10=10∧0≤i∧i<n then some (D.ptr o (r+i.toNat) 0) else none)=_;simp
@[simp] theorem b6V {α:Type} {f:α→List D} {l:List α} {d:D} (h:SlOf 10 f l d) (i:Int):a0a tab a2H d (.int .i64 i)=if 0≤i then (l[i.toNat]?).map fun p => .fptr (f p) else none := 
 by
  rcases h with ⟨rfl,rfl⟩ | ⟨b,rfl⟩
  ·show none=_;simp
  ·rw [b9t];simp [Function.comp_def]
theorem b2W {h:Hp} {n0:Nat} (hn0:n0≤h.length) {rows:List (List D)} {x y:D} (hx:Own h n0 a3H 20 rows x) {ys:List (List D)} (hy:a1q h 20 y=some ys) (hl:(rows.length+ys.length)*256≤140737488355328) {β:Type} {f:D × Hp→Option β} {Q:β→Prop}
  (k:∀ x' h',Own h' n0 a3H 20 (rows++ys) x'→h.length≤h'.length→(∀ q,q<n0→h'[q]?=h[q]?)→(∀ q,q<h.length→¬ x.inOb q→h'[q]?=h[q]?)→(∀ q,x'.inOb q→x.inOb q∨h.length≤q)→Wp (f (x',h')) Q):Wp ((a1a tab h a2p a2p x y).bind f) Q := 
 a6Q (T:=tab) (i:=a9L) (j:=a9O) (id rfl) (id rfl) (id rfl) (by decide) hn0 hx hy (a7q hl (by omega)) k
theorem b7H {h:Hp} {o T sz kk off:Nat} {rows:List (List D)} {row:List D} {v:D} (ho:h[o]?=some (.row T sz rows)) (hr:rows[kk]?=some row) (hv:(a0z v).length=10) (hl:off+10≤row.length) (hk:v.okv=true) {β:Type} {f:Hp→Option β} {Q:β→Prop}
  (k:∀ h',h'[o]?=some (.row T sz (rows.set kk (spl row off (a0z v))))→Same o h h'→Wp (f h') Q):Wp ((a0q tab h a1h (.ptr o kk off) v).bind f) Q := 
 by rw [show a0q tab h a1h (.ptr o kk off) v=pSt 10 h (.ptr o kk off) v from rfl];exact a5T ho hr hv hl hk k
theorem b2X {h:Hp} {n0:Nat} (hn0:n0≤h.length) {rows:List (List D)} {x y:D} (hx:Own h n0 a0c 12 rows x) {ys:List (List D)} (hy:a1q h 12 y=some ys) (hl:(rows.length+ys.length)*152≤140737488355328) {β:Type} {f:D × Hp→Option β} {Q:β→Prop}
  (k:∀ x' h',Own h' n0 a0c 12 (rows++ys) x'→h.length≤h'.length→(∀ q,q<n0→h'[q]?=h[q]?)→(∀ q,q<h.length→¬ x.inOb q→h'[q]?=h[q]?)→(∀ q,x'.inOb q→x.inOb q∨h.length≤q)→Wp (f (x',h')) Q):Wp ((a1a tab h a0j a0j x y).bind f) Q := 
 a6Q (T:=tab) (i:=a7D) (j:=a7E) (id rfl) (id rfl) (id rfl) (by decide) hn0 hx hy (a7q hl (by omega)) k
end Go.Proofs.YtkpnnfhodlanjaaDoor

/- Part 4 of the texts that the theorem needs: an interpreter on data, proved sound; the functions on data; laws about them. -/
import Derived.Test.YtinlnkhheafjaaaGreatDoorM3
set_option linter.unusedSimpArgs false
set_option linter.unusedVariables false
set_option linter.unnecessarySimpa false
set_option maxHeartbeats 2000000
set_option maxRecDepth 100000
namespace Go.Proofs.YtinlnkhheafjaaaGreatDoor
open Go.Eng Go.Pi
@[simp] theorem W9(z:Nat)(f:Bool)(rows:List (List D)):aT tab j7 (.sl z f rows)=some (.int .i64 rows.length):=id rfl
@[simp] theorem HN(z o r n:Nat):aT tab j7 (.aO z o r n)=some (.int .i64 n):=id rfl
@[simp] theorem Lb (b:D) (c:b.one=true):eX tab jO [0] [b]=some (.agg [b,.int .i64 0]):=by
 have a:=j5 c;refine yF (T:=tab) (i:=xi) (fs:=[(22,0,1),(3,1,1)]) (id rfl) (id rfl) ?_;rw[show xi.zero=[.aB,.int .i64 0]from id rfl];rw[ng (off:=0) (Y:=1) (id rfl) (by rw[a.1];rfl) (by simp[dQ,mS,mT,mR,mQ]) a.2,a.1];exact id rfl
theorem WC{h:J}{o T Y kk off:Nat}{rows:List (List D)}{row:List D}{v:D}(d:h[o]?=some (.row T Y rows))(e:rows[kk]?=some row)(g:(cP v).length=3)(c:off+3≤row.length)(b:v.fT=true){a:Type}{f:J→Option a}{Q:a→Prop}
  (k:∀h',h'[o]?=some (.row T Y (rows.set kk (dQ row off (cP v))))→bW o h h'→Wp (f h') Q):Wp ((bT tab h iV (.ptr o kk off) v).bind f) Q:=
 by rw[show bT tab h iV (.ptr o kk off) v=jL 3 h (.ptr o kk off) v from rfl];exact lP d e g c b k
theorem jP{h:J}{o T Y kk off:Nat}{rows:List (List D)}{row:List D}{v:D}(d:h[o]?=some (.row T Y rows))(e:rows[kk]?=some row)(g:(cP v).length=11)(c:off+11≤row.length)(b:v.fT=true){a:Type}{f:J→Option a}{Q:a→Prop}
  (k:∀h',h'[o]?=some (.row T Y (rows.set kk (dQ row off (cP v))))→bW o h h'→Wp (f h') Q):Wp ((bT tab h aF (.ptr o kk off) v).bind f) Q:=
 by rw[show bT tab h aF (.ptr o kk off) v=jL 11 h (.ptr o kk off) v from rfl];exact lP d e g c b k
@[simp] theorem kh(o k f:Nat):aC tab aF 1 (.ptr o k f)=some (.ptr o k (f+1)):=id rfl
@[simp] theorem mX(b a:D)(cs:List D):aC tab aG 1 (.aI (b::a::cs))=some (.aI (a::cs)):=id rfl
@[simp] theorem tm(o k f:Nat):aC tab aG 1 (.ptr o k f)=some (.ptr o k (f+1)):=id rfl
theorem kr{h:J}{o T Y kk off:Nat}{rows:List (List D)}{row:List D}{v:D}(d:h[o]?=some (.row T Y rows))(e:rows[kk]?=some row)(g:(cP v).length=1)(c:off+1≤row.length)(b:v.fT=true){a:Type}{f:J→Option a}{Q:a→Prop}
  (k:∀h',h'[o]?=some (.row T Y (rows.set kk (dQ row off (cP v))))→bW o h h'→Wp (f h') Q):Wp ((bT tab h U (.ptr o kk off) v).bind f) Q:=
 by rw[show bT tab h U (.ptr o kk off) v=jL 1 h (.ptr o kk off) v from rfl];exact lP d e g c b k
@[simp] theorem eB(c:D)(cs:List D)(h:J):aA tab h U (.aI (c::cs))=some c:=id rfl
@[simp] theorem fB(h:J)(o k f:Nat):aA tab h U (.ptr o k f)=(h.row o k).bind λrow=>(row.drop f).head?:=by show(match h.row o k with|some row=>_|none=>none)=_;cases h.row o k<;>rfl
@[simp] theorem lF(b c a:D)(cs:List D):aC tab aG 2 (.aI (b::c::a::cs))=some (.aI (a::cs)):=id rfl
@[simp] theorem l8(o k f:Nat):aC tab aG 2 (.ptr o k f)=some (.ptr o k (f+2)):=id rfl
@[simp] theorem nT(b c d e a:D)(cs:List D):aC tab aG 4 (.aI (b::c::d::e::a::cs))=some (.aI (a::cs)):=id rfl
@[simp] theorem mZ(o k f:Nat):aC tab aG 4 (.ptr o k f)=some (.ptr o k (f+4)):=id rfl
@[simp] theorem iC(c:D)(cs:List D)(h:J):aA tab h bA (.aI (c::cs))=some c:=id rfl
@[simp] theorem nr(h:J)(o k f:Nat):aA tab h bA (.ptr o k f)=(h.row o k).bind λrow=>(row.drop f).head?:=by show(match h.row o k with|some row=>_|none=>none)=_;cases h.row o k<;>rfl
theorem sq{h:J}{n0:Nat}(d:n0≤h.length){rows:List (List D)}{x y:D}(e:Own h n0 bS 3 rows x){ys:List (List D)}(g:jH h 3 y=some ys)(c:(rows.length+ys.length)*32≤140737488355328){b:Type}{f:D × J→Option b}{Q:b→Prop}
  (k:∀x' h',Own h' n0 bS 3 (rows++ys) x'→h.length≤h'.length→(∀a,a<n0→h'[a]?=h[a]?)→(∀a,a<h.length→¬x.e9 a→h'[a]?=h[a]?)→(∀a,x'.e9 a→x.e9 a∨h.length≤a)→Wp (f (x',h')) Q):Wp ((cW tab h bA bA x y).bind f) Q:=
 sX (T:=tab) (i:=qF) (j:=px) (id rfl) (id rfl) (id rfl) (by decide) d e g (lK c (by omega)) k
@[simp] theorem ji {a:Type} {f:a→List D} {l:List a} {d:D} (h:aR 3 f l d):aT tab bA d=some (.int .i64 l.length):=
 by
  rcases h with⟨rfl,rfl⟩|⟨b,rfl⟩
  ·rfl
  ·show some (D.int .i64 ((l.map f).length:Nat))=_;simp
theorem wE{h:J}{n0 e z:Nat}{rows:List (List D)}{d:D}(a:Own h n0 e z rows d):aT tab bA d=some (.int .i64 rows.length):=by
 rcases a with⟨rfl,rfl⟩|⟨b,_,rfl,_⟩<;>rfl
@[simp] theorem HO(z o r n:Nat):aT tab bA (.aO z o r n)=some (.int .i64 n):=id rfl
@[simp] theorem Rs(f:Bool)(rows:List (List D))(i:Int):aQ tab bA (.sl 3 f rows) (.int .i64 i)=if 0≤i then(rows[i.toNat]?).map .aI else none:=by show(if 3=3∧0≤i then(match rows[i.toNat]? with|some b=>some (D.aI b)|none=>none)else none)=_;by_cases a:0≤i<;>simp[a]<;>cases rows[i.toNat]?<;>rfl
@[simp] theorem qm(o r n:Nat)(i:Int):aQ tab bA (.aO 3 o r n) (.int .i64 i)=if 0≤i∧i<n then some (.ptr o (r+i.toNat) 0)else none:=by show(if 3=3∧0≤i∧i<n then some (D.ptr o (r+i.toNat) 0)else none)=_;simp
@[simp] theorem mc {a:Type} {f:a→List D} {l:List a} {d:D} (h:aR 3 f l d) (i:Int):aQ tab bA d (.int .i64 i)=if 0≤i then(l[i.toNat]?).map λp =>.aI (f p)else none:=
 by
  rcases h with⟨rfl,rfl⟩|⟨b,rfl⟩
  ·show none=_;simp
  ·rw[Rs];simp[oo]
@[simp] theorem yY(a:D)(cs:List D):aC tab bS 0 (.aI (a::cs))=some (.aI (a::cs)):=id rfl
@[simp] theorem k5(o k f:Nat):aC tab bS 0 (.ptr o k f)=some (.ptr o k (f+0)):=id rfl
@[simp] theorem hF(b c d a:D)(cs:List D):aC tab aG 3 (.aI (b::c::d::a::cs))=some (.aI (a::cs)):=id rfl
@[simp] theorem nU(o k f:Nat):aC tab aG 3 (.ptr o k f)=some (.ptr o k (f+3)):=id rfl
theorem pB{h:J}{o T Y kk off:Nat}{rows:List (List D)}{row:List D}{v:D}(d:h[o]?=some (.row T Y rows))(e:rows[kk]?=some row)(g:(cP v).length=1)(c:off+1≤row.length)(b:v.fT=true){a:Type}{f:J→Option a}{Q:a→Prop}
  (k:∀h',h'[o]?=some (.row T Y (rows.set kk (dQ row off (cP v))))→bW o h h'→Wp (f h') Q):Wp ((bT tab h bA (.ptr o kk off) v).bind f) Q:=
 by rw[show bT tab h bA (.ptr o kk off) v=jL 1 h (.ptr o kk off) v from rfl];exact lP d e g c b k
@[simp] theorem r2(h:J)(o k f:Nat):aA tab h aF (.ptr o k f)=(h.row o k).bind λrow=>pw 11 (row.drop f):=by show(match h.row o k with|some row=>_|none=>none)=_;cases h.row o k<;>rfl
theorem nD{h:J}{n0:Nat}(d:n0≤h.length){rows:List (List D)}{x y:D}(e:Own h n0 aF 11 rows x){ys:List (List D)}(g:jH h 11 y=some ys)(c:(rows.length+ys.length)*144≤140737488355328){b:Type}{f:D × J→Option b}{Q:b→Prop}
  (k:∀x' h',Own h' n0 aF 11 (rows++ys) x'→h.length≤h'.length→(∀a,a<n0→h'[a]?=h[a]?)→(∀a,a<h.length→¬x.e9 a→h'[a]?=h[a]?)→(∀a,x'.e9 a→x.e9 a∨h.length≤a)→Wp (f (x',h')) Q):Wp ((cW tab h aV aV x y).bind f) Q:=
 sX (T:=tab) (i:=qE) (j:=mu) (id rfl) (id rfl) (id rfl) (by decide) d e g (lK c (by omega)) k
@[simp] theorem FB(n0:Int):bJ tab aW 1 [0] [.int .i64 n0]=some (.sl 1 true [[.int .i64 n0]]):=id rfl
theorem sr{h:J}{n0:Nat}(d:n0≤h.length){rows:List (List D)}{x y:D}(e:Own h n0 U 1 rows x){ys:List (List D)}(g:jH h 1 y=some ys)(c:(rows.length+ys.length)*8≤140737488355328){b:Type}{f:D × J→Option b}{Q:b→Prop}
  (k:∀x' h',Own h' n0 U 1 (rows++ys) x'→h.length≤h'.length→(∀a,a<n0→h'[a]?=h[a]?)→(∀a,a<h.length→¬x.e9 a→h'[a]?=h[a]?)→(∀a,x'.e9 a→x.e9 a∨h.length≤a)→Wp (f (x',h')) Q):Wp ((cW tab h aW aW x y).bind f) Q:=
 sX (T:=tab) (i:=nB) (j:=gb) (id rfl) (id rfl) (id rfl) (by decide) d e g (lK c (by omega)) k
@[simp] theorem K7(n0:Int)(a:Int):eX tab dU [0,1] [.int .i64 n0,.int .i64 a]=some (.agg [.int .i64 n0,.int .i64 a]):=id rfl
@[simp] theorem Li(a b:D):bJ tab eT 1 [0] [.agg [a,b]]=some (.sl 2 true [[a,b]]):=id rfl
theorem J7{h:J}{n0:Nat}(d:n0≤h.length){rows:List (List D)}{x y:D}(e:Own h n0 dU 2 rows x){ys:List (List D)}(g:jH h 2 y=some ys)(c:(rows.length+ys.length)*16≤140737488355328){b:Type}{f:D × J→Option b}{Q:b→Prop}
  (k:∀x' h',Own h' n0 dU 2 (rows++ys) x'→h.length≤h'.length→(∀a,a<n0→h'[a]?=h[a]?)→(∀a,a<h.length→¬x.e9 a→h'[a]?=h[a]?)→(∀a,x'.e9 a→x.e9 a∨h.length≤a)→Wp (f (x',h')) Q):Wp ((cW tab h eT eT x y).bind f) Q:=
 sX (T:=tab) (i:=xd) (j:=CN) (id rfl) (id rfl) (id rfl) (by decide) d e g (lK c (by omega)) k
@[simp] theorem W4(o k f:Nat):aC tab jO 1 (.ptr o k f)=some (.ptr o k (f+1)):=id rfl
@[simp] theorem W2(o k f:Nat):aC tab jO 0 (.ptr o k f)=some (.ptr o k (f+0)):=id rfl
@[simp] theorem W8(h:J)(o k f:Nat):aA tab h j7 (.ptr o k f)=(h.row o k).bind λrow=>(row.drop f).head?:=by show(match h.row o k with|some row=>_|none=>none)=_;cases h.row o k<;>rfl
@[simp] theorem W7(f:Bool)(rows:List (List D))(i:Int):aQ tab j7 (.sl 1 f rows) (.int .i64 i)=if 0≤i then(rows[i.toNat]?).map .aI else none:=by show(if 1=1∧0≤i then(match rows[i.toNat]? with|some b=>some (D.aI b)|none=>none)else none)=_;by_cases a:0≤i<;>simp[a]<;>cases rows[i.toNat]?<;>rfl
@[simp] theorem Bu(o r n:Nat)(i:Int):aQ tab j7 (.aO 1 o r n) (.int .i64 i)=if 0≤i∧i<n then some (.ptr o (r+i.toNat) 0)else none:=by show(if 1=1∧0≤i∧i<n then some (D.ptr o (r+i.toNat) 0)else none)=_;simp
@[simp] theorem HG(c:D)(cs:List D)(h:J):aA tab h fE (.aI (c::cs))=some c:=id rfl
@[simp] theorem R0(h:J)(o k f:Nat):aA tab h fE (.ptr o k f)=(h.row o k).bind λrow=>(row.drop f).head?:=by show(match h.row o k with|some row=>_|none=>none)=_;cases h.row o k<;>rfl
@[simp] theorem WO(k:IntKind)(n:Int):kf tab fE U (.int k n)=some (.int .i64 (IntKind.wrap .i64 n)):=id rfl
@[simp] theorem jh {a:Type} {f:a→List D} {l:List a} {d:D} (h:aR 11 f l d):aT tab aV d=some (.int .i64 l.length):=
 by
  rcases h with⟨rfl,rfl⟩|⟨b,rfl⟩
  ·rfl
  ·show some (D.int .i64 ((l.map f).length:Nat))=_;simp
theorem wD{h:J}{n0 e z:Nat}{rows:List (List D)}{d:D}(a:Own h n0 e z rows d):aT tab aV d=some (.int .i64 rows.length):=by
 rcases a with⟨rfl,rfl⟩|⟨b,_,rfl,_⟩<;>rfl
@[simp] theorem lJ {a:Type} {f:a→List D} {l:List a} {d:D} (h:aR 1 f l d):aT tab aW d=some (.int .i64 l.length):=
 by
  rcases h with⟨rfl,rfl⟩|⟨b,rfl⟩
  ·rfl
  ·show some (D.int .i64 ((l.map f).length:Nat))=_;simp
@[simp] theorem HQ(z o r n:Nat):aT tab aW (.aO z o r n)=some (.int .i64 n):=id rfl
@[simp] theorem R5:aT tab aW .aB=some (.int .i64 0):=id rfl
@[simp] theorem Rq(f:Bool)(rows:List (List D))(i:Int):aQ tab aV (.sl 11 f rows) (.int .i64 i)=if 0≤i then(rows[i.toNat]?).map .aI else none:=by show(if 11=11∧0≤i then(match rows[i.toNat]? with|some b=>some (D.aI b)|none=>none)else none)=_;by_cases a:0≤i<;>simp[a]<;>cases rows[i.toNat]?<;>rfl
@[simp] theorem Hm(o r n:Nat)(i:Int):aQ tab aV (.aO 11 o r n) (.int .i64 i)=if 0≤i∧i<n then some (.ptr o (r+i.toNat) 0)else none:=by show(if 11=11∧0≤i∧i<n then some (D.ptr o (r+i.toNat) 0)else none)=_;simp
@[simp] theorem k8 {a:Type} {f:a→List D} {l:List a} {d:D} (h:aR 11 f l d) (i:Int):aQ tab aV d (.int .i64 i)=if 0≤i then(l[i.toNat]?).map λp =>.aI (f p)else none:=
 by
  rcases h with⟨rfl,rfl⟩|⟨b,rfl⟩
  ·show none=_;simp
  ·rw[Rq];simp[oo]
@[simp] theorem BB(h:J)(o k f:Nat):aA tab h aG (.ptr o k f)=(h.row o k).bind λrow=>pw 10 (row.drop f):=by show(match h.row o k with|some row=>_|none=>none)=_;cases h.row o k<;>rfl
theorem qK{h:J}{o T Y kk off:Nat}{rows:List (List D)}{row:List D}{v:D}(d:h[o]?=some (.row T Y rows))(e:rows[kk]?=some row)(g:(cP v).length=10)(c:off+10≤row.length)(b:v.fT=true){a:Type}{f:J→Option a}{Q:a→Prop}
  (k:∀h',h'[o]?=some (.row T Y (rows.set kk (dQ row off (cP v))))→bW o h h'→Wp (f h') Q):Wp ((bT tab h aG (.ptr o kk off) v).bind f) Q:=
 by rw[show bT tab h aG (.ptr o kk off) v=jL 10 h (.ptr o kk off) v from rfl];exact lP d e g c b k
@[simp] theorem On(o k f:Nat):aC tab aG 9 (.ptr o k f)=some (.ptr o k (f+9)):=id rfl
@[simp] theorem la(c:D)(cs:List D)(h:J):aA tab h bM (.aI (c::cs))=some c:=id rfl
@[simp] theorem HI(h:J)(o k f:Nat):aA tab h bM (.ptr o k f)=(h.row o k).bind λrow=>(row.drop f).head?:=by show(match h.row o k with|some row=>_|none=>none)=_;cases h.row o k<;>rfl
theorem xm{h:J}{n0:Nat}(d:n0≤h.length){rows:List (List D)}{x y:D}(e:Own h n0 bB 2 rows x){ys:List (List D)}(g:jH h 2 y=some ys)(c:(rows.length+ys.length)*32≤140737488355328){b:Type}{f:D × J→Option b}{Q:b→Prop}
  (k:∀x' h',Own h' n0 bB 2 (rows++ys) x'→h.length≤h'.length→(∀a,a<n0→h'[a]?=h[a]?)→(∀a,a<h.length→¬x.e9 a→h'[a]?=h[a]?)→(∀a,x'.e9 a→x.e9 a∨h.length≤a)→Wp (f (x',h')) Q):Wp ((cW tab h bM bM x y).bind f) Q:=
 sX (T:=tab) (i:=xf) (j:=uD) (id rfl) (id rfl) (id rfl) (by decide) d e g (lK c (by omega)) k
theorem Ka{h:J}{o T Y kk off:Nat}{rows:List (List D)}{row:List D}{v:D}(d:h[o]?=some (.row T Y rows))(e:rows[kk]?=some row)(g:(cP v).length=1)(c:off+1≤row.length)(b:v.fT=true){a:Type}{f:J→Option a}{Q:a→Prop}
  (k:∀h',h'[o]?=some (.row T Y (rows.set kk (dQ row off (cP v))))→bW o h h'→Wp (f h') Q):Wp ((bT tab h bM (.ptr o kk off) v).bind f) Q:=
 by rw[show bT tab h bM (.ptr o kk off) v=jL 1 h (.ptr o kk off) v from rfl];exact lP d e g c b k
@[simp] theorem mW(a:D)(cs:List D):aC tab aG 0 (.aI (a::cs))=some (.aI (a::cs)):=id rfl
@[simp] theorem Oi(o k f:Nat):aC tab aG 0 (.ptr o k f)=some (.ptr o k (f+0)):=id rfl
@[simp] theorem Oj(o k f:Nat):aC tab aG 5 (.ptr o k f)=some (.ptr o k (f+5)):=id rfl
@[simp] theorem Ol(o k f:Nat):aC tab aG 6 (.ptr o k f)=some (.ptr o k (f+6)):=id rfl
@[simp] theorem GC(b a:D)(cs:List D):aC tab bS 1 (.aI (b::a::cs))=some (.aI (a::cs)):=id rfl
@[simp] theorem l9(o k f:Nat):aC tab bS 1 (.ptr o k f)=some (.ptr o k (f+1)):=id rfl
def H6:List (List UInt8):=[[97],[122,122],[],[49]]
@[simp] theorem Ta:bJ tab eE 4 [0,1,2,3] [.str [97],.str [122,122],.str [],.str [49]]=some (.sl 1 true (H6.map λs=>[.str s])):=id rfl
@[simp] theorem Fv(a:List UInt8)(b:List UInt8):eX tab bB [0,1] [.str a,.str b]=some (.agg [.str a,.str b]):=id rfl
@[simp] theorem Fz(a b:D):bJ tab bM 1 [0] [.agg [a,b]]=some (.sl 2 true [[a,b]]):=id rfl
def H7:List (List UInt8):=[[],[114],[97,98,99,100,101,102,103,104,105,106,107,108,109,110,111,112,113,114,115,116,117,118,119,120,121,122,97,98,99,100,101,102,103]]
@[simp] theorem Tb:bJ tab eE 3 [0,1,2] [.str [],.str [114],.str [97,98,99,100,101,102,103,104,105,106,107,108,109,110,111,112,113,114,115,116,117,118,119,120,121,122,97,98,99,100,101,102,103]]=some (.sl 1 true (H7.map λs=>[.str s])):=id rfl
@[simp] theorem Oo(o k f:Nat):aC tab aF 0 (.ptr o k f)=some (.ptr o k (f+0)):=id rfl
theorem CX{h:J}{o T Y kk off:Nat}{rows:List (List D)}{row:List D}{v:D}(d:h[o]?=some (.row T Y rows))(e:rows[kk]?=some row)(g:(cP v).length=1)(c:off+1≤row.length)(b:v.fT=true){a:Type}{f:J→Option a}{Q:a→Prop}
  (k:∀h',h'[o]?=some (.row T Y (rows.set kk (dQ row off (cP v))))→bW o h h'→Wp (f h') Q):Wp ((bT tab h bP (.ptr o kk off) v).bind f) Q:=
 by rw[show bT tab h bP (.ptr o kk off) v=jL 1 h (.ptr o kk off) v from rfl];exact lP d e g c b k
def H8:List (List UInt8):=[[120],[97,98,99,100,101,102,103,104,105,106,107,108,109,110,111,112,113,114,115,116,117,118,119,120,121,122,97,98,99,100,101,102,103]]
@[simp] theorem Tc:bJ tab eE 2 [0,1] [.str [120],.str [97,98,99,100,101,102,103,104,105,106,107,108,109,110,111,112,113,114,115,116,117,118,119,120,121,122,97,98,99,100,101,102,103]]=some (.sl 1 true (H8.map λs=>[.str s])):=id rfl
@[simp] theorem Om(o k f:Nat):aC tab aG 7 (.ptr o k f)=some (.ptr o k (f+7)):=id rfl
@[simp] theorem BC(h:J)(o k f:Nat):aA tab h bS (.ptr o k f)=(h.row o k).bind λrow=>pw 3 (row.drop f):=by show(match h.row o k with|some row=>_|none=>none)=_;cases h.row o k<;>rfl
theorem CW{h:J}{o T Y kk off:Nat}{rows:List (List D)}{row:List D}{v:D}(d:h[o]?=some (.row T Y rows))(e:rows[kk]?=some row)(g:(cP v).length=3)(c:off+3≤row.length)(b:v.fT=true){a:Type}{f:J→Option a}{Q:a→Prop}
  (k:∀h',h'[o]?=some (.row T Y (rows.set kk (dQ row off (cP v))))→bW o h h'→Wp (f h') Q):Wp ((bT tab h bS (.ptr o kk off) v).bind f) Q:=
 by rw[show bT tab h bS (.ptr o kk off) v=jL 3 h (.ptr o kk off) v from rfl];exact lP d e g c b k
@[simp] theorem yE(n0:Int)(a:Int):eX tab bS [0,1] [.int .i64 n0,.int .i64 a]=some (.agg [.int .i64 n0,.int .i64 a,.str []]):=id rfl
@[simp] theorem yJ(a b c:D):bJ tab bA 1 [0] [.agg [a,b,c]]=some (.sl 3 true [[a,b,c]]):=id rfl
@[simp] theorem K8(n0:Int)(a:Int)(b:Int)(c:Int):eX tab aG [0,1,2,3] [.int .i64 n0,.int .i64 a,.int .i64 b,.int .i64 c]=some (.agg [.int .i64 n0,.int .i64 a,.int .i64 b,.int .i64 c,.aB,.int .i64 0,.int .i64 0,.str [],.str [],.aB]):=id rfl
def qt:List (List UInt8):=[[115,97,109,112,108,101],[116,111,111,45,108,111,110,103],[114,49]]
@[simp] theorem S9:bJ tab eE 3 [0,1,2] [.str [115,97,109,112,108,101],.str [116,111,111,45,108,111,110,103],.str [114,49]]=some (.sl 1 true (qt.map λs=>[.str s])):=id rfl
@[simp] theorem La(a:List UInt8)(b c d e f g h i j k:D):eX tab aF [0,1] [.str a,.agg [b,c,d,e,f,g,h,i,j,k]]=some (.agg [.str a,b,c,d,e,f,g,h,i,j,k]):=id rfl
@[simp] theorem Hj(f:Bool)(rows:List (List D))(i:Int):aQ tab aW (.sl 1 f rows) (.int .i64 i)=if 0≤i then(rows[i.toNat]?).map .aI else none:=by show(if 1=1∧0≤i then(match rows[i.toNat]? with|some b=>some (D.aI b)|none=>none)else none)=_;by_cases a:0≤i<;>simp[a]<;>cases rows[i.toNat]?<;>rfl
@[simp] theorem oW(o r n:Nat)(i:Int):aQ tab aW (.aO 1 o r n) (.int .i64 i)=if 0≤i∧i<n then some (.ptr o (r+i.toNat) 0)else none:=by show(if 1=1∧0≤i∧i<n then some (D.ptr o (r+i.toNat) 0)else none)=_;simp
@[simp] theorem me {a:Type} {f:a→List D} {l:List a} {d:D} (h:aR 1 f l d) (i:Int):aQ tab aW d (.int .i64 i)=if 0≤i then(l[i.toNat]?).map λp =>.aI (f p)else none:=
 by
  rcases h with⟨rfl,rfl⟩|⟨b,rfl⟩
  ·show none=_;simp
  ·rw[Hj];simp[oo]
@[simp] theorem Ru(o r n:Nat)(i:Int):aQ tab qI (.aO 1 o r n) (.int .i64 i)=if 0≤i∧i<n then some (.ptr o (r+i.toNat) 0)else none:=by show(if 1=1∧0≤i∧i<n then some (D.ptr o (r+i.toNat) 0)else none)=_;simp
@[simp] theorem nq(c:D)(cs:List D)(h:J):aA tab h iW (.aI (c::cs))=some c:=id rfl
@[simp] theorem RZ(h:J)(o k f:Nat):aA tab h iW (.ptr o k f)=(h.row o k).bind λrow=>(row.drop f).head?:=by show(match h.row o k with|some row=>_|none=>none)=_;cases h.row o k<;>rfl
theorem WD{h:J}{o T Y kk off:Nat}{rows:List (List D)}{row:List D}{v:D}(d:h[o]?=some (.row T Y rows))(e:rows[kk]?=some row)(g:(cP v).length=1)(c:off+1≤row.length)(b:v.fT=true){a:Type}{f:J→Option a}{Q:a→Prop}
  (k:∀h',h'[o]?=some (.row T Y (rows.set kk (dQ row off (cP v))))→bW o h h'→Wp (f h') Q):Wp ((bT tab h iW (.ptr o kk off) v).bind f) Q:=
 by rw[show bT tab h iW (.ptr o kk off) v=jL 1 h (.ptr o kk off) v from rfl];exact lP d e g c b k
@[simp] theorem tW {a:Type} {f:a→List D} {l:List a} {d:D} (h:aR 2 f l d):aT tab eT d=some (.int .i64 l.length):=
 by
  rcases h with⟨rfl,rfl⟩|⟨b,rfl⟩
  ·rfl
  ·show some (D.int .i64 ((l.map f).length:Nat))=_;simp
@[simp] theorem R4(z o r n:Nat):aT tab eT (.aO z o r n)=some (.int .i64 n):=id rfl
@[simp] theorem Rp(f:Bool)(rows:List (List D))(i:Int):aQ tab eT (.sl 2 f rows) (.int .i64 i)=if 0≤i then(rows[i.toNat]?).map .aI else none:=by show(if 2=2∧0≤i then(match rows[i.toNat]? with|some b=>some (D.aI b)|none=>none)else none)=_;by_cases a:0≤i<;>simp[a]<;>cases rows[i.toNat]?<;>rfl
@[simp] theorem tR(o r n:Nat)(i:Int):aQ tab eT (.aO 2 o r n) (.int .i64 i)=if 0≤i∧i<n then some (.ptr o (r+i.toNat) 0)else none:=by show(if 2=2∧0≤i∧i<n then some (D.ptr o (r+i.toNat) 0)else none)=_;simp
@[simp] theorem tS {a:Type} {f:a→List D} {l:List a} {d:D} (h:aR 2 f l d) (i:Int):aQ tab eT d (.int .i64 i)=if 0≤i then(l[i.toNat]?).map λp =>.aI (f p)else none:=
 by
  rcases h with⟨rfl,rfl⟩|⟨b,rfl⟩
  ·show none=_;simp
  ·rw[Rp];simp[oo]
@[simp] theorem Bz(h:J)(o k f:Nat):aA tab h dU (.ptr o k f)=(h.row o k).bind λrow=>pw 2 (row.drop f):=by show(match h.row o k with|some row=>_|none=>none)=_;cases h.row o k<;>rfl
@[simp] theorem Lg(a c:Int)(b d:Int):V tab .neq dU (.agg [.int .i64 a,.int .i64 b]) (.agg [.int .i64 c,.int .i64 d])=some (.bool (!(a==c&&(b==d&&true)))):=id rfl
@[simp] theorem ik(c:D)(cs:List D)(h:J):aA tab h bP (.aI (c::cs))=some c:=id rfl
@[simp] theorem lI(h:J)(o k f:Nat):aA tab h bP (.ptr o k f)=(h.row o k).bind λrow=>(row.drop f).head?:=by show(match h.row o k with|some row=>_|none=>none)=_;cases h.row o k<;>rfl
@[simp] theorem gm(s:List UInt8):aT tab bP (.str s)=some (.int .i64 s.length):=id rfl
@[simp] theorem W1(o k f:Nat):aC tab aG 8 (.ptr o k f)=some (.ptr o k (f+8)):=id rfl
@[simp] theorem iD {a:Type} {f:a→List D} {l:List a} {d:D} (h:aR 2 f l d):aT tab bM d=some (.int .i64 l.length):=
 by
  rcases h with⟨rfl,rfl⟩|⟨b,rfl⟩
  ·rfl
  ·show some (D.int .i64 ((l.map f).length:Nat))=_;simp
theorem R6{h:J}{n0 e z:Nat}{rows:List (List D)}{d:D}(a:Own h n0 e z rows d):aT tab bM d=some (.int .i64 rows.length):=by
 rcases a with⟨rfl,rfl⟩|⟨b,_,rfl,_⟩<;>rfl
@[simp] theorem HP(z o r n:Nat):aT tab bM (.aO z o r n)=some (.int .i64 n):=id rfl
@[simp] theorem WZ(b c a:D)(cs:List D):aC tab bS 2 (.aI (b::c::a::cs))=some (.aI (a::cs)):=id rfl
@[simp] theorem na(o k f:Nat):aC tab bS 2 (.ptr o k f)=some (.ptr o k (f+2)):=id rfl
def qs:List Int:=[9223372036854775807,(-9223372036854775808),4294967296,(-1),(-2),65536,999,1000,253402300799999,253402300800000,0,41]
@[simp] theorem Sx:qs.length=12:=id rfl
@[simp] theorem Sy:bJ tab aW 12 [0,1,2,3,4,5,6,7,8,9,10,11] [.int .i64 9223372036854775807,.int .i64 (-9223372036854775808),.int .i64 4294967296,.int .i64 (-1),.int .i64 (-2),.int .i64 65536,.int .i64 999,.int .i64 1000,.int .i64 253402300799999,.int .i64 253402300800000,.int .i64 0,.int .i64 41]=some (.sl 1 true (qs.map λn=>[.int .i64 n])):=id rfl
@[simp] theorem R8 {a:Type} {f:a→List D} {l:List a} {d:D} (h:aR 1 f l d):aT tab eE d=some (.int .i64 l.length):=
 by
  rcases h with⟨rfl,rfl⟩|⟨b,rfl⟩
  ·rfl
  ·show some (D.int .i64 ((l.map f).length:Nat))=_;simp
@[simp] theorem R3(z:Nat)(f:Bool)(rows:List (List D)):aT tab eE (.sl z f rows)=some (.int .i64 rows.length):=id rfl
@[simp] theorem Hk(f:Bool)(rows:List (List D))(i:Int):aQ tab eE (.sl 1 f rows) (.int .i64 i)=if 0≤i then(rows[i.toNat]?).map .aI else none:=by show(if 1=1∧0≤i then(match rows[i.toNat]? with|some b=>some (D.aI b)|none=>none)else none)=_;by_cases a:0≤i<;>simp[a]<;>cases rows[i.toNat]?<;>rfl
@[simp] theorem Rx {a:Type} {f:a→List D} {l:List a} {d:D} (h:aR 1 f l d) (i:Int):aQ tab eE d (.int .i64 i)=if 0≤i then(l[i.toNat]?).map λp =>.aI (f p)else none:=
 by
  rcases h with⟨rfl,rfl⟩|⟨b,rfl⟩
  ·show none=_;simp
  ·rw[Hk];simp[oo]
def H5:List (List UInt8):=[[97],[98],[32],[49],[117,115,101,114],[61],[34],[55],[46],[44],[120,32,121],[49,48,46,50],[45],[195,169],[91],[105,100],[9],[58]]
@[simp] theorem S8:bJ tab eE 18 [0,1,2,3,4,5,6,7,8,9,10,11,12,13,14,15,16,17] [.str [97],.str [98],.str [32],.str [49],.str [117,115,101,114],.str [61],.str [34],.str [55],.str [46],.str [44],.str [120,32,121],.str [49,48,46,50],.str [45],.str [195,169],.str [91],.str [105,100],.str [9],.str [58]]=some (.sl 1 true (H5.map λs=>[.str s])):=id rfl
def qq:List Int:=[1,1,2,5040]
@[simp] theorem Sw:bJ tab aW 4 [0,1,2,3] [.int .i64 1,.int .i64 1,.int .i64 2,.int .i64 5040]=some (.sl 1 true (qq.map λn=>[.int .i64 n])):=id rfl
def pd:List (List UInt8):=[[],[116,49],[116,50],[105,100]]
@[simp] theorem Sz:bJ tab eE 4 [0,1,2,3] [.str [],.str [116,49],.str [116,50],.str [105,100]]=some (.sl 1 true (pd.map λs=>[.str s])):=id rfl
def pe:List (List UInt8):=[[109,97,105,110],[97,117,100,105,116]]
@[simp] theorem SA:bJ tab eE 2 [0,1] [.str [109,97,105,110],.str [97,117,100,105,116]]=some (.sl 1 true (pe.map λs=>[.str s])):=id rfl
@[simp] theorem K9 (n0:Int) (c:Int) (d:Int) (e:Int) (f:Int) (g:List UInt8) (h:List UInt8) (b:D) (j:b.one=true):eX tab aG [0,1,2,5,6,7,8,9] [.int .i64 n0,.int .i64 c,.int .i64 d,.int .i64 e,.int .i64 f,.str g,.str h,b]=some (.agg [.int .i64 n0,.int .i64 c,.int .i64 d,.int .i64 0,.aB,.int .i64 e,.int .i64 f,.str g,.str h,b]):=by
 have a:=j5 j;refine yF (T:=tab) (i:=xg) (fs:=[(3,0,1),(3,1,1),(3,2,1),(3,3,1),(23,4,1),(3,5,1),(3,6,1),(9,7,1),(9,8,1),(24,9,1)]) (id rfl) (id rfl) ?_;rw[show xg.zero=[.int .i64 0,.int .i64 0,.int .i64 0,.int .i64 0,.aB,.int .i64 0,.int .i64 0,.str [],.str [],.aB]from id rfl];rw[ng (off:=0) (Y:=1) (id rfl) (id rfl) (by simp[dQ,mS,mT,mR,mQ]) (id rfl)];rw[ng (off:=1) (Y:=1) (id rfl) (id rfl) (by simp[dQ,mS,mT,mR,mQ]) (id rfl)];rw[ng (off:=2) (Y:=1) (id rfl) (id rfl) (by simp[dQ,mS,mT,mR,mQ]) (id rfl)];rw[ng (off:=5) (Y:=1) (id rfl) (id rfl) (by simp[dQ,mS,mT,mR,mQ]) (id rfl)];rw[ng (off:=6) (Y:=1) (id rfl) (id rfl) (by simp[dQ,mS,mT,mR,mQ]) (id rfl)];rw[ng (off:=7) (Y:=1) (id rfl) (id rfl) (by simp[dQ,mS,mT,mR,mQ]) (id rfl)];rw[ng (off:=8) (Y:=1) (id rfl) (id rfl) (by simp[dQ,mS,mT,mR,mQ]) (id rfl)];rw[ng (off:=9) (Y:=1) (id rfl) (by rw[a.1];rfl) (by simp[dQ,mS,mT,mR,mQ]) a.2,a.1];exact id rfl
@[simp] theorem FA: bJ tab aW 0 [] []=some (.sl 1 true []):=id rfl
@[simp] theorem BD(h:J)(o k f:Nat):aA tab h aW (.ptr o k f)=(h.row o k).bind λrow=>(row.drop f).head?:=by show(match h.row o k with|some row=>_|none=>none)=_;cases h.row o k<;>rfl
@[simp] theorem GD(o k f:Nat):aC tab dU 0 (.ptr o k f)=some (.ptr o k (f+0)):=id rfl
theorem J9{h:J}{o T Y kk off:Nat}{rows:List (List D)}{row:List D}{v:D}(d:h[o]?=some (.row T Y rows))(e:rows[kk]?=some row)(g:(cP v).length=2)(c:off+2≤row.length)(b:v.fT=true){a:Type}{f:J→Option a}{Q:a→Prop}
  (k:∀h',h'[o]?=some (.row T Y (rows.set kk (dQ row off (cP v))))→bW o h h'→Wp (f h') Q):Wp ((bT tab h dU (.ptr o kk off) v).bind f) Q:=
 by rw[show bT tab h dU (.ptr o kk off) v=jL 2 h (.ptr o kk off) v from rfl];exact lP d e g c b k
@[simp] theorem GF(o k f:Nat):aC tab dU 1 (.ptr o k f)=some (.ptr o k (f+1)):=id rfl
@[simp] theorem Fx: eX tab aF [] []=some (.agg [.str [],.int .i64 0,.int .i64 0,.int .i64 0,.int .i64 0,.aB,.int .i64 0,.int .i64 0,.str [],.str [],.aB]):=id rfl
@[simp] theorem Rt(f:Bool)(rows:List (List D))(i:Int):aQ tab bM (.sl 2 f rows) (.int .i64 i)=if 0≤i then(rows[i.toNat]?).map .aI else none:=by show(if 2=2∧0≤i then(match rows[i.toNat]? with|some b=>some (D.aI b)|none=>none)else none)=_;by_cases a:0≤i<;>simp[a]<;>cases rows[i.toNat]?<;>rfl
@[simp] theorem n4(o r n:Nat)(i:Int):aQ tab bM (.aO 2 o r n) (.int .i64 i)=if 0≤i∧i<n then some (.ptr o (r+i.toNat) 0)else none:=by show(if 2=2∧0≤i∧i<n then some (D.ptr o (r+i.toNat) 0)else none)=_;simp
@[simp] theorem oX {a:Type} {f:a→List D} {l:List a} {d:D} (h:aR 2 f l d) (i:Int):aQ tab bM d (.int .i64 i)=if 0≤i then(l[i.toNat]?).map λp =>.aI (f p)else none:=
 by
  rcases h with⟨rfl,rfl⟩|⟨b,rfl⟩
  ·show none=_;simp
  ·rw[Rt];simp[oo]
@[simp] theorem WY(b a:D)(cs:List D):aC tab bB 1 (.aI (b::a::cs))=some (.aI (a::cs)):=id rfl
def kD:List (List UInt8):=[[97],[105,100],[108,101,118,101,108],[117,115,101,114]]
@[simp] theorem SB:kD.length=4:=id rfl
@[simp] theorem SC:bJ tab eE 4 [0,1,2,3] [.str [97],.str [105,100],.str [108,101,118,101,108],.str [117,115,101,114]]=some (.sl 1 true (kD.map λs=>[.str s])):=id rfl
def pf:List (List UInt8):=[[],[49],[105,110,102,111],[119,97,114,110],[97,110,110],[50,46,53,48],[116,114,117,101],[116,49]]
@[simp] theorem SD:bJ tab eE 8 [0,1,2,3,4,5,6,7] [.str [],.str [49],.str [105,110,102,111],.str [119,97,114,110],.str [97,110,110],.str [50,46,53,48],.str [116,114,117,101],.str [116,49]]=some (.sl 1 true (pf.map λs=>[.str s])):=id rfl
@[simp] theorem WN(a d:Int)(b e:Int)(c f:List UInt8):V tab .neq bS (.agg [.int .i64 a,.int .i64 b,.str c]) (.agg [.int .i64 d,.int .i64 e,.str f])=some (.bool (!(a==d&&(b==e&&(c==f&&true))))):=id rfl
@[simp] theorem BA(h:J)(o k f:Nat):aA tab h bB (.ptr o k f)=(h.row o k).bind λrow=>pw 2 (row.drop f):=by show(match h.row o k with|some row=>_|none=>none)=_;cases h.row o k<;>rfl
@[simp] theorem WM(a c:List UInt8)(b d:List UInt8):V tab .neq bB (.agg [.str a,.str b]) (.agg [.str c,.str d])=some (.bool (!(a==c&&(b==d&&true)))):=id rfl
@[simp] theorem Lk: bJ tab bA 0 [] []=some (.sl 3 true []):=id rfl
theorem nE{h:J}{o T Y kk off:Nat}{rows:List (List D)}{row:List D}{v:D}(d:h[o]?=some (.row T Y rows))(e:rows[kk]?=some row)(g:(cP v).length=2)(c:off+2≤row.length)(b:v.fT=true){a:Type}{f:J→Option a}{Q:a→Prop}
  (k:∀h',h'[o]?=some (.row T Y (rows.set kk (dQ row off (cP v))))→bW o h h'→Wp (f h') Q):Wp ((bT tab h bB (.ptr o kk off) v).bind f) Q:=
 by rw[show bT tab h bB (.ptr o kk off) v=jL 2 h (.ptr o kk off) v from rfl];exact lP d e g c b k
@[simp] theorem yZ(o k f:Nat):aC tab bB 0 (.ptr o k f)=some (.ptr o k (f+0)):=id rfl
def SE:List (List UInt8):=[[49],[50],[57]]
@[simp] theorem SF:bJ tab eE 3 [0,1,2] [.str [49],.str [50],.str [57]]=some (.sl 1 true (SE.map λs=>[.str s])):=id rfl
def SG:List (List UInt8):=[[48],[53]]
@[simp] theorem SH:bJ tab eE 2 [0,1] [.str [48],.str [53]]=some (.sl 1 true (SG.map λs=>[.str s])):=id rfl
def SI:List (List UInt8):=[[49],[50]]
@[simp] theorem SJ:bJ tab eE 2 [0,1] [.str [49],.str [50]]=some (.sl 1 true (SI.map λs=>[.str s])):=id rfl
def SK:List (List UInt8):=[[105,110,102,111],[119,97,114,110]]
@[simp] theorem SL:bJ tab eE 2 [0,1] [.str [105,110,102,111],.str [119,97,114,110]]=some (.sl 1 true (SK.map λs=>[.str s])):=id rfl
def SM:List (List UInt8):=[[55],[116,49],[116,50]]
@[simp] theorem SN:bJ tab eE 3 [0,1,2] [.str [55],.str [116,49],.str [116,50]]=some (.sl 1 true (SM.map λs=>[.str s])):=id rfl
def SO:List (List UInt8):=[[105,110,102,111],[119,97,114,110],[100,101,98,117,103]]
@[simp] theorem SP:bJ tab eE 3 [0,1,2] [.str [105,110,102,111],.str [119,97,114,110],.str [100,101,98,117,103]]=some (.sl 1 true (SO.map λs=>[.str s])):=id rfl
def SQ:List (List UInt8):=[[97,110,110],[98,111,98]]
@[simp] theorem SR:bJ tab eE 2 [0,1] [.str [97,110,110],.str [98,111,98]]=some (.sl 1 true (SQ.map λs=>[.str s])):=id rfl
def SS:List (List UInt8):=[[49,48,46,50],[49,48,46,51],[55,46,55]]
@[simp] theorem SU:bJ tab eE 3 [0,1,2] [.str [49,48,46,50],.str [49,48,46,51],.str [55,46,55]]=some (.sl 1 true (SS.map λs=>[.str s])):=id rfl
def SV:List (List UInt8):=[[102],[103]]
@[simp] theorem SX:bJ tab eE 2 [0,1] [.str [102],.str [103]]=some (.sl 1 true (SV.map λs=>[.str s])):=id rfl
def SY:List (List UInt8):=[[40,49,41],[40,50,50,41]]
@[simp] theorem SZ:bJ tab eE 2 [0,1] [.str [40,49,41],.str [40,50,50,41]]=some (.sl 1 true (SY.map λs=>[.str s])):=id rfl
def S0:List (List UInt8):=[[97,110,110],[98,111,98],[101,118,101]]
@[simp] theorem S1:bJ tab eE 3 [0,1,2] [.str [97,110,110],.str [98,111,98],.str [101,118,101]]=some (.sl 1 true (S0.map λs=>[.str s])):=id rfl
def S2:List (List UInt8):=[[105,110],[111,117,116]]
@[simp] theorem S3:bJ tab eE 2 [0,1] [.str [105,110],.str [111,117,116]]=some (.sl 1 true (S2.map λs=>[.str s])):=id rfl
def S4:List (List UInt8):=[[49],[45,50,48],[116,114,117,101]]
@[simp] theorem S5:bJ tab eE 3 [0,1,2] [.str [49],.str [45,50,48],.str [116,114,117,101]]=some (.sl 1 true (S4.map λs=>[.str s])):=id rfl
def S6:List (List UInt8):=[[111,107],[102,97,105,108,101,100]]
@[simp] theorem S7:bJ tab eE 2 [0,1] [.str [111,107],.str [102,97,105,108,101,100]]=some (.sl 1 true (S6.map λs=>[.str s])):=id rfl
@[simp] theorem Ll: bJ tab bM 0 [] []=some (.sl 2 true []):=id rfl
@[simp] theorem vv(k:IntKind)(n:Int):kf tab U kI (.int k n)=some (.int .u64 (IntKind.wrap .u64 n)):=id rfl
@[simp] theorem vu(k:IntKind)(n:Int):kf tab kI U (.int k n)=some (.int .i64 (IntKind.wrap .i64 n)):=id rfl
theorem Kb{h:J}{o T Y kk off:Nat}{rows:List (List D)}{row:List D}{v:D}(d:h[o]?=some (.row T Y rows))(e:rows[kk]?=some row)(g:(cP v).length=1)(c:off+1≤row.length)(b:v.fT=true){a:Type}{f:J→Option a}{Q:a→Prop}
  (k:∀h',h'[o]?=some (.row T Y (rows.set kk (dQ row off (cP v))))→bW o h h'→Wp (f h') Q):Wp ((bT tab h aW (.ptr o kk off) v).bind f) Q:=
 by rw[show bT tab h aW (.ptr o kk off) v=jL 1 h (.ptr o kk off) v from rfl];exact lP d e g c b k
@[simp] theorem Lh(a b:Bool):V tab .neq iW (.bool a) (.bool b)=some (.bool (!(a==b))):=id rfl
@[simp] theorem Lj(a:D)(b:D)(c:D)(d:a.one=true)(e:b.one=true)(h2:c.one=true):bJ tab nC 3 [0,1,2] [a,b,c]=some (.sl 1 true [[a],[b],[c]]):=Se (T:=tab) (t:=nC) (n:=3) (i:=CO) (j:=xd) (id rfl) (id rfl) (id rfl) (id rfl) [a,b,c] rfl (by decide) (by simp[d,e,h2])
@[simp] theorem R7 {a:Type} {f:a→List D} {l:List a} {d:D} (h:aR 1 f l d):aT tab nC d=some (.int .i64 l.length):=
 by
  rcases h with⟨rfl,rfl⟩|⟨b,rfl⟩
  ·rfl
  ·show some (D.int .i64 ((l.map f).length:Nat))=_;simp
@[simp] theorem Rr(f:Bool)(rows:List (List D))(i:Int):aQ tab nC (.sl 1 f rows) (.int .i64 i)=if 0≤i then(rows[i.toNat]?).map .aI else none:=by show(if 1=1∧0≤i then(match rows[i.toNat]? with|some b=>some (D.aI b)|none=>none)else none)=_;by_cases a:0≤i<;>simp[a]<;>cases rows[i.toNat]?<;>rfl
@[simp] theorem Rv {a:Type} {f:a→List D} {l:List a} {d:D} (h:aR 1 f l d) (i:Int):aQ tab nC d (.int .i64 i)=if 0≤i then(l[i.toNat]?).map λp =>.aI (f p)else none:=
 by
  rcases h with⟨rfl,rfl⟩|⟨b,rfl⟩
  ·show none=_;simp
  ·rw[Rr];simp[oo]
@[simp] theorem RW(c:D)(cs:List D)(h:J):aA tab h eT (.aI (c::cs))=some c:=id rfl
@[simp] theorem Fy(a b:Bool):V tab .eql iW (.bool a) (.bool b)=some (.bool (a==b)):=id rfl
@[simp] theorem Fw (b:D) (c:b.one=true):eX tab ff [1] [b]=some (.agg [.aB,b]):=by
 have a:=j5 c;refine yF (T:=tab) (i:=xe) (fs:=[(33,0,1),(33,1,1)]) (id rfl) (id rfl) ?_;rw[show xe.zero=[.aB,.aB]from id rfl];rw[ng (off:=1) (Y:=1) (id rfl) (by rw[a.1];rfl) (by simp[dQ,mS,mT,mR,mQ]) a.2,a.1];exact id rfl
@[simp] theorem He(d:D)(xs:List D)(h:J):ie tab R "Len" (.iface kq d::xs) h=R tD (d::xs) h:=by kernel_rfl
@[simp] theorem tO(d:D)(xs:List D)(h:J):ie tab R "Less" (.iface kq d::xs) h=R zu (d::xs) h:=by kernel_rfl
@[simp] theorem Ri(d:D)(xs:List D)(h:J):ie tab R "Pop" (.iface kq d::xs) h=R v8 (d::xs) h:=by kernel_rfl
@[simp] theorem Rj(d:D)(xs:List D)(h:J):ie tab R "Push" (.iface kq d::xs) h=R wa (d::xs) h:=by kernel_rfl
@[simp] theorem tP(d:D)(xs:List D)(h:J):ie tab R "Swap" (.iface kq d::xs) h=R tE (d::xs) h:=by kernel_rfl
end Go.Proofs.YtinlnkhheafjaaaGreatDoor
namespace Go.Eng
abbrev dY:=@Int.toNat_natCast
abbrev eA:=@not_true
abbrev eR:=@Bool.true_eq_false
abbrev fV:=@List.map_append
abbrev iK:=@List.head?_cons
abbrev iS:=@or_false
abbrev j8:=@List.getElem?_cons_succ
abbrev kA:=@beq_self_eq_true
abbrev kH:=@true_or
abbrev kK:=@Decidable.not_not
abbrev kQ:=@List.map_set
abbrev lS:=@Bool.false_and
abbrev mY:=@false_or
abbrev nu:=@or_self
abbrev nv:=@or_true
abbrev pL:=@Int.natCast_nonneg
abbrev pQ:=@List.map_nil
abbrev sU:=@UInt8.lt_iff_toNat_lt
abbrev uL:=@Bool.and_false
abbrev u1:=@List.all_cons
abbrev vd:=@List.take_left'
abbrev yh:=@List.pairwise_iff_getElem
end Go.Eng
namespace Go.Proofs.YtinlnkhheafjaaaGreatDoor
open Go.Eng Go.Pi
open Option renaming bind_some → Xm
abbrev aD:=List UInt8
def aN(p:aD × aD):List D:=[.str p.1,.str p.2]
structure dJ where
 off:Int
 len:Int
 eD:aD
 deriving DecidableEq
def bC(l:dJ):List D:=[.int .i64 l.off,.int .i64 l.len,.str l.eD]
structure Ev where
 a0:Int
 a1:Int
 a2:Int
 a3:Int
 ls:List dJ
 ld:D
 a5:Int
 a6:Int
 s7:aD
 s8:aD
 fs:List (aD × aD)
 fd:D
 gk:aR 2 aN fs fd
 hl:fs.length≤9223372036854775807
 fZ:aR 3 bC ls ld
 rW:ls.length≤9223372036854775807
def bV(e:Ev):List D:=[.int .i64 e.a0,.int .i64 e.a1,.int .i64 e.a2,.int .i64 e.a3,e.ld,.int .i64 e.a5,.int .i64 e.a6,.str e.s7,.str e.s8,e.fd]
structure It where
 r:aD
 e:Ev
def aE(i:It):List D :=.str i.r::bV i.e
theorem vI(n0:Nat)(h:J)(n:Nat)(p:aD × aD):∀d∈aN p,cV n0 h n d=d:=by simp[-Xm,aN]
theorem za(n:Nat)(p:aD × aD):∀d∈aN p,Ok n d:=by
 intro d a;simp[-Xm,aN]at a;rcases a with rfl|rfl<;>constructor
theorem r3(n0:Nat)(h:J)(n:Nat)(p:dJ):∀d∈bC p,cV n0 h n d=d:=by simp[-Xm,bC]
theorem BE(n:Nat)(p:dJ):∀d∈bC p,Ok n d:=by
 intro d a;simp[-Xm,bC]at a;rcases a with rfl|rfl|rfl<;>constructor
theorem Gu(n0:Nat)(h:J)(n:Nat)(e:Ev):∀d∈bV e,cV n0 h (n+1) d=d:=by
 intro d b;simp[-Xm,bV]at b;rcases b with rfl|rfl|rfl|rfl|rfl|rfl|rfl|rfl|rfl|rfl
 all_goals first|exact uz e.fZ (λa _=>r3 _ _ _ a)|exact uz e.gk (λa _=>vI _ _ _ a)|simp[-Xm]
theorem Gv(n:Nat)(e:Ev):∀d∈bV e,Ok n d:=by
 intro d b;simp[-Xm,bV]at b;rcases b with rfl|rfl|rfl|rfl|rfl|rfl|rfl|rfl|rfl|rfl
 all_goals first|exact jA e.fZ (λa _=>BE _ a)|exact jA e.gk (λa _=>za _ a)|constructor
theorem qk(n:Nat)(i:It):Ok n (.agg (aE i)):=by
 refine .agg _ λc b=>?_
 simp[-Xm,aE,bV]at b;rcases b with rfl|rfl|rfl|rfl|rfl|rfl|rfl|rfl|rfl|rfl|rfl
 all_goals first|exact jA i.e.fZ (λa _=>BE _ a)|exact jA i.e.gk (λa _=>za _ a)|constructor
theorem qj(n0:Nat)(h:J)(n:Nat)(i:It):∀d∈aE i,cV n0 h (n+1) d=d:=by
 intro d a;rcases dW.1 a with rfl|a
 ·simp[-Xm]
 ·exact Gu n0 h n i.e d a
theorem rZ(n:Nat)(i:It):∀d∈aE i,Ok n d:=by
 intro d a;rcases dW.1 a with rfl|a
 ·exact .str _
 ·exact Gv n i.e d a
theorem tk(e:Ev)(h:J):aA tab h aG (.aI (bV e))=some (.agg (bV e)):=id rfl
theorem kl(i:It):aC tab aF 1 (.aI (aE i))=some (.aI (bV i.e)):=id rfl
theorem Bo(i:It):aC tab aF 0 (.aI (aE i))=some (.aI (aE i)):=id rfl
theorem Bp(i:It)(h:J):aA tab h bP (.aI (aE i))=some (.str i.r):=id rfl
theorem lf(i:It)(h:J):aA tab h aF (.aI (aE i))=some (.agg (aE i)):=id rfl
theorem Lm(i:It):bJ tab aV 1 [0] [.agg (aE i)]=some (.sl 11 true [aE i]):=id rfl
theorem oZ(l:dJ)(h:J):aA tab h bS (.aI (bC l))=some (.agg (bC l)):=id rfl
theorem tq(l:aD × aD)(h:J):aA tab h bB (.aI (aN l))=some (.agg (aN l)):=id rfl
theorem Sb(a b:dJ):V tab .neq bS (.agg (bC a)) (.agg (bC b))=some (.bool (decide (a≠b))):=by
 obtain⟨c,d,e⟩:=a;obtain⟨f,g,h⟩:=b;simp[-Xm,bC];by_cases i:c=f<;>by_cases j:d=g<;>by_cases k:e=h<;>simp[-Xm,i,j,k]
theorem GR(a b:aD × aD):V tab .neq bB (.agg (aN a)) (.agg (aN b))=some (.bool (decide (a≠b))):=by
 obtain⟨c,d⟩:=a;obtain⟨e,f⟩:=b;simp[-Xm,aN];by_cases g:c=e<;>by_cases h:d=f<;>simp[-Xm,g,h]
def VF(c:Int):Int:=if c % 2=1 then IntKind.wrap .u32 (BitVec.ofInt IntKind.u32.bits (c.fdiv 2) ^^^ BitVec.ofInt IntKind.u32.bits 3988292384).toNat else c.fdiv 2
def JR:Nat→Int→Int
 |0,c=>c
 |n+1,c=>JR n (VF c)
def Ln(c z:Int):Int:=JR 8 (IntKind.wrap .u32 (BitVec.ofInt IntKind.u32.bits c ^^^ BitVec.ofInt IntKind.u32.bits (IntKind.wrap .u32 z)).toNat)
def FU:Int→List Int→Int
 |c,[]=>c
 |c,z::r=>FU (Ln c z) r
def LQ(l:List Int):Int:=IntKind.wrap .u32 (BitVec.ofInt IntKind.u32.bits (if IntKind.u32.signed then -1 else IntKind.u32.max) ^^^ BitVec.ofInt IntKind.u32.bits (FU 4294967295 l)).toNat
theorem WB{n:Int}(a:0≤n)(b:n<18446744073709551616):IntKind.wrap .u64 n=n:=by
 unfold IntKind.wrap;simp[-Xm,IntKind.signed,IntKind.bits,IntKind.min,IntKind.max];omega
theorem Vg(l r:List dJ)(d e:D)(h:J)(n:aR 3 bC l d)(w:aR 3 bC r e)(F:l.length≤9223372036854775807):R zA [d,e] h=some (.bool (decide (l=r)),h):=by
 apply Wp.val;rw[N5];simp only[EO,W,aU,ji n,ji w,dE];refine Wp.dS ?_ ?_
 ·intro i;have i:l.length≠r.length:=by
   have:¬(l.length:Int)=r.length:=by simpa using i
   omega
  have p:l≠r:=λo=>i (by rw[o])
  simp only[W,bR];exact .some (by simp[-Xm,p])
 ·intro i;have i:l.length=r.length:=by
   have:(l.length:Int)=r.length:=by simpa using i
   omega
  refine Wp.loop (λs j m=>m=h∧∃t u v,∃a:Nat,j=[t,.int .i64 a,u,v]∧s+a=l.length∧l.take a=r.take a)
   (λb=>b.2.2=h∧((b.1 = .ret∧Z 0 b.2.1 = .bool false∧l≠r)∨(b.1 = .ext 0∧l=r))) l.length ⟨rfl,_,_,_,0,rfl,rfl,rfl⟩ ?_ ?_
  ·rintro s j m ⟨rfl,t,u,v,a,rfl,E,x⟩;simp only[EP,bD,bY,W,aU,ji n,cI];refine Wp.dS ?_ ?_
   ·intro g;have g:a<l.length:=gS g;have k:l[a]?=some l[a]:=cJ g;have c:r[a]?=some (r[a]'(by omega)):=cJ (by omega);have C:=fD a (by omega);generalize l[a]=b at k;generalize r[a]'(by omega)=y at c;simp only[mc n,mc w,pL,aJ,dY,k,c,fW,W,oZ,Sb];refine Wp.dS ?_ ?_
    ·intro f;have f:b≠y:=by simpa using f
     try simp only[W]
     refine .some (.inr ⟨by simp,rfl,.inl ⟨rfl,rfl,λo=>?_⟩⟩);subst o;rw[k]at c;injection c with c;exact f c
    ·intro f;have f:b=y:=by simpa using f
     subst f;simp only[cY,W,C];refine .some (.inl ⟨rfl,s - 1,by omega,rfl,_,_,_,a+1,rfl,by omega,?_⟩);rw[gA,gA,x,k,c]
   ·intro g;have g:a=l.length:=by
     have:¬(a:Int)<l.length:=by simpa using g
     omega
    refine .some (.inr ⟨by simp,rfl,.inr ⟨rfl,?_⟩⟩);have z:l.take a=l:=iz (by omega);have A:r.take a=r:=iz (by omega);rw[← z,← A,x]
  ·rintro⟨b,j,m⟩ ⟨rfl,⟨rfl,q,p⟩|⟨rfl,B⟩⟩
   ·replace q:Z 0 j = .bool false:=q;simp only[mw,mv,l7,bD,W,q,bR];exact .some (by simp[-Xm,p])
   ·simp only[dV,cL,W,bR];exact .some (by simp[-Xm,B])
theorem Jy(l r:List (aD × aD))(d e:D)(h:J)(n:aR 2 aN l d)(w:aR 2 aN r e)(F:l.length≤9223372036854775807):R wj [d,e] h=some (.bool (decide (l=r)),h):=by
 apply Wp.val;rw[N6];simp only[ER,W,aU,iD n,iD w,dE];refine Wp.dS ?_ ?_
 ·intro i;have i:l.length≠r.length:=by
   have:¬(l.length:Int)=r.length:=by simpa using i
   omega
  have p:l≠r:=λo=>i (by rw[o])
  simp only[W,bR];exact .some (by simp[-Xm,p])
 ·intro i;have i:l.length=r.length:=by
   have:(l.length:Int)=r.length:=by simpa using i
   omega
  refine Wp.loop (λs j m=>m=h∧∃t u v,∃a:Nat,j=[t,.int .i64 a,u,v]∧s+a=l.length∧l.take a=r.take a)
   (λb=>b.2.2=h∧((b.1 = .ret∧Z 0 b.2.1 = .bool false∧l≠r)∨(b.1 = .ext 0∧l=r))) l.length ⟨rfl,_,_,_,0,rfl,rfl,rfl⟩ ?_ ?_
  ·rintro s j m ⟨rfl,t,u,v,a,rfl,E,x⟩;simp only[ES,bD,bY,W,aU,iD n,cI];refine Wp.dS ?_ ?_
   ·intro g;have g:a<l.length:=gS g;have k:l[a]?=some l[a]:=cJ g;have c:r[a]?=some (r[a]'(by omega)):=cJ (by omega);have C:=fD a (by omega);generalize l[a]=b at k;generalize r[a]'(by omega)=y at c;simp only[oX n,oX w,pL,aJ,dY,k,c,fW,W,tq,GR];refine Wp.dS ?_ ?_
    ·intro f;have f:b≠y:=by simpa using f
     try simp only[W]
     refine .some (.inr ⟨by simp,rfl,.inl ⟨rfl,rfl,λo=>?_⟩⟩);subst o;rw[k]at c;injection c with c;exact f c
    ·intro f;have f:b=y:=by simpa using f
     subst f;simp only[cY,W,C];refine .some (.inl ⟨rfl,s - 1,by omega,rfl,_,_,_,a+1,rfl,by omega,?_⟩);rw[gA,gA,x,k,c]
   ·intro g;have g:a=l.length:=by
     have:¬(a:Int)<l.length:=by simpa using g
     omega
    refine .some (.inr ⟨by simp,rfl,.inr ⟨rfl,?_⟩⟩);have z:l.take a=l:=iz (by omega);have A:r.take a=r:=iz (by omega);rw[← z,← A,x]
  ·rintro⟨b,j,m⟩ ⟨rfl,⟨rfl,q,p⟩|⟨rfl,B⟩⟩
   ·replace q:Z 0 j = .bool false:=q;simp only[mw,mv,l7,bD,W,q,bR];exact .some (by simp[-Xm,p])
   ·simp only[dV,cL,W,bR];exact .some (by simp[-Xm,B])
def jN(a b:Ev):Bool:=decide (a.a0=b.a0)&&(decide (a.a1=b.a1)&&(decide (a.a2=b.a2)&&(decide (a.a3=b.a3)&&(decide (a.a5=b.a5)&&(decide (a.a6=b.a6)&&(decide (a.s7=b.s7)&&(decide (a.s8=b.s8)&&(decide (a.ls=b.ls)&&decide (a.fs=b.fs)))))))))
def jk(i j:It):Bool:=decide (i.r=j.r)&&jN i.e j.e
theorem Vi(a:Ev):jN a a=true:=by simp[-Xm,jN]
theorem Jz(a:It):jk a a=true:=by simp[-Xm,jk,Vi]
theorem Vd(i j:It)(h:J):R zy [.agg (aE i),.agg (aE j)] h=some (.bool (jk i j),h):=by
 apply Wp.val;rw[N1];simp only[EJ,jj,W,aU,kl,Bo,Bp,tk];generalize y:aZ h aG 10 [[.int .i64 0,.int .i64 0,.int .i64 0,.int .i64 0,.aB,.int .i64 0,.int .i64 0,.str [],.str [],.aB]]=B;have Q:B.length=h.length+1:=by simp[-Xm,← y,aZ]
 have N:∀b,b<h.length→B[b]?=h[b]?:=λb A=>by simp only[← y,aZ];rw[eV A]
 have X:B[h.length]?=some (.row aG 10 [[.int .i64 0,.int .i64 0,.int .i64 0,.int .i64 0,.aB,.int .i64 0,.int .i64 0,.str [],.str [],.aB]]):=by simp[-Xm,← y,aZ]
 clear y;refine qK X (by rfl) (by rfl) (by simp) (by rfl) λw s L=>?_
 replace s:w[h.length]?=some (.row aG 10 [bV i.e]):=s;have K:w.length=h.length+1:=by rw[L.1,Q]
 try simp only[ke]
 rw[K];generalize z:aZ w aG 10 [[.int .i64 0,.int .i64 0,.int .i64 0,.int .i64 0,.aB,.int .i64 0,.int .i64 0,.str [],.str [],.aB]]=C;have ad:h.length≤C.length:=by simp[-Xm,← z,aZ];omega
 have I:∀b,b<h.length+1→C[b]?=w[b]?:=λb A=>by simp only[← z,aZ];rw[eV (by omega)]
 have aa:C[h.length+1]?=some (.row aG 10 [[.int .i64 0,.int .i64 0,.int .i64 0,.int .i64 0,.aB,.int .i64 0,.int .i64 0,.str [],.str [],.aB]]):=by
  simp only[← z,aZ];rw[← K,hV (aX _)];simp[-Xm]
 replace s:=(I h.length (by omega)).trans s;clear z;refine qK aa (by rfl) (by rfl) (by simp) (by rfl) λp E F=>?_
 replace E:p[h.length+1]?=some (.row aG 10 [bV j.e]):=E;replace s:=(F.2 h.length (by omega)).trans s;have P:∀b,b<h.length→p[b]?=h[b]?:=λb A=>(((F.2 b (by omega)).trans (I b (by omega))).trans (L.2 b (by omega))).trans (N b A)
 have T:h.length≤p.length:=by have:=F.1;omega
 have k:p.row h.length 0=some (bV i.e):=dT s;have l:p.row (h.length+1) 0=some (bV j.e):=dT E;have f:∀v:Bool,scope h p (.bool v)=some (.bool v,h):=λv=>iu (by simp) (.bool v) T P
 obtain⟨ab,a⟩:=i;obtain⟨ac,c⟩:=j;by_cases d:ab=ac
 case neg=>exact⟨_,by simp[-Xm,d,f,jk],rfl⟩
 by_cases g:a.a0=c.a0
 case neg=>exact⟨_,by simp[-Xm,d,g,f,jk,jN,k,l,bV],rfl⟩
 by_cases m:a.a1=c.a1
 case neg=>exact⟨_,by simp[-Xm,d,g,m,f,jk,jN,k,l,bV],rfl⟩
 by_cases o:a.a2=c.a2
 case neg=>exact⟨_,by simp[-Xm,d,g,m,o,f,jk,jN,k,l,bV],rfl⟩
 by_cases q:a.a3=c.a3
 case neg=>exact⟨_,by simp[-Xm,d,g,m,o,q,f,jk,jN,k,l,bV],rfl⟩
 by_cases r:a.a5=c.a5
 case neg=>exact⟨_,by simp[-Xm,d,g,m,o,q,r,f,jk,jN,k,l,bV],rfl⟩
 by_cases t:a.a6=c.a6
 case neg=>exact⟨_,by simp[-Xm,d,g,m,o,q,r,t,f,jk,jN,k,l,bV],rfl⟩
 by_cases u:a.s7=c.s7
 case neg=>exact⟨_,by simp[-Xm,d,g,m,o,q,r,t,u,f,jk,jN,k,l,bV],rfl⟩
 by_cases x:a.s8=c.s8
 case neg=>exact⟨_,by simp[-Xm,d,g,m,o,q,r,t,u,x,f,jk,jN,k,l,bV],rfl⟩
 have G:=Vg a.ls c.ls a.ld c.ld p a.fZ c.fZ a.rW;have M:=Jy a.fs c.fs a.fd c.fd p a.gk c.gk a.hl;by_cases D:a.ls=c.ls
 case neg=>exact⟨_,by simp[-Xm,d,g,m,o,q,r,t,u,x,D,f,jk,jN,k,l,bV,G],rfl⟩
 by_cases H:a.fs=c.fs
 case neg=>exact⟨_,by simp[-Xm,d,g,m,o,q,r,t,u,x,D,H,f,jk,jN,k,l,bV,G,M],rfl⟩
 exact⟨_,by simp[-Xm,d,g,m,o,q,r,t,u,x,D,H,f,jk,jN,k,l,bV,G,M],rfl⟩
def idx{b:Type}(a:b→Bool):Nat→List b→Int
 |_,[] => -1
 |k,x::r=>if a x=true then k else idx a (k+1) r
theorem Bl{b:Type}(a:b→Bool):∀(l:List b) (k:Nat),decide (0≤idx a k l)=l.any a
 |[],k=>by simp[-Xm,idx]
 | x::r,k=>by
  unfold idx;by_cases h:a x=true
  ·simp[-Xm,h]
  ·simp[-Xm,h,Bl a r]
theorem G6{zs:List Int}{d:D}(a:kM .u8 zs d):aT tab j7 d=some (.int .i64 zs.length):=by
 rcases a with⟨rfl,rfl⟩|rfl
 ·rfl
 ·simp[-Xm,ints]
theorem Qv{zs:List Int}{d:D}(b:kM .u8 zs d)(i:Nat)(z:Int)(a:zs[i]?=some z):aQ tab j7 d (.int .i64 i)=some (.aI [.int .u8 z]):=by
 rcases b with⟨rfl,rfl⟩|rfl
 ·cases a
 ·simp[-Xm,ints,a]
theorem VE(h:J)(o k f:Nat)(v:D):bT tab h U (.ptr o k f) v=jL 1 h (.ptr o k f) v:=rfl
def nx(n:Int):List Int→Int × List Int
 |[]=>(0,[])
 |z::r=>if n<1 then(0,z::r)else(z*n / 256,r)
def blank(l:dJ):dJ:={ l with eD:=[] }
theorem wC{h:J}{a T z:Nat}{cs:List D}(c:h[a]?=some (.row T z [cs]))(b:cs.length=10):aA tab h aG (.ptr a 0 0)=some (.agg cs):=by
 rw[BB,dT c];simp[-Xm,pw,b];exact iz (by omega)
theorem qp{h:J}{a T z:Nat}{cs:List D}(c:h[a]?=some (.row T z [cs]))(b:cs.length=11):aA tab h aF (.ptr a 0 0)=some (.agg cs):=by
 rw[r2,dT c];simp[-Xm,pw,b];exact iz (by omega)
theorem Vh(n:Int)(h:J):R wm [.int .i64 n] h=some (.bool false,h):=by
 rw[N7];simp[-Xm,ET]
def kZ(a b:Int):Int:=if a<b then -1 else if b<a then 1 else 0
theorem Vf(a b:Int)(h:J):R wi [.int .i64 a,.int .i64 b] h=some (.int .i64 (kZ a b),h):=by
 rw[N4];simp[-Xm,EN,Vh,kZ];by_cases c:a<b
 ·simp[-Xm,c]
 ·by_cases d:b<a<;>simp[-Xm,c,d]
def lg(c:Int):Bool:=(decide (97≤c)&&decide (c≤122))||(decide (65≤c)&&decide (c≤90))
def rv(c:Int):Bool:=decide (48≤c)&&decide (c≤57)
def oi(c:Int):Bool:=(rv c||lg c)||decide (c=95)
theorem w6(c:Int)(h:J):R vN [.int .u8 c] h=some (.bool (lg c),h):=by
 rw[MQ];simp[-Xm,Df,lg];by_cases a:97≤c<;>by_cases b:c≤122<;>by_cases d:65≤c<;>by_cases e:c≤90<;>simp[-Xm,a,b,d,e]
theorem Uz(c:Int)(h:J):R zh [.int .u8 c] h=some (.bool (rv c),h):=by
 rw[MS];simp[-Xm,Dh,rv];by_cases a:48≤c<;>by_cases b:c≤57<;>simp[-Xm,a,b]
theorem Cm(c:Int)(h:J):R zg [.int .u8 c] h=some (.bool (oi c),h):=by
 rw[MR];cases a:rv c<;>cases b:lg c<;>simp[-Xm,Dg,Uz,w6,oi,a,b]
def kn(c:UInt8):Bool:=oi c.toNat||decide ((c.toNat:Int)=46)
def gK(s:aD):Bool:=match s with
 |[]=>false
 |c::a=>decide ((c::a).length≤32)&&(lg c.toNat||decide ((c.toNat:Int)=95))&&(c::a).all kn
theorem CF(s:aD)(i:Nat)(c:UInt8)(a:s[i]?=some c):lE tab bP (.str s) (.int .i64 i)=some (.int .u8 c.toNat):=by
 show(if(0:Int)≤(i:Int)then(match s[(i:Int).toNat]? with|some c=>some (D.int .u8 c.toNat)|none=>none)else none)=_;simp[-Xm,a]
theorem RF(s:aD)(h:J)(x:s.length≤9223372036854775807){q:Type}(g:bN→Option q)(X:Bool→Option q)
   (u:∀r,g (.ret,.bool false::r,h)=X false) (v:∀r,g (.ext 0,r,h)=X true):∀(f c:aD),s=c++f→∀a b e,
   (cA (qO (.str s)) [a,.int .i64 c.length,b,e] h).bind g=X (f.all kn):=by
 intro f
 induction f with
 | nil =>
  rintro c rfl a b e;rw[jJ];simp[-Xm,qO,v]
 | cons d f p =>
  rintro c rfl a b e;have o:IntKind.wrap .i64 ((c.length:Int)+1)=(c++[d]).length:=by
   rw[cN (by omega) (by simp at x;omega)];simp[-Xm]
  have l:(c.length:Int)<(c++d::f).length:=by simp;omega
  rw[jJ];generalize j:c++d::f=n at *;have w:n[c.length]?=some d:=by rw[← j];exact rT _ _ _
  have k:=CF n c.length d w;cases m:oi d.toNat
  ·by_cases i:(d.toNat:Int)=46
   ·have:=p (c++[d]) (by simp[-Xm,← j]) a (.bool true) (.bool (decide ((d.toNat:Int)≠46)));simp only[← o]at this;have t:oi 46=false:=rfl;simp[-Xm,qO,l,k,Cm,m,kn,i,t];simp[-Xm,i]at this;exact this
   ·simp[-Xm,qO,l,k,Cm,m,kn,i,u]
  ·have:=p (c++[d]) (by simp[-Xm,← j]) a (.bool true) (.bool false);simp only[← o]at this;simp[-Xm,qO,l,k,Cm,m,kn];exact this
theorem Uy(s:aD)(h:J)(m:s.length≤9223372036854775807):R zf [.str s] h=some (.bool (gK s),h):=by
 rw[MP];cases s with
 |nil=>simp[-Xm,qN,gK]
 | cons a c =>
  have g:lE tab bP (.str (a::c)) (.int .i64 0)=some (.int .u8 a.toNat):=CF (a::c) 0 a rfl;have e:¬((a::c).length:Int)<1:=by simp;omega
  have i:=RF (a::c) h m (λb=>(some (bQ 0 b.1,[Z 0 b.2.1,Z 1 b.2.1,Z 2 b.2.1,Z 3 b.2.1],b.2.2)).bind λb=>toEnd b.1 (some (.bool true,b.2.2)) λn=>dD n (some (Z 0 b.2.1,b.2.2))) (λl=>some (.bool l,h)) (λc=>by simp) (λc=>by simp) (a::c) [] rfl;simp only[W]at i;by_cases f:(32:Int)<((a::c).length:Int)
  ·have d:¬(a::c).length≤32:=by omega
   simp only[qN,W,gm,cI,cZ,bL,bI,f,e,bK,bG,fS,aK,bR,aJ,aL,aP,reduceCtorEq,gK,d,lS,eL,W]
  ·have d:(a::c).length≤32:=by omega
   cases j:lg a.toNat
   ·by_cases k:(a.toNat:Int)=95
    ·simp only[qN,W,gm,cI,cZ,bL,bI,f,e,bK,bG,fS,aK,bR,aJ,aL,aP,reduceCtorEq,gK,d,lS,g,w6,j,show lg 95=false from rfl,fK,fO,dE,k,dC,eA,aU];refine(i _ _ _).trans ?_;simp[-Xm,kn]
    ·simp only[qN,W,gm,cI,cZ,bL,bI,f,e,bK,bG,fS,aK,bR,aJ,aL,aP,reduceCtorEq,gK,d,lS,g,w6,j,fK,fO,dE,k,dC,eA,fy,Bool.or_false,uL]
   ·simp only[qN,W,gm,cI,cZ,bL,bI,f,e,bK,bG,fS,aK,bR,aJ,aL,aP,reduceCtorEq,gK,d,lS,g,w6,j,fK,eY,eL,aU];refine(i _ _ _).trans ?_;simp[-Xm,kn]
def uK(l:List (aD × aD)):Prop:=∀c a b,l[c]?=some a→l[c+1]?=some b→Op.bytesLess a.1 b.1=true∧a.1≠b.1
theorem Vp(t:Nat)(s a:aD):V tab .gtr t (.str s) (.str a)=some (.bool (!(Op.bytesLess s a||s==a))):=id rfl
theorem rE(p:aD × aD):(aC tab bB 0 (.aI (aN p)))=some (.aI (aN p)):=id rfl
theorem rF(p:aD × aD)(h:J):aA tab h bP (.aI (aN p))=some (.str p.1):=id rfl
theorem RA(l:List dJ)(d:D)(fn:D)(j:dJ→Bool)(h:J)(o:aR 3 bC l d)(z:l.length≤9223372036854775807)(p:∀x,gu R fn [.agg (bC x)] h=some (.bool (j x),h)){t:Type}(k:bN→Option t)(X:Int→Option t)
   (w:∀v r,k (.ret,.int .i64 v::r,h)=X v) (y:∀r,k (.ext 0,r,h)=X (-1)):∀(i c:List dJ),l=c++i→∀a b e f,
   (cA (nI d fn (.int .i64 l.length)) [a,b,.int .i64 c.length,e,f] h).bind k=X (idx j c.length i):=by
 intro i
 induction i with
 | nil =>
  rintro c rfl a b e f;rw[jJ];simp[-Xm,nI,y,idx]
 | cons g i B =>
  rintro c rfl a b e f;have A:IntKind.wrap .i64 ((c.length:Int)+1)=(c++[g]).length:=by
   rw[cN (by omega) (by simp at z;omega)];simp[-Xm]
  have s:(c.length:Int)<(c++g::i).length:=by simp;omega
  rw[jJ];generalize n:c++g::i=u at *;have q:u[c.length]?=some g:=by rw[← n];exact rT _ _ _
  by_cases m:j g=true
  ·simp[-Xm,nI,mc o,s,q,oZ,p,m,w,idx]
  ·have:=B (c++[g]) (by simp[-Xm,← n]) a (.int .i64 c.length) (.bool true) (.bool (j g));simp only[← A]at this;simp[-Xm,nI,mc o,s,q,oZ,p,m,idx];simp[-Xm,m]at this;exact this
theorem Jj(l:List dJ)(d:D)(fn:D)(a:dJ→Bool)(h:J)(b:aR 3 bC l d)(f:l.length≤9223372036854775807)(e:∀x,gu R fn [.agg (bC x)] h=some (.bool (a x),h)):
   R rH [d,fn] h=some (.int .i64 (idx a 0 l),h):=by
 rw[Gc];simp only[xy,W,ji b,aU];rw[show(0:Int)=(([]:List dJ).length:Int)from rfl,RA l d fn a h b f e _ (λc=>some (.int .i64 c,h)) (λc g=>by simp) (λg=>by simp) l [] rfl];rfl
theorem Fq{T:cT}{t e:Nat}{i j:TI}(g:T t=Option.some i)(hi:i.td = .sl e)(b:T e=Option.some j)(l:0<j.Y){h:J}{ys:List (List D)}{y:D}(k:jH h j.Y y=Option.some ys)(c:lim ys.length j.gI=true):
  ∃x' h',cW T h t t (.sl j.Y true []) y=Option.some (x',h')∧h.length≤h'.length∧(∀a,a<h.length→h'[a]?=h[a]?)∧((x' = .sl j.Y true []∧ys=[])∨Own h' h.length e j.Y ys x'):=by
 have m:Nat.blt 0 j.Y=true:=jX l;have f:k0 h i j y=Option.some ys:=by simp[-Xm,k0,hi,k]
 unfold cW;simp only[g,hi,b,m,f];cases ys with
 |nil=>exact⟨_,_,rfl,aX _,λ_ _=>rfl,.inl ⟨rfl,rfl⟩⟩
 | cons n o =>
  simp only[eJ,dF,c,gX,aJ,jE,true_and];exact⟨_,_,rfl,by simp[-Xm,aZ],λa d=>by simp only[aZ];rw[eV d],.inr (.inr ⟨h.length,aX _,rfl,by simp[-Xm,aZ]⟩)⟩
def tQ:It:=⟨[],⟨0,0,0,0,[],.aB,0,0,[],[],[],.aB,aR.aB _ _,by simp,aR.aB _ _,by simp⟩⟩
def inr(n:Int):List D:=[.int .i64 n]
def ll:List Int→Int
 |[]=>0
 |x::r=>if x=0 then ll r else x
theorem RM(l:List Int)(d:D)(h:J)(m:aR 1 inr l d)(x:l.length≤9223372036854775807){s:Type}(j:bN→Option s)(X:Int→Option s)
   (u:∀v r,j (.ret,.int .i64 v::r,h)=X v) (w:∀r,j (.ext 0,r,h)=X 0):∀(g c:List Int),l=c++g→∀n:Int,n=c.length→∀a b e f,
   (cA (sB (.int .i64 0) d (.int .i64 l.length)) [a,b,.int .i64 n,e,f] h).bind j=X (ll g):=by
 intro g
 induction g with
 | nil =>
  rintro c rfl n rfl a b e f;rw[jJ];simp[-Xm,sB,w,ll]
 | cons i g z =>
  rintro c rfl n rfl a b e f;have y:IntKind.wrap .i64 ((c.length:Int)+1)=(c++[i]).length:=by
   rw[cN (by omega) (by simp at x;omega)];simp[-Xm]
  have p:(c.length:Int)<(c++i::g).length:=by simp;omega
  rw[jJ];generalize k:c++i::g=t at *;have o:t[c.length]?=some i:=by rw[← k];exact rT _ _ _
  by_cases q:i=0
  ·subst q;have:=z (c++[0]) (by simp[-Xm,← k]) _ rfl a (.int .i64 0) (.bool true) (.bool false);simp only[← y]at this;simp[-Xm,sB,me m,p,o,inr,ll];exact this
  ·simp[-Xm,sB,me m,p,o,inr,q,u,ll]
theorem Ve(l:List Int)(d:D)(h:J)(a:aR 1 inr l d)(c:l.length≤9223372036854775807):R zz [d] h=some (.int .i64 (ll l),h):=by
 rw[N3];simp only[EM,W,lJ a,aU];rw[RM l d h a c _ (λb=>some (.int .i64 b,h)) (λb e=>by simp) (λe=>by simp) l [] rfl 0 rfl]
theorem Iw(o pos:Nat)(zs:List Int)(d:D)(h:J)(b:h[o]?=some (.row jO 2 [[d,.int .i64 pos]]))(a:kM .u8 zs d):R zx [.ptr o 0 0] h=some (.bool (decide (pos<zs.length)),h):=by
 rw[NZ];simp[-Xm,EH,J.row,b,G6 a]
def CM(h:J)(o:Nat):Prop:=∃(b:D) (a:List Int) (c:Nat),h[o]?=some (.row jO 2 [[b,.int .i64 c]])∧kM .u8 a b∧a.length≤400∧c≤400∧∀d∈a,0≤d∧d<256
theorem CM.bH{h h':J}{o:Nat}(b:CM h o)(c:h'[o]?=h[o]?):CM h' o:=by
 obtain⟨a,g,f,d,e⟩:=b;exact⟨a,g,f,by rw[c];exact d,e⟩
theorem CM.lt{h:J}{o:Nat}(a:CM h o):o<h.length:=by
 obtain⟨c,f,e,b,d⟩:=a;exact(bO.1 b).1
theorem CM.ok{h:J}{o:Nat}(e:CM h o)(n:Nat):∀T Y rows,h[o]?=some (.row T Y rows)→∀row∈rows,∀d∈row,Ok n d:=by
 obtain⟨d,k,i,g,f,_⟩:=e;intro T Y rows a row b j c;rw[g]at a;injection a with a;injection a with _ _ a;subst a;simp at b;subst b;simp at c;rcases c with rfl|rfl
 ·exact Qw f n
 ·exact .int _ _
theorem gv{h:J}{o:Nat}(r:CM h o)(n:Int)(B:1≤n)(C:n≤1000000000):∃v h',R fN [.ptr o 0 0,.int .i64 n] h=some (.int .i64 v,h')∧CM h' o∧bW o h h'∧0≤v∧v<n:=by
 obtain⟨c,b,a,e,d,k,u,i⟩:=r;have s:¬n<1:=by omega
 have t:¬n=0:=by omega
 by_cases g:a<b.length
 ·have j:b[a]?=some b[a]:=cJ g;have l:=i b[a] (ou _);generalize b[a]=f at j l;have x:IntKind.wrap .i64 ((a:Int)+1)=(a:Int)+1:=cN (by omega) (by omega);have y:IntKind.wrap .i64 ((a:Int)+1 - 1)=(a:Int):=by rw[cN (by omega) (by omega)];omega
  have z:IntKind.wrap .i64 (a:Int)=(a:Int):=cN (by omega) (by omega);have A:IntKind.wrap .i64 f=f:=cN (by omega) (by omega);have m:o<h.length:=(bO.1 e).1;have w:∀X,(h.set o X)[o]?=some X:=λX=>lx m
  have p:=Int.tmod_nonneg n l.1;have q:=Int.tmod_lt_of_pos f (show 0<n by omega);refine⟨f.tmod n,h.set o (.row jO 2 [[c,.int .i64 ((a+1:Nat):Int)]]),?_,⟨c,b,a+1,by simp[-Xm,m],d,k,by omega,i⟩,⟨by simp,λF E=>by rw[jS (by omega)]⟩,p,q⟩;rw[Gk];simp[-Xm,ya,Iw o a b c h e d,g,s,t,J.row,e,VE,jL,D.fT,cP,D.one,dQ,x,y,z,Qv d a f j,A,w]
 ·refine⟨0,h,?_,⟨c,b,a,e,d,k,u,i⟩,.refl _ _,by omega,by omega⟩;rw[Gk];simp[-Xm,ya,Iw o a b c h e d,g]
theorem Tj{h:J}{o:Nat}(f:CM h o)(l:List aD)(d:D)(a:aR 1 (λs=>[.str s]) l d)(n:1≤l.length)(h2:l.length≤1000):∃s h',R gD [.ptr o 0 0,d] h=some (.str s,h')∧CM h' o∧bW o h h'∧s∈l:=by
 obtain⟨k,h',e,c,j,b,m⟩:=gv f l.length (by omega) (by omega);obtain⟨s,i,g⟩:=IH l k b m;refine⟨s,h',?_,c,j,i⟩;rw[NW];simp[-Xm,EC,R8 a,e,Rx a,b,g]
theorem kF{h:J}{o:Nat}(g:CM h o)(l:List aD)(m:Nat)(i:∀s∈l,s.length≤m)(e:1≤l.length)(h2:l.length≤1000){b:Type}{f:D × J→Option b}{Q:b→Prop}
  (k:∀s h',CM h' o→bW o h h'→s∈l→s.length≤m→Wp (f (.str s,h')) Q):Wp ((R gD [.ptr o 0 0,.sl 1 true (l.map λs=>[.str s])] h).bind f) Q:=by
 obtain⟨s,h',d,c,j,a⟩:=Tj g l _ (.mk _ _ _ _) e h2;rw[d];exact k s h' c j a (i s a)
theorem pY(t:Nat){s a:aD}(c:s.length≤1000000000)(d:a.length≤1000000000){b:Type}{f:D→Option b}{Q:b→Prop}(k:∀v:aD,v.length=s.length+a.length→Wp (f (.str v)) Q):Wp ((V tab .add t (.str s) (.str a)).bind f) Q:=by
 rw[LV _ _ _ _ (by omega)];exact k _ (by simp)
theorem Ia{h:J}{o:Nat}(v:CM h o)(b:Int)(F:0≤b)(G:b≤20):∃s h',R tJ [.ptr o 0 0,.int .i64 b] h=some (.str s,h')∧CM h' o∧bW o h h'∧s.length≤80:=by
 suffices Wp (R tJ [.ptr o 0 0,.int .i64 b] h) (λk=>∃s,k.1 = .str s∧CM k.2 o∧bW o h k.2∧s.length≤80) by
  obtain⟨⟨C,h'⟩,p,s,rfl,u⟩:=this;exact⟨s,h',p,u⟩
 rw[N2];have r:=cN (n:=b+1) (by omega) (by omega);simp only[EK,W,aU,cY,r];obtain⟨z,p,t,i,y,A,K⟩:=gv v (b+1) (by omega) (by omega);refine Wp.step t ?_;simp only[W];refine Wp.loop (λa j e=>∃s c,j=[.str s,.int .i64 a,c]∧CM e o∧bW o h e∧a≤20∧s.length+4*a≤80) (λf=>f.1 = .ext 0∧∃s c l,f.2.1=[.str s,c,l]∧CM f.2.2 o∧bW o h f.2.2∧s.length≤80) z.toNat ⟨[],.any,by rw[Int.toNat_of_nonneg A],i,y,by omega,by simp;omega⟩ ?_ ?_
 ·rintro a j e ⟨s,c,rfl,d,g,E,q⟩;simp only[EL,bD,bY,W,cZ];refine Wp.dS ?_ ?_
  ·intro m;have m:0<(a:Int):=by simpa using m
   simp only[S8,W];refine kF d H5 4 (by decide) (by decide) (by decide) λI D i x _ H=>?_
   simp only[W];refine pY _ (by omega) (by omega) λB r=>?_
   have w:IntKind.wrap .i64 ((a:Int) - 1)=((a - 1:Nat):Int):=by
    rw[cN (by omega) (by omega)];omega
   simp only[W,eH,w];exact .some (.inl ⟨rfl,a - 1,by omega,B,_,rfl,i,g.trans x,by omega,by omega⟩)
  ·intro _;exact .some (.inr ⟨by simp,rfl,s,_,_,rfl,d,g,by omega⟩)
 ·rintro⟨C,j,e⟩ ⟨rfl,s,c,l,rfl,d,g,q⟩;simp only[dV,cL,bD,W,bR];exact .some ⟨s,rfl,d,g,q⟩
theorem Tm{h:J}{o:Nat}(v:CM h o):∃s h',R wh [.ptr o 0 0] h=some (.str s,h')∧CM h' o∧bW o h h'∧s.length≤200:=by
 suffices Wp (R wh [.ptr o 0 0] h) (λg=>∃s,g.1 = .str s∧CM g.2 o∧bW o h g.2∧s.length≤200) by
  obtain⟨⟨B,h'⟩,m,s,rfl,u⟩:=this;exact⟨s,h',m,u⟩
 rw[N0];simp only[EI,W,aU,SF,SH,SJ,SL,SN,SP,SR,SU,SX,SZ,S1,S3,S5,S7];obtain⟨y,m,l,e,a,z,A⟩:=gv v 8 (by omega) (by omega);refine Wp.step l ?_;clear l;simp only[fa,W];have f:∀(s:aD) (c:J),CM c o→bW o h c→s.length≤200→Wp (some ((.str s:D),c)) (λg=>∃s,g.1 = .str s∧CM g.2 o∧bW o h g.2∧s.length≤200):=λs c n p q =>.some ⟨s,rfl,n,p,q⟩
 refine Wp.dS (λ_=>?_) (λ_=>?_)
 ·repeat first
    | (refine kF (by assumption) _ 8 (by decide) (by decide) (by decide) λj c e b _ i=>?_
       replace a:=a.trans b;clear b
       try simp only[W])
    | (refine pY _ (by first|omega|(simp[-Xm];omega)|simp[-Xm]) (by first|omega|(simp[-Xm];omega)|simp[-Xm]) λk d=>?_
       try simp only[eP,eJ]at d
       try simp only[W])
  try simp only[bR]
  exact f _ _ (by assumption) a (by omega)
 refine Wp.dS (λ_=>?_) (λ_=>?_)
 ·repeat first
    | (refine kF (by assumption) _ 8 (by decide) (by decide) (by decide) λj c e b _ i=>?_
       replace a:=a.trans b;clear b
       try simp only[W])
    | (refine pY _ (by first|omega|(simp[-Xm];omega)|simp[-Xm]) (by first|omega|(simp[-Xm];omega)|simp[-Xm]) λk d=>?_
       try simp only[eP,eJ]at d
       try simp only[W])
  try simp only[bR]
  exact f _ _ (by assumption) a (by omega)
 refine Wp.dS (λ_=>?_) (λ_=>?_)
 ·repeat first
    | (refine kF (by assumption) _ 8 (by decide) (by decide) (by decide) λj c e b _ i=>?_
       replace a:=a.trans b;clear b
       try simp only[W])
    | (refine pY _ (by first|omega|(simp[-Xm];omega)|simp[-Xm]) (by first|omega|(simp[-Xm];omega)|simp[-Xm]) λk d=>?_
       try simp only[eP,eJ]at d
       try simp only[W])
  try simp only[bR]
  exact f _ _ (by assumption) a (by omega)
 refine Wp.dS (λ_=>?_) (λ_=>?_)
 ·repeat first
    | (refine kF (by assumption) _ 8 (by decide) (by decide) (by decide) λj c e b _ i=>?_
       replace a:=a.trans b;clear b
       try simp only[W])
    | (refine pY _ (by first|omega|(simp[-Xm];omega)|simp[-Xm]) (by first|omega|(simp[-Xm];omega)|simp[-Xm]) λk d=>?_
       try simp only[eP,eJ]at d
       try simp only[W])
  try simp only[bR]
  exact f _ _ (by assumption) a (by omega)
 refine Wp.dS (λ_=>?_) (λ_=>?_)
 ·repeat first
    | (refine kF (by assumption) _ 8 (by decide) (by decide) (by decide) λj c e b _ i=>?_
       replace a:=a.trans b;clear b
       try simp only[W])
    | (refine pY _ (by first|omega|(simp[-Xm];omega)|simp[-Xm]) (by first|omega|(simp[-Xm];omega)|simp[-Xm]) λk d=>?_
       try simp only[eP,eJ]at d
       try simp only[W])
  try simp only[bR]
  exact f _ _ (by assumption) a (by omega)
 refine Wp.dS (λ_=>?_) (λ_=>?_)
 ·repeat first
    | (refine kF (by assumption) _ 8 (by decide) (by decide) (by decide) λj c e b _ i=>?_
       replace a:=a.trans b;clear b
       try simp only[W])
    | (refine pY _ (by first|omega|(simp[-Xm];omega)|simp[-Xm]) (by first|omega|(simp[-Xm];omega)|simp[-Xm]) λk d=>?_
       try simp only[eP,eJ]at d
       try simp only[W])
  try simp only[bR]
  exact f _ _ (by assumption) a (by omega)
 obtain⟨s,c,t,r,w,x⟩:=Ia e 6 (by omega) (by omega);simp only[t,W,bR];exact f _ _ r (a.trans w) (by omega)
structure Sm (h0:J) (o:Nat) (g:J):Prop where
 lt:o<h0.length
 cd:CM g o
 gr:nJ h0.length o h0 g
theorem Sm.refl{h:J}{o:Nat}(a:CM h o):Sm h o h:=⟨a.lt,a,.refl _ _ _⟩
theorem Sm.next{a g g':J}{o:Nat}(s:Sm a o g)(b:CM g' o)(c:bW o g g'):Sm a o g':=⟨s.lt,b,s.gr.trans c.grow⟩
theorem Sm.app{b g g':J}{o:Nat}(s:Sm b o g)(d:g.length≤g'.length)(c:∀a,a<b.length→g'[a]?=g[a]?):Sm b o g':=⟨s.lt,s.cd.bH (c o s.lt),s.gr.trans ⟨d,λa e _=>c a e⟩⟩
theorem Sm.le{a g:J}{o:Nat}(s:Sm a o g):a.length≤g.length:=s.gr.1
theorem Sm.scope{a g:J}{o:Nat}(s:Sm a o g){d d':D}(f:cV a.length g 4 d=d')(h:Ok a.length d'):∃h',scope a g d=some (d',h')∧CM h' o∧bW o a h':=by
 obtain⟨b,c,e⟩:=Vl f h s.gr (s.cd.ok a.length);exact⟨_,b,s.cd.bH (e o s.lt),c⟩
def gw:Int→List dJ→Int→Prop
 |a,[],b=>a=b
 |a,l::r,b=>l.off=a∧1≤l.len∧l.len≤20∧l.eD.length≤200∧gw (a+l.len) r b
theorem Ii:∀(f:List dJ) (a b:Int) (l:dJ),gw a f b→l.off=b→1≤l.len→l.len≤20→l.eD.length≤200→gw a (f++[l]) (b+l.len)
 | [],a,b,l,h,c,h2,d,e=>by
  simp only[gw]at h;subst h;exact⟨c,h2,d,e,rfl⟩
 |x::r,a,b,l,h,c,h2,d,e=>⟨h.1,h.2.1,h.2.2.1,h.2.2.2.1,Ii r _ b l h.2.2.2.2 c h2 d e⟩
theorem mi:∀(c:List dJ) (a b:Int),gw a c b→a+c.length≤b∧b≤a+20*c.length
 |[],a,b,h=>by simp[-Xm,gw]at h;simp[-Xm];omega
 | x::r,a,b,h=>by
  have:=mi r _ b h.2.2.2.2;have:=h.2.1;have:=h.2.2.1;simp only[eP];omega
theorem RY{h:J}{a T z:Nat}{cs:List D}(c:h[a]?=some (.row T z [cs]))(b:cs.length=3):aA tab h bS (.ptr a 0 0)=some (.agg cs):=by
 rw[BC,dT c];simp[-Xm,pw,b];exact iz (by omega)
theorem lN(g:J)(T z:Nat)(rows:List (List D)):(aZ g T z rows)[g.length]?=some (.row T z rows):=by simp[-Xm,aZ]
theorem lO(g:J)(T z:Nat)(rows:List (List D)){a:Nat}(b:a<g.length):(aZ g T z rows)[a]?=g[a]?:=by
 simp only[aZ];rw[eV b]
theorem hN(g:J)(T z:Nat)(rows:List (List D)):(aZ g T z rows).length=g.length+1:=by simp[-Xm,aZ]
theorem Tl{h:J}{o:Nat}(ac:CM h o)(fr:Int)(ba:0≤fr)(bb:fr≤1000000)(p:Int)(bg:1≤p)(bh:p≤10):∃x h',R wg [.ptr o 0 0,.int .i64 fr,.int .i64 p,.bool true] h=some (x,h')∧CM h' o∧bW o h h'∧∃b e,aR 3 bC b x∧gw fr b e∧1≤b.length∧b.length≤p.toNat:=by
 suffices Wp (R wg [.ptr o 0 0,.int .i64 fr,.int .i64 p,.bool true] h) (λP=>CM P.2 o∧bW o h P.2∧∃b e,aR 3 bC b P.1∧gw fr b e∧1≤b.length∧b.length≤p.toNat) by
  obtain⟨⟨x,h'⟩,X,ao⟩:=this;exact⟨x,h',X,ao⟩
 rw[NY];simp only[EF,W,aU];obtain⟨H,X,u,I,F,bk,bl⟩:=gv ac p (by omega) (by omega);have r:=(Sm.refl ac).next I F;refine Wp.step u ?_;clear u;have az:=cN (n:=1+H) (by omega) (by omega);simp only[cY,az,W];refine Wp.loop (λk K v=>∃(d:Int) (x i s t:D) (b:List dJ),K=[.int .i64 d,x,.int .i64 k,i,s,t]∧Sm h o v∧Own v h.length bS 3 (b.map bC) x∧gw fr b d∧b.length+k=(1+H).toNat)
  (λE=>E.1 = .ext 0∧∃(i x s t S e:D) (d:Int) (b:List dJ),E.2.1=[i,x,s,t,S,e]∧Sm h o E.2.2∧Own E.2.2 h.length bS 3 (b.map bC) x∧gw fr b d∧b.length=(1+H).toNat)
  (1+H).toNat ⟨fr,.aB,.any,.any,.any,[],by rw[Int.toNat_of_nonneg (by omega)],r,Own.aB _ _ _ _,rfl,by simp⟩ ?_ ?_
 ·rintro k K v ⟨d,x,i,s,t,b,rfl,m,f,y,bc⟩;simp only[EG,bD,bY,W,cZ];refine Wp.dS ?_ ?_
  ·intro w;have w:0<(k:Int):=by simpa using w
   have a9:=mi _ _ _ y;obtain⟨j,c,u,I,F,bi,bj⟩:=gv m.cd 20 (by omega) (by omega);have r:=m.next I F;replace f:=f.same F m.lt;refine Wp.step u ?_;clear u;have a0:=cN (n:=1+j) (by omega) (by omega);have N:∀a,x.e9 a→a<c.length:=λa g=>(f.lt g).2
   simp only[cY,a0,W,aU,yE,yJ];generalize B:aZ c bS 3 [[.int .i64 0,.int .i64 0,.str []]]=L;have ag:L[c.length]?=some (.row bS 3 [[.int .i64 0,.int .i64 0,.str []]]):=by rw[← B];exact lN _ _ _ _
   have aa:∀a,a<c.length→L[a]?=c[a]?:=λa g=>by rw[← B];exact lO _ _ _ _ g
   have ae:L.length=c.length+1:=by rw[← B];exact hN _ _ _ _
   clear B;have bf:=r.le;refine CW ag (by rfl) (by rfl) (by simp) (by rfl) λA q l=>?_
   replace q:A[c.length]?=some (.row bS 3 [[.int .i64 d,.int .i64 (1+j),.str []]]):=q;have ab:∀a,a<c.length→A[a]?=c[a]?:=λa g=>(l.2 a (by omega)).trans (aa a g)
   have ar:A.length=c.length+1:=l.1.trans ae;have Q:=r.app (by omega) λa g=>ab a (by omega)
   replace f:Own A h.length bS 3 (b.map bC) x:=f.bH λa _ g=>ab a (N a g)
   clear ag aa ae l;simp only[aK,aJ,aU,W];obtain⟨z,am,T,al,G,ay⟩:=Tm Q.cd;have ah:=Q.next al G;replace f:=f.same G m.lt;have av:o≠c.length:=λad=>by have:=r.lt;omega
   replace q:=(G.2 c.length (Ne.symm av)).trans q;have au:am.length=c.length+1:=G.1.trans ar;refine Wp.step T ?_;clear T;simp only[W,na,dF];refine CX q (by rfl) (by rfl) (by simp) (by rfl) λM C l=>?_
   replace C:M[c.length]?=some (.row bS 3 [bC ⟨d,1+j,z⟩]):=C;have be:M.length=c.length+1:=l.1.trans au;have ai:=ah.app (by omega) λa g=>l.2 a (by omega)
   replace f:Own M h.length bS 3 (b.map bC) x:=f.bH λa _ g=>l.2 a (by have:=N a g;omega)
   clear q l;simp only[W,cL,RY C rfl];rw[show bJ tab bA 1 [0] [.agg (bC ⟨d,1+j,z⟩)]=some (.sl 3 true [bC ⟨d,1+j,z⟩])from id rfl];simp only[W];refine sq (by omega) f (iq _ _ _ _) (by simp;omega) λa7 an a4 a3 ak a2 _=>?_
   have aj:=ai.app a3 ak;have a5:=(a2 c.length (by omega) (λad=>by have:=N _ ad;omega)).trans C;have a6:an.row c.length 0=some (bC ⟨d,1+j,z⟩):=dT a5;have a1:=cN (n:=d+(1+j)) (by omega) (by omega);have aq:IntKind.wrap .i64 ((k:Int) - 1)=((k - 1:Nat):Int):=by
    rw[cN (by omega) (by omega)];omega
   simp only[W,l9,dF,fB,a6,bC,iJ,gx,iK,cY,a1,eH,aq];exact .some (.inl ⟨rfl,k - 1,by omega,d+(1+j),a7,_,_,_,b++[⟨d,1+j,z⟩],rfl,aj,by rw[fV];exact a4,Ii _ _ _ _ y rfl (by simp;omega) (by simp;omega) (by simpa using ay),by simp;omega⟩)
  ·intro w;have w:¬0<(k:Int):=by simpa using w
   exact .some (.inr ⟨by simp,rfl,_,x,_,_,_,_,d,b,rfl,m,f,y,by omega⟩)
 ·rintro⟨a8,K,v⟩ ⟨rfl,i,x,s,t,S,e,d,b,rfl,m,f,y,bd⟩;simp only[dV,cL,bD,bY,W,bR];have af:=jy (n:=3) f (aX _) (λi _=>r3 _ v _ i);obtain⟨h',aw,ap,ax⟩:=m.scope rfl (jA af λi _=>BE _ i);rw[aw];exact .some ⟨ap,ax,b,d,af,y,by omega,by omega⟩
def MF(l:List (aD × aD)):Prop:=(l.map (·.1)).Sublist kD∧∀a∈l,a.2∈pf
theorem Tk{h:J}{o:Nat}(t:CM h o):∃x h',R we [.ptr o 0 0] h=some (x,h')∧CM h' o∧bW o h h'∧∃l,aR 2 aN l x∧MF l:=by
 suffices Wp (R we [.ptr o 0 0] h) (λe=>CM e.2 o∧bW o h e.2∧∃l,aR 2 aN l e.1∧MF l) by
  obtain⟨⟨x,h'⟩,y,I⟩:=this;exact⟨x,h',y,I⟩
 rw[NX];simp only[ED,W,aU,SC,R3,eQ,SB];refine Wp.loop (λu s c=>∃x d m p,∃(a:Nat) (l:List (aD × aD)),s=[x,d,.int .i64 a,m,p]∧Sm h o c∧u+a=4∧Own c h.length bB 2 (l.map aN) x∧(l.map (·.1)).Sublist (kD.take a)∧∀e∈l,e.2∈pf)
  (λk=>k.1 = .ext 0∧∃x d m p w l,k.2.1=[x,d,m,p,w]∧Sm h o k.2.2∧Own k.2.2 h.length bB 2 (l.map aN) x∧MF l) 4 ⟨.aB,.any,.any,.any,0,[],rfl,.refl t,rfl,Own.aB _ _ _ _,by simp,by simp⟩ ?_ ?_
 ·rintro u s c ⟨x,d,m,p,a,l,rfl,f,ac,b,j,q⟩;have S:IntKind.wrap .i64 ((a:Int)+1)=(a+1:Nat):=by
   rw[cN (by omega) (by omega)];omega
  simp only[EE,bD,bY,W,aU,cI];refine Wp.dS ?_ ?_
  ·intro g;have g:a<4:=gS g;have z:kD[a]?=some kD[a]:=cJ g;simp only[Hk,pL,aJ,dY,dH,z,fW,W,ik];obtain⟨ae,y,G,E,B,af,ag⟩:=gv f.cd 3 (by omega) (by omega);have r:=f.next E B;replace b:=b.same B t.lt;refine Wp.step G ?_;simp only[cZ,W];refine Wp.join (P:=λk=>∃x c,∃l:List (aD × aD),k=(.aS,[x],c)∧Sm h o c∧Own c h.length bB 2 (l.map aN) x∧(l.map (·.1)).Sublist (kD.take (a+1))∧∀e∈l,e.2∈pf) ?_ ?_ ?_
   ·intro _;simp only[SD,W];refine kF r.cd pf 8 (by decide) (by decide) (by decide) λX ab F C Q _=>?_
    have v:=r.next F C;replace b:=b.same C t.lt;simp only[W,Fv,Fz];have ad:l.length≤4:=by
     have:=j.length_le;simp at this;omega
    refine xm v.le b (iq _ _ _ _) (by simp;omega) λaa H b T D _ _=>?_
    simp only[W];refine .some ⟨aa,H,l++[(kD[a],X)],rfl,v.app T D,by rw[fV];exact b,?_,?_⟩
    ·rw[gA,z,fV];exact j.append (List.Sublist.refl _)
    ·intro e i;rcases eI.1 i with i|i
     ·exact q e i
     ·simp at i;subst i;exact Q
   ·intro _;refine .some ⟨_,_,l,rfl,r,b,j.trans ?_,q⟩;rw[gA];exact List.sublist_append_left _ _
   ·rintro _ ⟨x,c,l,rfl,f,b,j,q⟩;simp only[gV,cL,bD,cY,W,S];exact .some (.inl ⟨rfl,u - 1,by omega,x,_,_,_,a+1,l,rfl,f,by omega,b,j,q⟩)
  ·intro g;have g:¬a<4:=by
    have:¬(a:Int)<4:=by simpa using g
    omega
   refine .some (.inr ⟨by simp,rfl,x,_,_,_,_,l,rfl,f,b,j.trans (List.take_sublist _ _),q⟩)
 ·rintro⟨x,s,c⟩ ⟨rfl,x,d,m,p,w,l,rfl,f,b,L⟩;simp only[dV,cL,bD,W,bR];have A:=jy (n:=3) b (aX _) (λd _=>vI _ c _ d);obtain⟨h',M,K,N⟩:=f.scope rfl (jA A λd _=>za _ d);exact⟨_,M,K,N,l,A,L⟩
structure sw (e:Ev):Prop where
 h0:0≤e.a0
 h2:e.a0≤2
 f0:0≤e.a1
 f2:e.a1≤2
 a0:0≤e.a2
 a9:e.a2≤100
 ch:gw e.a2 e.ls e.a3
 l1:1≤e.ls.length
 l3:e.ls.length≤3
 t0:0≤e.a5
 t9:e.a5≤255000
 wt:e.a6∈qq
 tr:e.s7∈pd
 st:e.s8∈pe
 fs:MF e.fs
theorem Tg{h:J}{o:Nat}(a4:CM h o):∃e h',R vX [.ptr o 0 0] h=some (.agg (bV e),h')∧CM h' o∧bW o h h'∧sw e:=by
 suffices Wp (R vX [.ptr o 0 0] h) (λaa=>∃e,aa.1 = .agg (bV e)∧CM aa.2 o∧bW o h aa.2∧sw e) by
  obtain⟨⟨ad,h'⟩,y,e,rfl,z⟩:=this;exact⟨e,h',y,z⟩
 have c3:=a4.lt;rw[Nq];simp only[DT,W,aU,Sw,Sz,SA];generalize A:aZ h aG 10 [[.int .i64 0,.int .i64 0,.int .i64 0,.int .i64 0,.aB,.int .i64 0,.int .i64 0,.str [],.str [],.aB]]=K;have j:K[h.length]?=some (.row aG 10 [[.int .i64 0,.int .i64 0,.int .i64 0,.int .i64 0,.aB,.int .i64 0,.int .i64 0,.str [],.str [],.aB]]):=by rw[← A];exact lN _ _ _ _
 have H:Sm h o K:=(Sm.refl a4).app (by rw[← A,hN];omega) λa m=>by rw[← A];exact lO _ _ _ _ m
 have b4:K.length=h.length+1:=by rw[← A];exact hN _ _ _ _
 clear A;obtain⟨p,ct,ar,ai,be,bo,cp⟩:=gv H.cd 3 (by omega) (by omega);refine Wp.step ar ?_;clear ar;simp only[W];obtain⟨q,cu,av,ak,bf,bp,cq⟩:=gv ai 3 (by omega) (by omega);refine Wp.step av ?_;clear av;simp only[W];obtain⟨i,cw,aw,al,bg,cn,cr⟩:=gv ak 6 (by omega) (by omega);refine Wp.step aw ?_;clear aw;simp only[W,nP,cN (n:=10*i) (by omega) (by omega)];obtain⟨k,cx,ax,am,bh,co,cs⟩:=gv al 256 (by omega) (by omega);refine Wp.step ax ?_;clear ax;simp only[W,nP,cN (n:=1000*k) (by omega) (by omega)];obtain⟨cm,cy,ay,an,bi,ah,bq⟩:=gv am 4 (by omega) (by omega);obtain⟨u,ch,b1⟩:=IH qq cm ah bq;refine Wp.step ay ?_;clear ay;simp only[W,Hj,ah,aJ,dH,b1,fW,eB];refine kF an pd 8 (by decide) (by decide) (by decide) λt cz ao bj ce _=>?_
 simp only[W];refine kF ao pe 8 (by decide) (by decide) (by decide) λsm c0 ap bk cb _=>?_
 simp only[W];obtain⟨r,l,az,aq,bl,a0,ba,a5⟩:=Tk ap;refine Wp.step az ?_;clear az;have ci:=qC ba;simp only[W,K9 _ _ _ _ _ _ _ r ci,ke];have G:=((((((be.trans bf).trans bg).trans bh).trans bi).trans bj).trans bk).trans bl;have ag:=H.next aq G;replace j:=(G.2 h.length (by omega)).trans j;have a9:l.length=h.length+1:=G.1.trans b4;clear H ai ak al am an ao ap be bf bg bh bi bj bk bl G;generalize F:aZ l aG 10 [[.int .i64 0,.int .i64 0,.int .i64 0,.int .i64 0,.aB,.int .i64 0,.int .i64 0,.str [],.str [],.aB]]=M;have bb:M[l.length]?=some (.row aG 10 [[.int .i64 0,.int .i64 0,.int .i64 0,.int .i64 0,.aB,.int .i64 0,.int .i64 0,.str [],.str [],.aB]]):=by rw[← F];exact lN _ _ _ _
 have a3:∀a,a<l.length→M[a]?=l[a]?:=λa m=>by rw[← F];exact lO _ _ _ _ m
 have b6:M.length=l.length+1:=by rw[← F];exact hN _ _ _ _
 clear F;refine qK bb (by rfl) (by rfl) (by simp) (by rfl) λE s b=>?_
 replace s:E[l.length]?=some (.row aG 10 [[.int .i64 p,.int .i64 q,.int .i64 (10*i),.int .i64 0,.aB,.int .i64 (1000*k),.int .i64 u,.str t,.str sm,r]]):=s;have N:∀a,a<l.length→E[a]?=l[a]?:=λa m=>(b.2 a (by omega)).trans (a3 a m)
 have a7:E.length=h.length+2:=by have:=b.1;omega
 have I:=ag.app (by omega) λa m=>N a (by omega)
 replace j:=(N h.length (by omega)).trans j;rw[a9]at s ⊢;clear bb a3 b6 b N ag aq a9;have bd:E.row (h.length+1) 0=some [.int .i64 p,.int .i64 q,.int .i64 (10*i),.int .i64 0,.aB,.int .i64 (1000*k),.int .i64 u,.str t,.str sm,r]:=dT s;simp only[W,l8,dF,fB,bd,iJ,gx,iK];obtain⟨x,br,au,aj,C,c,f,B,P,a6,b5⟩:=Tl I.cd (10*i) (by omega) (by omega) 3 (by omega) (by omega);refine Wp.step au ?_;clear au bd;have ae:=I.next aj C;replace s:=(C.2 (h.length+1) (by omega)).trans s;replace j:=(C.2 h.length (by omega)).trans j;have a8:br.length=h.length+2:=C.1.trans a7;have X:=j5 (qC B);simp only[W,mZ,dF];refine pB s (by rfl) (by rw[X.1];rfl) (by simp) X.2 λL w b=>?_
 rw[X.1]at w;replace w:L[h.length+1]?=some (.row aG 10 [[.int .i64 p,.int .i64 q,.int .i64 (10*i),.int .i64 0,x,.int .i64 (1000*k),.int .i64 u,.str t,.str sm,r]]):=w;have af:=ae.app (mI b.1.symm) λa m=>b.2 a (by omega)
 replace j:=(b.2 h.length (by omega)).trans j;have c2:L.length=h.length+2:=b.1.trans a8;clear I ae s b C aj a8 a7;have cl:L.row (h.length+1) 0=some [.int .i64 p,.int .i64 q,.int .i64 (10*i),.int .i64 0,x,.int .i64 (1000*k),.int .i64 u,.str t,.str sm,r]:=dT w;have b0:=mi _ _ _ P;have b8:∃g,c[((c.length:Int) - 1).toNat]?=some g∧g.off+g.len=f:=by
  clear b0 B;have ck:∀(c:List dJ) (D f:Int),gw D c f→1≤c.length→∃g,c[c.length - 1]?=some g∧g.off+g.len=f:=by
   intro c
   induction c with
   |nil=>intro D f _ b3;simp at b3
   | cons ad bc cj =>
    intro D f T _;cases bc with
    | nil =>
     have bu:D+ad.len=f:=T.2.2.2.2;exact⟨ad,rfl,by rw[T.1];exact bu⟩
    | cons c4 bc =>
     obtain⟨g,y,z⟩:=cj _ f T.2.2.2.2 (by simp);exact⟨g,by simpa using y,z⟩
  obtain⟨g,y,z⟩:=ck c _ f P a6;exact⟨g,by rw[show((c.length:Int) - 1).toNat=c.length - 1 by omega];exact y,z⟩
 obtain⟨g,b2,b7⟩:=b8;have cf:=cN (n:=(c.length:Int) - 1) (by omega) (by omega);have cg:=cN (n:=f) (by omega) (by omega);have b9:(0:Int)≤(c.length:Int) - 1:=by omega
 have bx:gY 3 (.agg (bC g))=some (.aI (bC g)):=mP 3 _ rfl;simp only[W,nr,cl,iJ,gx,iK,ji B,eH,cf,mc B,b9,aJ,b2,fW,oZ,bx];simp only[bC,yY,GC,eB,W,cY,b7,cg,nU,dF];refine kr w (by rfl) (by rfl) (by simp) (by rfl) λbt ab b=>?_
 replace ab:bt[h.length+1]?=some (.row aG 10 [[.int .i64 p,.int .i64 q,.int .i64 (10*i),.int .i64 f,x,.int .i64 (1000*k),.int .i64 u,.str t,.str sm,r]]):=ab;have bm:=af.app (mI b.1.symm) λa m=>b.2 a (by omega)
 replace j:=(b.2 h.length (by omega)).trans j;clear w b af;simp only[W,wC ab rfl];refine qK j (by rfl) (by rfl) (by simp) (by rfl) λa1 ac b=>?_
 replace ac:a1[h.length]?=some (.row aG 10 [[.int .i64 p,.int .i64 q,.int .i64 (10*i),.int .i64 f,x,.int .i64 (1000*k),.int .i64 u,.str t,.str sm,r]]):=ac;have bn:=bm.app (mI b.1.symm) λa m=>b.2 a (by omega)
 simp only[W,wC ac rfl,bR];have c1:a0.length≤4:=by
  have:=a5.1.length_le;simpa using this
 generalize a2:(⟨p,q,10*i,f,c,x,1000*k,u,t,sm,a0,r,ba,by omega,B,by omega⟩:Ev)=v;have bw:bV v=[.int .i64 p,.int .i64 q,.int .i64 (10*i),.int .i64 f,x,.int .i64 (1000*k),.int .i64 u,.str t,.str sm,r]:=by rw[← a2];rfl
 have bv:sw v:=by rw[← a2];exact⟨bo,by show p≤2;omega,bp,by show q≤2;omega,by show 0≤10*i;omega,by show 10*i≤100;omega,P,a6,b5,by show 0≤1000*k;omega,by show 1000*k≤255000;omega,ch,ce,cb,a5⟩
 rw[← bw];obtain⟨h',ca,bz,cc⟩:=bn.scope (d :=.agg (bV v)) (d' :=.agg (bV v)) (by
  rw[wv,lL λd Q=>Gu h.length a1 2 v d Q]) (.agg _ λd Q=>Gv _ v d Q)
 rw[ca];exact .some ⟨v,rfl,bz,cc,bv⟩
theorem Cn(n lo hi:Int)(h:J):R rI [.int .i64 n,.int .i64 lo,.int .i64 hi] h=some (.bool (decide (lo≤n)&&decide (n≤hi)),h):=by
 rw[M7];by_cases a:lo≤n<;>simp[-Xm,Dz,a]
def fh(e:Ev):Bool:=(decide (0≤e.a0)&&decide (e.a0≤999))&&((decide (0≤e.a1)&&decide (e.a1≤2147483646))&&(decide (0≤e.a2)&&(decide (e.a2<e.a3)&&decide (e.a3≤60000))))
theorem Jn(e:Ev)(h:J):R vT [.agg (bV e)] h=some (.bool (fh e),h):=by
 rw[M3];have a:=Cn e.a1 0 2147483646 h;simp only[Du,W,jj,bV,mW,mX,lF,hF,eB,Cn e.a0,ju,cZ,ig,fh];generalize (decide (0≤e.a0)&&decide (e.a0≤999))=b;generalize (decide (0≤e.a1)&&decide (e.a1≤2147483646))=c at a ⊢;generalize i:decide (0≤e.a2)=d;generalize j:decide (e.a2<e.a3)=f;generalize k:decide (e.a3≤60000)=g;cases b<;>cases c<;>cases d<;>cases f<;>cases g<;>simp[-Xm,a,i,j,k]
def iE(a b:Int):Int→List dJ→Int
 |_,[]=>0
 |at_,l::r=>if l.off=at_∧¬l.len<1∧¬IntKind.wrap .i64 (a - at_)<l.len∧¬(r=[]∧l.len<IntKind.wrap .i64 (a - at_))then(if b<l.eD.length then 3 else iE a b (IntKind.wrap .i64 (at_+l.len)) r)else 19
def gL(e:Ev)(a:Int):Int:=if e.ls.length=0 then 9 else if 40<e.ls.length then 4 else iE e.a3 a e.a2 e.ls
theorem Jo (e:Ev) (m:Int) (h:J):R vU [.agg (bV e),.int .i64 m] h=some (.int .i64 (gL e m),h):=by
 apply Wp.val;have E:∀(c:J) (u:Int),h.length≤c.length→(∀b,b<h.length→c[b]?=h[b]?)→scope h c (.int .i64 u)=some (.int .i64 u,h):=λc u w x=>iu (by simp) (.int _ _) w x
 rw[M4];simp only[Dv,jj,W,aU,bV,nT,lF,iC,eB,ji e.fZ,fa,cZ,bR];by_cases G:e.ls.length=0
 ·have v:(e.ls.length:Int)=0:=by omega
  simp only[v,bK,aK,aJ,E h _ (aX _) (λ_ _=>rfl)];exact .some (by simp[-Xm,gL,G])
 by_cases ac:40<e.ls.length
 ·have v:¬(e.ls.length:Int)=0:=by omega
  have I:(40:Int)<(e.ls.length:Int):=by omega
  simp only[v,I,bK,bG,aP,aL,aK,aJ,E h _ (aX _) (λ_ _=>rfl)];exact .some (by simp[-Xm,gL,G,ac])
 have v:¬(e.ls.length:Int)=0:=by omega
 have I:¬(40:Int)<(e.ls.length:Int):=by omega
 have aj:gL e m=iE e.a3 m e.a2 e.ls:=by simp[-Xm,gL,G,ac]
 rw[aj];generalize ak:iE e.a3 m e.a2 e.ls=z;simp only[v,I,bK,bG,aP,aL,aK,aJ];refine Wp.loop (λD F c=>h.length≤c.length∧(∀b,b<h.length→c[b]?=h[b]?)∧∃T V X aa ab ai u,∃t:Int,∃d:Nat,F=[T,.int .i64 t,V,X,aa,.int .i64 d,ab,ai,u]∧D+d=e.ls.length∧iE e.a3 m t (e.ls.drop d)=z)
   (λf=>h.length≤f.2.2.length∧(∀b,b<h.length→f.2.2[b]?=h[b]?)∧((f.1 = .ext 1∧z=0)∨(f.1 = .ret∧Z 0 f.2.1 = .int .i64 z))) e.ls.length ⟨aX _,λ_ _=>rfl,_,_,_,_,_,_,_,_,0,rfl,rfl,ak⟩ ?_ ?_
 ·rintro D F c ⟨al,K,T,V,X,aa,ab,ai,u,t,d,rfl,ao,a⟩;simp only[Dw,bD,bY,W,aU,nT,hF,iC,eB,ji e.fZ,cI];refine Wp.dS ?_ ?_
  ·intro s;have s:d<e.ls.length:=gS s;have ae:e.ls[d]?=some e.ls[d]:=cJ s;have ag:=fD d (by omega);have k:IntKind.wrap .i64 ((e.ls.length:Int) - 1)=(e.ls.length:Int) - 1:=cN (by omega) (by omega);have M:(e.ls.drop (d+1)=[])↔(d:Int)=(e.ls.length:Int) - 1:=by
    rw[List.drop_eq_nil_iff];omega
   rw[ia s]at a;generalize e.ls[d]=f at ae a;generalize af:e.ls.drop (d+1)=ap at a M;simp only[mc e.fZ,pL,aJ,dY,ae,fW,W,oZ];generalize C:aZ c bS 3 [[.int .i64 0,.int .i64 0,.str []]]=H;have ah:H[c.length]?=some (.row bS 3 [[.int .i64 0,.int .i64 0,.str []]]):=by rw[← C];exact lN _ _ _ _
   have ad:∀b,b<c.length→H[b]?=c[b]?:=λb N=>by rw[← C];exact lO _ _ _ _ N
   have am:H.length=c.length+1:=by rw[← C];exact hN _ _ _ _
   clear C;refine CW ah (by rfl) (by rfl) (by simp) (by rfl) λA P Q=>?_
   replace P:A[c.length]?=some (.row bS 3 [bC f]):=P;have q:h.length≤A.length:=by have:=Q.1;omega
   have p:∀b,b<h.length→A[b]?=h[b]?:=λb N=>((Q.2 b (by omega)).trans (ad b (by omega))).trans (K b N)
   clear ah ad am Q K;have o:A.row c.length 0=some [.int .i64 f.off,.int .i64 f.len,.str f.eD]:=dT P;simp only[W,k5,l9,na,dF,fB,lI,o,iJ,gx,iK,eH,k,fa,dE,gm,cZ,cI];unfold iE at a;by_cases i:f.off=t
   ·by_cases j:f.len<1
    ·rw[cH (λg=>g.2.1 j)]at a;simp only[i,j,dC,eA,bG,bK,bL,aJ,aL,aP,reduceCtorEq,W,bI,aK,hF,eB,k5,l9,na,dF,fB,lI,o,iJ,gx,iK,eH,k,fa,dE,gm,cZ,cI];exact .some (.inr ⟨by simp,q,p,.inr ⟨rfl,by simp[-Xm,a]⟩⟩)
    ·by_cases l:IntKind.wrap .i64 (e.a3 - t)<f.len
     ·rw[cH (λg=>g.2.2.1 l)]at a;simp only[i,j,l,dC,eA,bG,bK,bL,aJ,aL,aP,reduceCtorEq,W,bI,aK,hF,eB,k5,l9,na,dF,fB,lI,o,iJ,gx,iK,eH,k,fa,dE,gm,cZ,cI];exact .some (.inr ⟨by simp,q,p,.inr ⟨rfl,by simp[-Xm,a]⟩⟩)
     ·by_cases y:(d:Int)=(e.ls.length:Int) - 1
      ·have L:decide ((d:Int)=(e.ls.length:Int) - 1)=true:=by simpa using y
       by_cases r:f.len<IntKind.wrap .i64 (e.a3 - t)
       ·rw[cH (λg=>g.2.2.2 ⟨M.2 y,r⟩)]at a;simp only[i,j,l,L,dC,eA,fy,bG,bK,bL,eL,aJ,aL,aP,reduceCtorEq,W,bI,aK,hF,eB,k5,l9,na,dF,fB,lI,o,iJ,gx,iK,eH,k,fa,dE,gm,cZ,cI,r];exact .some (.inr ⟨by simp,q,p,.inr ⟨rfl,by simp[-Xm,a]⟩⟩)
       ·rw[bE ⟨i,j,l,λg=>r g.2⟩]at a;by_cases n:m<(f.eD.length:Int)
        ·rw[bE n]at a;simp only[i,j,l,L,dC,eA,fy,bG,bK,bL,eL,aJ,aL,aP,reduceCtorEq,W,bI,aK,hF,eB,k5,l9,na,dF,fB,lI,o,iJ,gx,iK,eH,k,fa,dE,gm,cZ,cI,r,n];exact .some (.inr ⟨by simp,q,p,.inr ⟨rfl,by simp[-Xm,a]⟩⟩)
        ·rw[cH n]at a;simp only[i,j,l,L,dC,eA,fy,bG,bK,bL,eL,aJ,aL,aP,reduceCtorEq,W,bI,aK,hF,eB,k5,l9,na,dF,fB,lI,o,iJ,gx,iK,eH,k,fa,dE,gm,cZ,cI,r,n,cY,ag];exact .some (.inl ⟨rfl,D - 1,by omega,q,p,_,_,_,_,_,_,_,_,d+1,rfl,by omega,by rw[af];exact a⟩)
      ·rw[bE ⟨i,j,l,λg=>y (M.1 g.1)⟩]at a;have r:True:=trivial;by_cases n:m<(f.eD.length:Int)
       ·rw[bE n]at a;simp only[i,j,l,y,dC,eA,fy,bG,bK,bL,eL,aJ,aL,aP,reduceCtorEq,W,bI,aK,hF,eB,k5,l9,na,dF,fB,lI,o,iJ,gx,iK,eH,k,fa,dE,gm,cZ,cI,r,n];exact .some (.inr ⟨by simp,q,p,.inr ⟨rfl,by simp[-Xm,a]⟩⟩)
       ·rw[cH n]at a;simp only[i,j,l,y,dC,eA,fy,bG,bK,bL,eL,aJ,aL,aP,reduceCtorEq,W,bI,aK,hF,eB,k5,l9,na,dF,fB,lI,o,iJ,gx,iK,eH,k,fa,dE,gm,cZ,cI,r,n,cY,ag];exact .some (.inl ⟨rfl,D - 1,by omega,q,p,_,_,_,_,_,_,_,_,d+1,rfl,by omega,by rw[af];exact a⟩)
   ·rw[cH (λg=>i g.1)]at a;simp only[i,dC,fy,bG,bK,bL,aJ,aL,aP,reduceCtorEq,W,bI,aK,hF,eB,k5,l9,na,dF,fB,lI,o,iJ,gx,iK,eH,k,fa,dE,gm,cZ,cI];exact .some (.inr ⟨by simp,q,p,.inr ⟨rfl,by simp[-Xm,a]⟩⟩)
  ·intro s;have s:¬d<e.ls.length:=by
    have:¬(d:Int)<e.ls.length:=by simpa using s
    omega
   rw[nK (by omega)]at a;exact .some (.inr ⟨by simp,al,K,.inl ⟨rfl,a.symm⟩⟩)
 ·rintro⟨an,F,c⟩ ⟨w,x,B⟩;simp only at w x B;rcases B with⟨rfl,rfl⟩|⟨rfl,B⟩
  ·simp only[dV,cL,W,bR,E c 0 w x];exact .some rfl
  ·simp only[mw,mv,l7,bD,W,B,bR,E c z w x];exact .some rfl
def dn{b:Type}(c:b→b→Int)(a:Nat):Nat→List b→List b
 |0,l=>l
 | j+1,l=>match l[j+1]?,l[j]? with
  |some x,some y=>if a<j+1∧c x y<0 then dn c a j ((l.set (j+1) y).set j x)else l
  |_,_=>l
theorem yT{b:Type}(c:b→b→Int)(a:Nat):∀(j:Nat) (l:List b),(dn c a j l).length=l.length
 |0,l=>rfl
 | j+1,l=>by
  unfold dn;split
  ·split
   ·rw[yT c a j];simp[-Xm]
   ·rfl
  ·rfl
def jI{b:Type}(c:b→b→Int)(a:Nat):Nat→Nat→List b→List b
 |_,0,l=>l
 |i,n+1,l=>jI c a (i+1) n (dn c a i l)
theorem Hg{b:Type}(c:b→b→Int)(a:Nat):∀(n i:Nat) (l:List b),(jI c a i n l).length=l.length
 |0,i,l=>rfl
 | n+1,i,l=>by
  unfold jI;rw[Hg c a n,yT]
theorem Cz{a:Type}(f:a→List D)(l:List a)(i:Nat)(x:a):(l.map f).set i (f x)=(l.set i x).map f:=by rw[kQ]
theorem Bw{h:J}{a k T z:Nat}{rows:List (List D)}{p:aD × aD}(c:h[a]?=some (.row T z rows))(b:rows[k]?=some (aN p)):aA tab h bB (.ptr a k 0)=some (.agg (aN p)):=by
 rw[BA,dT c,b];rfl
theorem RL (c:aD × aD→aD × aD→Int) (cmp:D) (K:∀x y g,gu R cmp [.agg (aN x),.agg (aN y)] g=some (.int .i64 (c x y),g)) (f N a:Nat) (af:N≤1000000000) {G:Type} {z:bN→Option G} {Q:G→Prop}
  (l:List (aD × aD)) (m:l.length=N) (j:Nat) (u:j<N) (h:J) (e:h[f]?=some (.row bB 2 (l.map aN))) (b:D)
  (k:∀x y h',h'[f]?=some (.row bB 2 ((dn c a j l).map aN))→bW f h h'→Wp (z (.ext 2,[x,y],h')) Q) :
  Wp ((cA (xO (.aO 2 f 0 N) (.int .i64 a) cmp) [.int .i64 j,b] h).bind z) Q:=by
 generalize d:dn c a j l=p at k;refine Wp.loop (λw q g=>∃b,∃j:Nat,∃v:List (aD × aD),w=j∧q=[.int .i64 j,b]∧v.length=N∧j<N∧g[f]?=some (.row bB 2 (v.map aN))∧bW f h g∧dn c a j v=p)
  (λo=>o.1 = .ext 2∧(∃x y,o.2.1=[x,y])∧o.2.2[f]?=some (.row bB 2 (p.map aN))∧bW f h o.2.2) j ⟨b,j,l,rfl,rfl,m,u,e,.refl _ _,d⟩ ?_ ?_
 ·clear e m u d l j;rintro w q g ⟨b,j,l,rfl,rfl,m,u,e,sm,d⟩;simp only[xO,bD,bY,W,aU,cZ];cases w with
  | zero =>
   have L:¬(a:Int)<((0:Nat):Int):=by omega
   have d:l=p:=d;subst d;simp only[L,bG,bL,fS,aP,aL,reduceCtorEq,W,bI,aK];exact .some (.inr ⟨by simp,rfl,⟨_,_,rfl⟩,e,sm⟩)
  | succ j =>
   have r:l[j+1]?=some l[j+1]:=cJ (by omega);have i:l[j]?=some l[j]:=cJ (by omega);unfold dn at d;rw[r,i]at d;simp only at d;generalize l[j+1]=x at r d;generalize l[j]=y at i d;by_cases A:a<j+1
   ·have s:(a:Int)<((j+1:Nat):Int):=by omega
    have M:IntKind.wrap .i64 (((j+1:Nat):Int) - 1)=(j:Int):=by
     rw[cN (by omega) (by omega)];omega
    have P:(0:Int)≤((j+1:Nat):Int)∧((j+1:Nat):Int)<(N:Int):=by omega
    have B:(0:Int)≤(j:Int)∧(j:Int)<(N:Int):=by omega
    have C:(l.map aN)[j+1]?=some (aN x):=by rw[dH,r];rfl
    have T:(l.map aN)[j]?=some (aN y):=by rw[dH,i];rfl
    simp only[s,bK,bL,fS,aJ,n4,P,B,gX,dF,dY,eH,M,W,Bw e C,Bw e T,K,cI,bI];by_cases n:c x y<0
    ·rw[bE ⟨A,n⟩]at d;simp only[n,bK,aK,aJ];refine nE e C (by rfl) (by simp[-Xm,aN]) (by rfl) λad E X=>?_
     rw[show dQ (aN x) 0 (cP (.agg (aN y)))=aN y from id rfl,Cz]at E;have V:((l.set (j+1) y).map aN)[j]?=some (aN y):=by
      rw[dH,jS (by omega),i];rfl
     try simp only[W,B,gX,aJ,dF,dY]
     refine nE E V (by rfl) (by simp[-Xm,aN]) (by rfl) λae F aa=>?_
     rw[show dQ (aN y) 0 (cP (.agg (aN x)))=aN x from id rfl,Cz]at F
     try simp only[W]
     exact .some (.inl ⟨rfl,j,by omega,_,j,_,rfl,rfl,by simpa using m,by omega,F,(sm.trans X).trans aa,d⟩)
    ·rw[cH (λt=>n t.2)]at d;subst d;simp only[n,bG,aK,aP,aL];exact .some (.inr ⟨by simp,rfl,⟨_,_,rfl⟩,e,sm⟩)
   ·rw[cH (λt=>A t.1)]at d;subst d;have s:¬(a:Int)<((j+1:Nat):Int):=by omega
    simp only[s,bG,bL,fS,aP,aL,reduceCtorEq,W,bI,aK];exact .some (.inr ⟨by simp,rfl,⟨_,_,rfl⟩,e,sm⟩)
 ·rintro⟨x,q,g⟩ ⟨rfl,⟨ab,ac,rfl⟩,H,I⟩;exact k ab ac g H I
theorem UT(c:aD × aD→aD × aD→Int)(cmp:D)(C:∀x y g,gu R cmp [.agg (aN x),.agg (aN y)] g=some (.int .i64 (c x y),g))(f N a b:Nat)(A:N≤1000000000)(M:a<b∨(a=b∧b≤N))(P:b≤N)
  (l:List (aD × aD)) (E:l.length=N) (h:J) (F:h[f]?=some (.row bB 2 (l.map aN))) :
  ∃d h',R qb [.aO 2 f 0 N,.int .i64 a,.int .i64 b,cmp] h=some (d,h')∧h'[f]?=some (.row bB 2 ((jI c a (a+1) (b - (a+1)) l).map aN))∧bW f h h':=by
 suffices Wp (R qb [.aO 2 f 0 N,.int .i64 a,.int .i64 b,cmp] h) (λu=>u.2[f]?=some (.row bB 2 ((jI c a (a+1) (b - (a+1)) l).map aN))∧bW f h u.2) by
  obtain⟨⟨x,h'⟩,o,p⟩:=this;exact⟨x,h',o,p⟩
 rw[Gf];have G:=fD a (by omega);simp only[xM,W,aU,cY,G];generalize i:jI c a (a+1) (b - (a+1)) l=m;refine Wp.loop (λt n g=>∃v w z,∃e:Nat,∃j:List (aD × aD),n=[.int .i64 e,v,w,z]∧t=b - e∧j.length=N∧g[f]?=some (.row bB 2 (j.map aN))∧bW f h g∧jI c a e (b - e) j=m)
  (λq=>q.1 = .ext 0∧q.2.2[f]?=some (.row bB 2 (m.map aN))∧bW f h q.2.2) (b - (a+1)) ⟨_,_,_,a+1,l,rfl,rfl,E,F,.refl _ _,i⟩ ?_ ?_
 ·rintro t n g ⟨v,w,z,e,j,rfl,rfl,r,s,sm,i⟩;simp only[xN,bD,bY,W,aU,cI];refine Wp.dS ?_ ?_
  ·intro k;have k:e<b:=by
    have:(e:Int)<(b:Int):=by simpa using k
    omega
   have B:b - e=(b - (e+1))+1:=by omega
   rw[B]at i;unfold jI at i;have H:=fD e (by omega);refine RL c cmp C f N a A j r e (by omega) g s _ λx y L I K=>?_
   simp only[dV,gV,cL,W,bD,cY,H];exact .some (.inl ⟨rfl,b - (e+1),by omega,_,_,_,e+1,_,rfl,rfl,by rw[yT];exact r,I,sm.trans K,i⟩)
  ·intro k;have k:¬e<b:=by
    have:¬(e:Int)<(b:Int):=by simpa using k
    omega
   rw[show b - e=0 by omega]at i;have i:j=m:=i;subst i;exact .some (.inr ⟨by simp,rfl,s,sm⟩)
 ·rintro⟨x,n,g⟩ ⟨rfl,o,p⟩;simp only[dV,rB,W];exact .some ⟨o,p⟩
theorem vt:∀(a b:aD),Lib.compareBytes a b<0↔Op.bytesLess a b=true
 |[],[]=>by simp[-Xm,Lib.compareBytes,Op.bytesLess]
 |[],_::_=>by simp[-Xm,Lib.compareBytes,Op.bytesLess]
 |_::_,[]=>by simp[-Xm,Lib.compareBytes,Op.bytesLess]
 | x::a,y::b=>by
  have g:=vt a b;simp only[Lib.compareBytes,Op.bytesLess];by_cases c:x<y
  ·simp[-Xm,c]
  ·by_cases d:y<x
   ·have e:¬x=y:=λf=>by subst f;exact c d
    simp[-Xm,c,d,e]
   ·have e:x=y:=by
      apply UInt8.toNat_inj.1;have:=mt sU.2 c;have:=mt sU.2 d;omega
    subst e;simp[-Xm,c,g]
def cF(x y:aD × aD):Int:=Lib.compareBytes x.1 y.1
theorem UQ(a b:aD)(h:J):R zm [.str a,.str b] h=some (.int .i64 (Lib.compareBytes a b),h):=by
 rw[Nf];simp only[DG,W,Nj,DL,WG,bR]
theorem UP(x y:aD × aD)(h:J):R qa [.agg (aN x),.agg (aN y)] h=some (.int .i64 (cF x y),h):=by
 rw[Nd];simp only[DF,W,jj,rE,rF,UQ,bR,cF]
theorem Lo(x y:aD × aD)(h:J):gu R (.fn (.func qa) [] []) [.agg (aN x),.agg (aN y)] h=some (.int .i64 (cF x y),h):=by
 rw[s6];exact UP x y h
theorem Hl(cs:List D)(i:Int)(a:0≤i)(b:i<256)(c:i.toNat<cs.length):aQ tab xl (.aI cs) (.int .u8 i)=some (.aI (cs.drop i.toNat)):=by
 have:=Rc (T:=tab) (t:=xl) (n:=256) (z:=1) (i:=CL) (j:=xh) (id rfl) (id rfl) (id rfl) (id rfl) (by omega) (cs:=cs) (k :=.u8) a b (by omega)
 rwa [Nat.mul_one]at this
theorem Hq:n9.length=256:=by decide
theorem Bv:mg.length=256:=by simp[-Xm,mg,Hq]
theorem Hr(i:Nat)(hi:i<256):∃z,mg.drop i = .int .u8 z::mg.drop (i+1)∧n9[i]?=some z:=by
 have b:=Hq;have a:=Bv;refine⟨n9[i]'(by omega),?_,cJ (by omega)⟩;rw[ia (by omega)];simp[-Xm,mg]
def Hs(z:Int):Bool:=decide (IntKind.wrap .u8 (BitVec.ofInt IntKind.u8.bits z &&& BitVec.ofInt IntKind.u8.bits 2).toNat≠0)
def Ht(z:Int):Bool:=decide (IntKind.wrap .u8 (BitVec.ofInt IntKind.u8.bits z &&& BitVec.ofInt IntKind.u8.bits 3).toNat≠0)
theorem Hn:∀i:Fin 256,(n9[i.val]?).map Hs=some (lg i.val)∧(n9[i.val]?).map Ht=some (rv i.val||lg i.val):=by decide
theorem US(c:UInt8)(h:J):R zo [.int .u8 c.toNat] h=some (.bool (lg c.toNat),h):=by
 have a:c.toNat<256:=c.toNat_lt;obtain⟨g,f,d⟩:=Hr c.toNat a;have b:=(Hn ⟨c.toNat,a⟩).1;simp only[d,fW,kU]at b;have e:=Bv;rw[Nh];simp only[DI,W,Hl mg c.toNat (by omega) (by omega) (by rw[e];simpa using a),dY,f,HG,FV,dE,bR,← b,Hs]
theorem Co(c:UInt8)(h:J):R zp [.int .u8 c.toNat] h=some (.bool (oi c.toNat),h):=by
 have a:c.toNat<256:=c.toNat_lt;obtain⟨i,f,d⟩:=Hr c.toNat a;have b:=(Hn ⟨c.toNat,a⟩).2;simp only[d,fW,kU]at b;have e:=Bv;rw[Ni];simp only[Ht]at b;simp only[DJ,W,Hl mg c.toNat (by omega) (by omega) (by rw[e];simpa using a),dY,f,HG,FV,dE,fa,oi,b];cases g:(rv c.toNat||lg c.toNat)<;>simp[-Xm]
theorem Hu(s:aD)(h:J)(u:Nat)(E:h[u]?=some (.row fE 1 (iB s)))(D:s.length≤9223372036854775807){y:Type}(n:bN→Option y)(X:Bool→Option y)(C:J)
   (z:∀r,n (.ret,.bool false::r,h)=X false) (A:∀r,n (.ext 0,r,h)=X true):∀(i d:aD),s=d++i→∀a b e f,
   (cA (qQ (.aO 1 u 0 s.length,C) (.int .i64 s.length)) [a,b,.int .i64 d.length,e,f] h).bind n=X (i.all kn):=by
 intro i
 induction i with
 | nil =>
  rintro d rfl a b e f;rw[jJ];simp[-Xm,qQ,A]
 | cons c i x =>
  rintro d rfl a b e f;have w:IntKind.wrap .i64 ((d.length:Int)+1)=(d++[c]).length:=by
   rw[cN (by omega) (by simp at D;omega)];simp[-Xm]
  have m:(d.length:Int)<(d++c::i).length:=by simp;omega
  rw[jJ];generalize p:d++c::i=v at *;have B:(iB v)[d.length]?=some [.int .u8 c.toNat]:=by rw[← p];simp[-Xm,iB]
  have q:aA tab h fE (.ptr u d.length 0)=some (.int .u8 c.toNat):=by
   rw[R0,dT E,B];rfl
  have o:(0:Int)≤(d.length:Int)∧(d.length:Int)<(v.length:Int):=⟨by omega,m⟩
  cases j:oi c.toNat
  ·by_cases l:(c.toNat:Int)=46
   ·have:=x (d++[c]) (by simp[-Xm,← p]) a (.int .u8 c.toNat) (.bool true) (.bool false);simp only[← w]at this;have F:oi 46=false:=rfl;have g:=Co c h;rw[j]at g;have k:kn c=true:=by simp[-Xm,kn,j,l]
    have t:decide ((c.toNat:Int)≠46)=false:=by simp[-Xm,l]
    simp only[qQ,bD,bY,W,cI,m,bK,aK,aJ,Bu,o,gX,dF,dY,q,g,fK,fO,bL,dE,t,bI,aP,aL,cY,u1,k,uN];exact this
   ·have g:=Co c h;rw[j]at g;have k:kn c=false:=by simp[-Xm,kn,j,l]
    have t:decide ((c.toNat:Int)≠46)=true:=by simp[-Xm,l]
    simp only[qQ,bD,bY,W,cI,m,bK,aK,aJ,Bu,o,gX,dF,dY,q,g,fK,fO,bL,dE,t,bI,u1,k,lS,z]
  ·have:=x (d++[c]) (by simp[-Xm,← p]) a (.int .u8 c.toNat) (.bool true) (.bool false);simp only[← w]at this;have g:=Co c h;rw[j]at g;have k:kn c=true:=by simp[-Xm,kn,j]
   simp only[qQ,bD,bY,W,cI,m,bK,aK,aJ,Bu,o,gX,dF,dY,q,g,fK,eY,bL,aP,aL,reduceCtorEq,bI,cY,u1,k,uN];exact this
theorem UN(s:aD)(h:J):R zl [.str s] h=some (.bool (gK s),h):=by
 have q:∀(k:J) (g:Bool),h.length≤k.length→(∀p,p<h.length→k[p]?=h[p]?)→scope h k (.bool g)=some (.bool g,h):=λk g x y=>iu (by simp) (.bool _) x y
 rw[Nc];cases s with
 | nil =>
  simp only[qP,W,nQ,kA,bL,fS,reduceCtorEq,aL,bI,aJ,aK,bR,eR,q h _ (aX _) (λ_ _=>rfl)];rfl
 | cons a b =>
  have n:((a::b:aD)==[])=false:=by simp
  by_cases l:(32:Int)<((a::b).length:Int)
  ·have A:gK (a::b)=false:=by
     have:¬(a::b).length≤32:=by omega
     simp[-Xm,gK];intro C;simp at this;omega
   simp only[qP,W,nQ,n,bL,fS,aJ,gm,cZ,l,bK,reduceCtorEq,aL,bI,aK,bR,eR,aP,eL,nY,q h _ (aX _) (λ_ _=>rfl),A]
  ·have B:(a::b).length≤32:=by omega
   have i:=CF (a::b) 0 a rfl;have i:lE tab bP (.str (a::b)) (.int .i64 0)=some (.int .u8 a.toNat):=i;have j:=US a h;have v:J6 fE h (.str (a::b))=some (.aO 1 h.length 0 (a::b).length,aZ h fE 1 (iB (a::b))):=bE (lK (by omega) (by omega));have w:=lN h fE 1 (iB (a::b));have o:∀g,scope h (aZ h fE 1 (iB (a::b))) (.bool g)=some (.bool g,h):=λg=>q _ _ (by rw[hN];omega) λp f=>lO _ _ _ _ f
   have r:∀(e:Bool),(lg a.toNat||decide ((a.toNat:Int)=95))=e→gK (a::b)=(e&&(a::b).all kn):=λe z=>by
    simp only[gK,B,bK,uN,z]
   cases f:lg a.toNat
   ·rw[f]at j;by_cases m:(a.toNat:Int)=95
    ·have t:decide ((a.toNat:Int)≠95)=false:=by simp[-Xm,m]
     rw[r true (by simp[-Xm,f,m])];simp only[qP,W,aU,nQ,n,bL,fS,aJ,gm,cZ,l,bG,reduceCtorEq,aL,bI,aK,aP,i,j,fK,fO,dE,t,v,HN];have:=Hu (a::b) (aZ h fE 1 (iB (a::b))) h.length w (by omega) (λc=>(some ((bQ 0 c.1),[(Z 0 c.2.1),(Z 1 c.2.1),(Z 2 c.2.1),(Z 3 c.2.1),(Z 4 c.2.1)],c.2.2)).bind λd=>toEnd d.1 (scope h d.2.2 (.bool true)) λu=>dD u (scope h d.2.2 (aH [Z 0 d.2.1]))) (λe=>some (.bool e,h)) (aZ h fE 1 (iB (a::b))) (λb=>by simp[-Xm,o]) (λb=>by simp[-Xm,o]) (a::b) [] rfl (.bool false) .any .any .any;simpa using this
    ·have t:decide ((a.toNat:Int)≠95)=true:=by simp[-Xm,m]
     rw[r false (by simp[-Xm,f,m])];simp only[qP,W,nQ,n,bL,fS,aJ,gm,cZ,l,bG,reduceCtorEq,aL,bI,aK,aP,i,j,fK,fO,dE,t,bR,q h _ (aX _) (λ_ _=>rfl),lS]
   ·rw[f]at j;rw[r true (by simp[-Xm,f])];simp only[qP,W,aU,nQ,n,bL,fS,aJ,gm,cZ,l,bG,reduceCtorEq,aL,bI,aK,aP,i,j,fK,eY,v,HN,eL];have:=Hu (a::b) (aZ h fE 1 (iB (a::b))) h.length w (by omega) (λc=>(some ((bQ 0 c.1),[(Z 0 c.2.1),(Z 1 c.2.1),(Z 2 c.2.1),(Z 3 c.2.1),(Z 4 c.2.1)],c.2.2)).bind λd=>toEnd d.1 (scope h d.2.2 (.bool true)) λu=>dD u (scope h d.2.2 (aH [Z 0 d.2.1]))) (λe=>some (.bool e,h)) (aZ h fE 1 (iB (a::b))) (λb=>by simp[-Xm,o]) (λb=>by simp[-Xm,o]) (a::b) [] rfl (.bool false) .any .any .any;simpa using this
def j0(h:J)(l:List (aD × aD))(d:D):Prop:=aR 2 aN l d∨∃a,d = .aO 2 a 0 l.length∧h[a]?=some (.row bB 2 (l.map aN))
theorem wV{h:J}{l:List (aD × aD)}{d:D}(a:j0 h l d):aT tab bM d=some (.int .i64 l.length):=by
 rcases a with a|⟨b,rfl,_⟩
 ·exact iD a
 ·exact HP _ _ _ _
theorem uo{h:J}{l:List (aD × aD)}{d:D}(a:j0 h l d)(i:Nat)(p:aD × aD)(b:l[i]?=some p):∃c,aQ tab bM d (.int .i64 i)=some c∧aA tab h bB c=some (.agg (aN p)) ∧
  ∃j,aC tab bB 0 c=some j∧aA tab h bP j=some (.str p.1):=by
 have m:=(bO.1 b).1;rcases a with a|⟨g,rfl,e⟩
 ·exact⟨.aI (aN p),by rw[oX a];simp[-Xm,b],tq p h,.aI (aN p),rE p,rF p h⟩
 ·have f:(l.map aN)[i]?=some (aN p):=by rw[dH,b];rfl
  have k:(0:Int)≤(i:Int)∧(i:Int)<(l.length:Int):=by omega
  refine⟨.ptr g i 0,by rw[n4];simp[-Xm,k],Bw e f,.ptr g i 0,by rw[yZ],?_⟩;rw[lI,dT e,f];rfl
theorem j0.bH{h h':J}{l:List (aD × aD)}{d:D}(a:j0 h l d)(f:∀(b T z:Nat) (rows:List (List D)),h[b]?=some (Ob.row T z rows)→h'[b]?=h[b]?):j0 h' l d:=by
 rcases a with a|⟨e,rfl,c⟩
 ·exact .inl a
 ·exact .inr ⟨e,rfl,by rw[f e _ _ _ c];exact c⟩
theorem Wf(l:List (aD × aD))(d:D)(h:J)(p:aR 2 aN l d)(u:l.length≤1000000):∃d' h',R zc [d] h=some (d',h')∧h.length≤h'.length∧(∀f,f<h.length→h'[f]?=h[f]?) ∧
  ((l=[]∧aR 2 aN [] d')∨∃a,h.length≤a∧d' = .aO 2 a 0 l.length∧h'[a]?=some (.row bB 2 (l.map aN))):=by
 rw[MH];rcases p with⟨rfl,rfl⟩|⟨b,rfl⟩
 ·exact⟨.aB,h,by
    have e:V tab .eql bM .aB .aB=some (.bool true):=id rfl;simp[-Xm,xA,e],aX _,λ_ _=>rfl,.inl ⟨rfl,.aB _ _⟩⟩
 ·obtain⟨g,h',k,q,s,r⟩:=Fq (T:=tab) (t:=bM) (i:=xf) (j:=uD) (h:=h) (id rfl) (id rfl) (id rfl) (by decide) (y :=.sl 2 b (l.map aN)) (iq _ _ _ _) (lK (by have:uD.gI=32:=rfl;rw[this,eQ];omega) (by rw[eQ];omega));have m:cW tab h bM bM (.sl 2 true []) (.sl 2 b (l.map aN))=some (g,h'):=k;have e:V tab .eql bM (.sl 2 b (l.map aN)) .aB=some (.bool false):=id rfl;refine⟨g,h',?_,q,s,?_⟩
  ·simp only[xA,W,e,aK,aP,aL,Ll,m,bR]
  ·rcases r with⟨rfl,c⟩|⟨rfl,c⟩|⟨a,n,rfl,o⟩
   ·have:l=[]:=by simpa using c
    exact .inl ⟨this,.inr ⟨true,rfl⟩⟩
   ·have:l=[]:=by simpa using c
    exact .inl ⟨this,.aB _ _⟩
   ·exact .inr ⟨a,n,by rw[eQ];rfl,o⟩
def jB(l:List (aD × aD)):List (aD × aD):=jI cF 0 1 (l.length - 1) l
theorem JP(l:List (aD × aD)):(jB l).length=l.length:=Hg _ _ _ _ _
def iM:List (aD × aD)→Bool
 |x::y::r=>y.1==x.1||iM (y::r)
 |_=>false
def eN(l:List (aD × aD)):Int × List (aD × aD):=if 32<l.length then(4,[])else if l.all (λa=>gK a.1)=true then(if iM (jB l)=true then(7,[])else(0,jB l))else(6,[])
theorem RH(l:List (aD × aD))(d:D)(h:J)(I:aR 2 aN l d)(M:l.length≤1000){F:Type}{o:bN→Option F}{Q:F→Prop}(a b c e f:D)
  (E:l.all (λp=>gK p.1)=true→∀x y z w,Wp (o (.ext 0,[a,b,x,y,z,w],h)) Q) (k2:¬l.all (λp=>gK p.1)=true→∀x y z w,Wp (o (.ret,[.aB,.int .i64 6,x,y,z,w],h)) Q) :
  Wp ((cA (xG d (.int .i64 l.length)) [a,b,c,.int .i64 0,e,f] h).bind o) Q:=by
 generalize G:l.all (λp=>gK p.1)=q at E k2;refine Wp.loop (λu r s=>s=h∧∃c e f,∃g:Nat,r=[a,b,c,.int .i64 g,e,f]∧u+g=l.length∧(l.drop g).all (λp=>gK p.1)=q)
   (λx=>x.2.2=h∧((x.1 = .ext 0∧q=true∧∃p k m n,x.2.1=[a,b,p,k,m,n])∨(x.1 = .ret∧q=false∧∃p k m n,x.2.1=[.aB,.int .i64 6,p,k,m,n]))) l.length ⟨rfl,_,_,_,0,rfl,rfl,G⟩ ?_ ?_
 ·rintro u r s ⟨rfl,c,e,f,g,rfl,L,i⟩;simp only[xG,bD,bY,W,aU,cI];refine Wp.dS ?_ ?_
  ·intro j;have j:g<l.length:=gS j;have C:l[g]?=some l[g]:=cJ j;have K:=fD g (by omega);rw[ia j]at i;generalize l[g]=x at C i;have H:gY 2 (.agg (aN x))=some (.aI (aN x)):=mP 2 _ rfl;simp only[oX I,pL,aJ,dY,C,fW,W,tq,H,rE x,rF,UN,fK];simp only[u1]at i;cases B:gK x.1
   ·rw[B]at i;simp only[fO,aK,aJ];exact .some (.inr ⟨by simp,rfl,.inr ⟨rfl,i.symm,_,_,_,_,rfl⟩⟩)
   ·rw[B]at i;simp only[eY,aK,aP,aL,cY,W,K];exact .some (.inl ⟨rfl,u - 1,by omega,rfl,_,_,_,g+1,rfl,by omega,i⟩)
  ·intro j;have j:l.length≤g:=by
    have:¬(g:Int)<l.length:=by simpa using j
    omega
   rw[nK j]at i;exact .some (.inr ⟨by simp,rfl,.inl ⟨rfl,i.symm,_,_,_,_,rfl⟩⟩)
 ·rintro⟨x,r,s⟩ ⟨v,A⟩;simp only at v A;subst v;rcases A with⟨rfl,t,p,k,m,n,rfl⟩|⟨rfl,t,p,k,m,n,rfl⟩
  ·exact E t _ _ _ _
  ·exact k2 (by rw[t];simp[-Xm]) _ _ _ _
theorem RJ(l:List (aD × aD))(d:D)(h:J)(s:j0 h l d)(T:l.length≤1000){E:Type}{p:bN→Option E}{Q:E→Prop}(a b c e:D)
  (C:iM l=false→∀x y z,Wp (p (.ext 2,[a,b,x,y,z],h)) Q) (k2:iM l=true→∀x y z,Wp (p (.ret,[.aB,.int .i64 7,x,y,z],h)) Q) :
  Wp ((cA (xH d) [a,b,.int .i64 1,c,e] h).bind p) Q:=by
 generalize M:iM l=o at C k2;refine Wp.loop (λB q r=>r=h∧∃c e,∃f:Nat,q=[a,b,.int .i64 ((f+1:Nat):Int),c,e]∧B=l.length - f∧iM (l.drop f)=o)
   (λx=>x.2.2=h∧((x.1 = .ext 2∧o=false∧∃k m n,x.2.1=[a,b,k,m,n])∨(x.1 = .ret∧o=true∧∃k m n,x.2.1=[.aB,.int .i64 7,k,m,n]))) l.length ⟨rfl,_,_,0,rfl,rfl,M⟩ ?_ ?_
 ·rintro B q r ⟨rfl,c,e,f,rfl,R,g⟩;simp only[xH,bD,bY,W,aU,wV s,cI];refine Wp.dS ?_ ?_
  ·intro i;have i:f+1<l.length:=by
    have:((f+1:Nat):Int)<l.length:=by simpa using i
    omega
   have u:l[f+1]?=some l[f+1]:=cJ i;have t:l[f]?=some l[f]:=cJ (by omega);have N:IntKind.wrap .i64 (((f+1:Nat):Int)+1)=((f+1+1:Nat):Int):=by
    rw[cN (by omega) (by omega)];omega
   have P:IntKind.wrap .i64 (((f+1:Nat):Int) - 1)=(f:Int):=by
    rw[cN (by omega) (by omega)];omega
   rw[ia (show f<l.length by omega),ia i]at g;unfold iM at g;rw[← ia i]at g;generalize l[f+1]=x at u g;generalize l[f]=y at t g;obtain⟨X,G,_,r1,I,L⟩:=uo s (f+1) x u;obtain⟨V,F,_,aa,H,K⟩:=uo s f y t;simp only[G,F,I,H,L,K,W,eH,P,nQ];cases A:(x.1==y.1)
   ·rw[A]at g;simp only[aK,aP,aL,cY,W,N];exact .some (.inl ⟨rfl,l.length - (f+1),by omega,rfl,_,_,f+1,rfl,rfl,g⟩)
   ·rw[A]at g;simp only[aK,aJ];exact .some (.inr ⟨by simp,rfl,.inr ⟨rfl,g.symm,_,_,_,rfl⟩⟩)
  ·intro i;have i:l.length≤f+1:=by
    have:¬((f+1:Nat):Int)<l.length:=by simpa using i
    omega
   have j:o=false:=by
    rw[← g];have:(l.drop f).length≤1:=by simp;omega
    match l.drop f,this with
    |[],_=>rfl
    |[x],_=>rfl
   exact .some (.inr ⟨by simp,rfl,.inl ⟨rfl,j,_,_,_,rfl⟩⟩)
 ·rintro⟨x,q,r⟩ ⟨v,w⟩;simp only at v w;subst v;rcases w with⟨rfl,j,k,m,n,rfl⟩|⟨rfl,j,k,m,n,rfl⟩
  ·exact C j _ _ _
  ·exact k2 j _ _ _
theorem UO(d cmp:D)(h:J)(f:aR 2 aN [] d):∃x,R tA [d,cmp] h=some (x,h):=by
 have g:aT tab bM d=some (.int .i64 0):=iD f;have b:∃x,R qb [d,.int .i64 0,.int .i64 0,cmp] h=some (x,h):=by
  rw[Gf];refine⟨aH [],?_⟩;simp only[xM,W,aU,cY,show IntKind.wrap .i64 ((0:Int)+1)=1 from rfl];rw[jJ];simp[-Xm,xN]
 obtain⟨x,b⟩:=b;have a:∃x,R vV [d,.int .i64 0,cmp] h=some (x,h):=by
  rw[Ge];refine⟨aH [],?_⟩;simp only[xJ,W,aU];rw[jJ];have c:¬(20:Int)≤0:=by omega
  have e:¬(20:Int)<0:=by omega
  simp only[xK,bD,bY,W,ig,c,bG,aK,aP,aL,dV,cL,b];rw[jJ];simp only[xL,bD,bY,W,cI,e,bG,aK,aP,aL,dV,rB]
 obtain⟨i,a⟩:=a;refine⟨aH [],?_⟩;rw[Gd];simp only[xI,W,g,a]
theorem UK(l r:List (aD × aD))(d e:D)(h:J)(y:j0 h l d)(z:j0 h r e)(M:l.length≤1000):R zj [d,e] h=some (.bool (decide (l=r)),h):=by
 apply Wp.val;rw[M9];simp only[DA,W,aU,wV y,wV z,dE];by_cases k:(l.length:Int)=(r.length:Int)
 ·have N:l.length=r.length:=by omega
  simp only[k,dC,eA,bG,aK,aP,aL];generalize F:decide (l=r)=g;refine Wp.loop (λp i j=>j=h∧∃s t u v,∃a:Nat,i=[s,t,.int .i64 a,u,v]∧p+a=r.length∧decide (l.drop a=r.drop a)=g)
   (λb=>b.2.2=h∧((b.1 = .ext 0∧g=true)∨(b.1 = .ret∧g=false∧Z 0 b.2.1 = .bool false))) r.length ⟨rfl,_,_,_,_,0,rfl,rfl,F⟩ ?_ ?_
  ·rintro p i j ⟨rfl,s,t,u,v,a,rfl,L,f⟩;simp only[DB,bD,bY,W,aU,cI];refine Wp.dS ?_ ?_
   ·intro c;have c:a<r.length:=gS c;have gl:l[a]?=some l[a]:=cJ (by omega);have gr:r[a]?=some r[a]:=cJ c;have K:=fD a (by omega);rw[ia (show a<l.length by omega),ia c]at f;generalize l[a]=b at gl f;generalize r[a]=q at gr f;obtain⟨Q,B,E,_⟩:=uo y a b gl;obtain⟨P,A,C,_⟩:=uo z a q gr;simp only[B,A,E,C,W,GR];by_cases o:b=q
    ·subst o;simp only[dC,eA,bG,aK,aP,aL,cY,W,K];exact .some (.inl ⟨rfl,p - 1,by omega,rfl,_,_,_,_,a+1,rfl,by omega,by rw[← f];simp[-Xm]⟩)
    ·have m:decide (b≠q)=true:=by simpa using o
     simp only[m,aK,aJ];exact .some (.inr ⟨by simp,rfl,.inr ⟨rfl,by rw[← f];simp[-Xm,o],rfl⟩⟩)
   ·intro c;have c:r.length≤a:=by
     have:¬(a:Int)<r.length:=by simpa using c
     omega
    rw[nK c,nK (by omega)]at f;exact .some (.inr ⟨by simp,rfl,.inl ⟨rfl,by rw[← f];simp[-Xm]⟩⟩)
  ·rintro⟨b,i,j⟩ ⟨w,x⟩;simp only at w x;subst w;rcases x with⟨rfl,n⟩|⟨rfl,n,I⟩
   ·simp only[dV,cL,W,bR,n];exact .some rfl
   ·simp only[mw,mv,l7,bD,W,I,bR,n];exact .some rfl
 ·have m:decide ((l.length:Int)≠(r.length:Int))=true:=by simpa using k
  have H:decide (l=r)=false:=by
   simp[-Xm];intro G;subst G;exact k rfl
  simp only[m,aK,aJ,bR,H];exact .some rfl
theorem RK(l:List (aD × aD))(d:D)(fn:D)(j:aD × aD→Bool)(h:J)(z:j0 h l d)(B:l.length≤9223372036854775807)(q:∀x,gu R fn [.agg (aN x)] h=some (.bool (j x),h)){t:Type}(k:bN→Option t)(X:Int→Option t)
   (w:∀v r,k (.ret,.int .i64 v::r,h)=X v) (y:∀r,k (.ext 0,r,h)=X (-1)):∀(i c:List (aD × aD)),l=c++i→∀a b e f,
   (cA (sx d fn (.int .i64 l.length)) [a,b,.int .i64 c.length,e,f] h).bind k=X (idx j c.length i):=by
 intro i
 induction i with
 | nil =>
  rintro c rfl a b e f;rw[jJ];simp[-Xm,sx,y,idx]
 | cons g i E =>
  rintro c rfl a b e f;have C:IntKind.wrap .i64 ((c.length:Int)+1)=(c++[g]).length:=by
   rw[cN (by omega) (by simp at B;omega)];simp[-Xm]
  have s:(c.length:Int)<(c++g::i).length:=by simp;omega
  rw[jJ];generalize p:c++g::i=u at *;have A:u[c.length]?=some g:=by rw[← p];exact rT _ _ _
  obtain⟨F,n,o,_⟩:=uo z _ _ A;by_cases m:j g=true
  ·simp[-Xm,sx,n,o,s,q,m,w,idx]
  ·have:=E (c++[g]) (by simp[-Xm,← p]) a (.int .i64 c.length) (.bool true) (.bool (j g));simp only[← C]at this;simp[-Xm,sx,n,o,s,q,m,idx];simp[-Xm,m]at this;exact this
theorem UR(l:List (aD × aD))(d:D)(fn:D)(a:aD × aD→Bool)(h:J)(b:j0 h l d)(f:l.length≤9223372036854775807)(e:∀x,gu R fn [.agg (aN x)] h=some (.bool (a x),h)):
   R zn [d,fn] h=some (.int .i64 (idx a 0 l),h):=by
 rw[Ng];simp only[DH,W,wV b,aU];rw[show(0:Int)=(([]:List (aD × aD)).length:Int)from rfl,RK l d fn a h b f e _ (λc=>some (.int .i64 c,h)) (λc g=>by simp) (λg=>by simp) l [] rfl];rfl
theorem UM(p:aD × aD)(h:J):R tz [.agg (aN p)] h=some (.bool (decide (2000<p.2.length)),h):=by
 rw[Nb];simp[-Xm,DD,aN];omega
theorem UL(l:List (aD × aD))(d:D)(h:J)(a:j0 h l d)(b:l.length≤9223372036854775807):R zk [d,.fn (.func tz) [] []] h=some (.bool (l.any λp=>decide (2000<p.2.length)),h):=by
 rw[Na];simp only[DC,W,UR l d (.fn (.func tz) [] []) (λp=>decide (2000<p.2.length)) h a b (λc=>by rw[s6];exact UM c h),ju,bR];rw[Bl]
theorem UI(l:dJ)(h:J):R tu [.agg (bC l)] h=some (.bool (!(l.eD==[])),h):=by
 rw[M6];simp[-Xm,Dy,bC]
theorem UH(l:List dJ)(d:D)(h:J)(a:aR 3 bC l d)(b:l.length≤9223372036854775807):R zi [d,.fn (.func tu) [] []] h=some (.bool (l.any λp => !(p.eD==[])),h):=by
 rw[M5];simp only[Dx,W,Jj l d (.fn (.func tu) [] []) (λp => !(p.eD==[])) h a b (λc=>by rw[s6];exact UI c h),ju,bR];rw[Bl]
def nR(e:Ev):Int:=
 if(!fh e || !(decide (0≤e.a5)&&decide (e.a5≤253402300799999)))=true then 2
 else if e.a6<1∨Int.tmod 5040 e.a6≠0 then 21
 else if gL e 2000≠0 then gL e 2000
 else if 32<e.s7.length∨32<e.s8.length then 3
 else if(eN e.fs).1≠0 then(eN e.fs).1
 else if(eN e.fs).2≠e.fs then 19
 else if((eN e.fs).2.any λa=>decide (2000<a.2.length))=true then 3 else 0
theorem JK(l:List (aD × aD)):(eN l).2.length≤l.length:=by
 unfold eN;split
 ·simp[-Xm]
 ·split
  ·split
   ·simp[-Xm]
   ·simp[-Xm,JP]
  ·simp[-Xm]
theorem Vx(l:List (aD × aD)):(eN l).2.length≤32:=by
 by_cases a:32<l.length
 ·simp[-Xm,eN,a]
 ·have:=JK l;omega
theorem UD(e:Ev)(h:J)(ad:∀p:J,∃d' h',R tw [e.fd] p=some (.bZ [d',.int .i64 (eN e.fs).1],h')∧p.length≤h'.length∧(∀b,b<p.length→h'[b]?=p[b]?)∧((eN e.fs).1=0→j0 h' (eN e.fs).2 d')):R tt [.agg (bV e)] h=some (.int .i64 (nR e),h):=by
 apply Wp.val;have a:∀(i:J) (d:Int),h.length≤i.length→(∀b,b<h.length→i[b]?=h[b]?)→scope h i (.int .i64 d)=some (.int .i64 d,h):=λi d aa ab=>iu (by simp) (.int _ _) aa ab
 have P:=Cn e.a5 0 253402300799999 h;rw[MX];simp only[Dp,jj,W,aU,tk,Jn,bR];have af:aC tab aG 5 (.aI (bV e))=some (.aI [.int .i64 e.a5,.int .i64 e.a6,.str e.s7,.str e.s8,e.fd]):=id rfl;have ag:aC tab aG 6 (.aI (bV e))=some (.aI [.int .i64 e.a6,.str e.s7,.str e.s8,e.fd]):=id rfl;have ah:aC tab aG 7 (.aI (bV e))=some (.aI [.str e.s7,.str e.s8,e.fd]):=id rfl;have ai:aC tab aG 8 (.aI (bV e))=some (.aI [.str e.s8,e.fd]):=id rfl;have aj:aC tab aG 9 (.aI (bV e))=some (.aI [e.fd]):=id rfl;unfold nR;generalize aq:fh e=f;generalize ar:(decide (0≤e.a5)&&decide (e.a5≤253402300799999))=z at P ⊢;have first:∀{T:Type} (t:D→D × J→D→Option T) (k:T→Prop),(∀S p x,p.2=h→x = .bool (!f || !z)→Wp (t S p x) k)→Wp ((fx .not (.bool f)).bind λc=>(O c false (some (.aI [.int .i64 e.a5,.int .i64 e.a6,.str e.s7,.str e.s8,e.fd]))).bind λak=>(O c false (aA tab h U ak)).bind λal=>(fA c false h (R rI [al,.int .i64 0,.int .i64 253402300799999] h)).bind λQ=>(O c false (fx .not Q.1)).bind λam=>(cD c (.bool true) am).bind λan=>t c Q an) k:=λt k I=>by
  cases f
  ·simp only[fK,fO,W,bL,fS,reduceCtorEq,aL,bI,aJ];exact I _ _ _ rfl rfl
  ·simp only[fK,eY,W,bL,fS,aJ,eB,P,bI,aP,aL];exact I _ _ _ rfl (by simp)
 simp only[af,ag,ah,ai,aj];refine first _ _ λS p x K ae=>?_
 subst ae;obtain⟨au,p⟩:=p;simp only at K;subst K;clear first
 simp only[aK];by_cases A:(!f || !z)=true
 ·simp only[A,aJ,a _ _ (aX _) (λ_ _=>rfl)];exact .some rfl
 simp only[A,aL,aP,eB,ik,la,W,cI,gm,cZ,ta,dE];by_cases l:e.a6<1
 ·simp only[l,kH,bK,aJ,bL,reduceCtorEq,aL,eR,W,bI,aK,a _ _ (aX _) (λ_ _=>rfl)];exact .some rfl
 have B:¬e.a6=0:=by omega
 by_cases C:¬Int.tmod 5040 e.a6=0
 ·have m:=C;simp only[l,B,m,dC,fy,nv,bK,bG,aJ,bL,aL,aP,W,bI,aK,eB,ta,dE,a _ _ (aX _) (λ_ _=>rfl)];exact .some rfl
 have m:Int.tmod 5040 e.a6=0:=kK.1 C;simp only[l,B,m,dC,eA,nu,bG,aJ,bL,aL,aP,W,bI,aK,eB,ta,dE,Jo];generalize ao:gL e 2000=y;by_cases E:¬y=0
 ·have n:=E;simp only[n,dC,fy,bK,aJ,a _ _ (aX _) (λ_ _=>rfl)];exact .some rfl
 have n:y=0:=kK.1 E;subst n;simp only[dC,eA,bG,aP,aL,aJ];by_cases o:32<e.s7.length
 ·have g:(32:Int)<(e.s7.length:Int):=by omega
  simp only[o,g,kH,bK,aJ,bL,reduceCtorEq,aL,eR,W,bI,aK,a _ _ (aX _) (λ_ _=>rfl)];exact .some rfl
 have g:¬(32:Int)<(e.s7.length:Int):=by omega
 by_cases F:32<e.s8.length
 ·have q:(32:Int)<(e.s8.length:Int):=by omega
  simp only[o,g,F,q,nv,bK,bG,aJ,bL,aL,aP,W,ik,gm,cZ,bI,a _ _ (aX _) (λ_ _=>rfl)];exact .some rfl
 have q:¬(32:Int)<(e.s8.length:Int):=by omega
 obtain⟨d',h',M,v,u,w⟩:=ad p;simp only[o,g,F,q,nu,bG,aJ,bL,aL,aP,W,ik,gm,cZ,bI,aK,M,jd,iZ,j8];have N:=Vx e.fs;generalize ap:eN e.fs=X at M w N;obtain⟨d,j⟩:=X;simp only at w N ⊢;by_cases G:¬d=0
 ·have r:=G;simp only[r,dC,fy,bK,aJ,a _ _ v u,aK,dE,W];exact .some rfl
 have r:d=0:=kK.1 G;subst r;have L:=w rfl;have ac:j0 h' e.fs e.fd :=.inl e.gk;simp only[dC,eA,bG,aP,aL,aK,dE,UK j e.fs d' e.fd h' L ac (by omega),W,fK,UL j d' h' L (by omega)];by_cases H:¬j=e.fs
 ·have s:=H;simp only[s,fy,bG,fO,aJ,a _ _ v u,aK,dE,W];exact .some rfl
 have s:j=e.fs:=kK.1 H;subst s;simp only[eA,bK,eY,aL,aP,a _ _ v u,aK,dE,W];split
 ·exact .some rfl
 ·exact .some rfl
def gT(i:It):Int:=
 if i.r=[]then nR i.e
 else if 32<i.r.length then 3
 else if fh i.e=false then 2
 else if gL i.e 60000=9∨gL i.e 60000=4∨gL i.e 60000=19 then gL i.e 60000
 else if i.e.a5≠0∨i.e.a6≠0∨i.e.s7≠[]∨i.e.s8≠[]∨i.e.fs.length≠0∨(i.e.ls.any λa => !(a.eD==[]))=true then 19 else 0
theorem UC(i:It)(h:J)(C:R tt [.agg (bV i.e)] h=some (.int .i64 (nR i.e),h)):R ts [.agg (aE i)] h=some (.int .i64 (gT i),h):=by
 have B:gY 10 (.agg (bV i.e))=some (.aI (bV i.e)):=mP 10 _ rfl;have E:aC tab aG 4 (.aI (bV i.e))=some (.aI [i.e.ld,.int .i64 i.e.a5,.int .i64 i.e.a6,.str i.e.s7,.str i.e.s8,i.e.fd]):=id rfl;have F:aC tab aG 5 (.aI (bV i.e))=some (.aI [.int .i64 i.e.a5,.int .i64 i.e.a6,.str i.e.s7,.str i.e.s8,i.e.fd]):=id rfl;have G:aC tab aG 6 (.aI (bV i.e))=some (.aI [.int .i64 i.e.a6,.str i.e.s7,.str i.e.s8,i.e.fd]):=id rfl;have H:aC tab aG 7 (.aI (bV i.e))=some (.aI [.str i.e.s7,.str i.e.s8,i.e.fd]):=id rfl;have I:aC tab aG 8 (.aI (bV i.e))=some (.aI [.str i.e.s8,i.e.fd]):=id rfl;have K:aC tab aG 9 (.aI (bV i.e))=some (.aI [i.e.fd]):=id rfl;rw[MW];simp only[Dn,jj,W,Bo,kl,Bp,tk,B,nQ,bR];unfold gT;by_cases l:i.r=[]
 ·simp only[l,kA,aK,aJ,C,W]
 have x:(i.r==[])=false:=by simpa using l
 simp only[l,x,aK,aP,aL,gm,W,cZ];by_cases q:32<i.r.length
 ·have m:(32:Int)<(i.r.length:Int):=by omega
  simp only[q,m,bK,aJ]
 have m:¬(32:Int)<(i.r.length:Int):=by omega
 simp only[q,m,bG,aP,aL,Jn,W,fK];cases L:fh i.e
 ·simp only[fO,aK,aJ]
 simp only[eY,aK,aP,eR,aL,Jo,W,fa];generalize gL i.e 60000=k;by_cases a:k=9
 ·subst a;simp[-Xm]
 by_cases b:k=4
 ·subst b;simp[-Xm]
 by_cases c:k=19
 ·subst c;simp[-Xm]
 simp only[a,b,c,nu,bG,bL,aJ,W,bI,aK,aP,aL,F,G,H,I,K,E,eB,ik,la,iC,dE];have f:(i.e.fs.length:Int)=0↔i.e.fs.length=0:=by omega
 have d:=UH i.e.ls i.e.ld h i.e.fZ i.e.rW;generalize (i.e.ls.any λD => !(D.eD==[]))=w at d ⊢;by_cases s:¬i.e.a5=0
 ·simp only[a,b,c,fa,s,dC,eA,fy,kH,nv,mY,iS,bK,bG,bL,fS,eL,nY,reduceCtorEq,aJ,aL,aP,eR,W,bI,aK,eB,ik,la,iC,dE,lC,iD i.e.gk,f,d,kA,eY,fO,nu]
 have g:i.e.a5=0:=kK.1 s;by_cases t:¬i.e.a6=0
 ·simp only[a,b,c,fa,g,t,dC,eA,fy,kH,nv,mY,iS,bK,bG,bL,fS,eL,nY,reduceCtorEq,aJ,aL,aP,eR,W,bI,aK,eB,ik,la,iC,dE,lC,iD i.e.gk,f,d,kA,eY,fO,nu]
 have j:i.e.a6=0:=kK.1 t;by_cases o:¬i.e.s7=[]
 ·have y:(i.e.s7==[])=false:=by simpa using o
  simp only[a,b,c,fa,g,j,o,y,dC,eA,fy,kH,nv,mY,iS,bK,bG,bL,fS,eL,nY,reduceCtorEq,aJ,aL,aP,eR,W,bI,aK,eB,ik,la,iC,dE,lC,iD i.e.gk,f,d,kA,eY,fO,nu]
 have n:i.e.s7=[]:=kK.1 o;by_cases p:¬i.e.s8=[]
 ·have z:(i.e.s8==[])=false:=by simpa using p
  simp only[a,b,c,fa,g,j,n,p,z,dC,eA,fy,kH,nv,mY,iS,bK,bG,bL,fS,eL,nY,reduceCtorEq,aJ,aL,aP,eR,W,bI,aK,eB,ik,la,iC,dE,lC,iD i.e.gk,f,d,kA,eY,fO,nu]
 have u:i.e.s8=[]:=kK.1 p;by_cases v:¬i.e.fs.length=0
 ·simp only[a,b,c,fa,g,j,n,u,v,dC,eA,fy,kH,nv,mY,iS,bK,bG,bL,fS,eL,nY,reduceCtorEq,aJ,aL,aP,eR,W,bI,aK,eB,ik,la,iC,dE,lC,iD i.e.gk,f,d,kA,eY,fO,nu]
 have A:i.e.fs.length=0:=kK.1 v;simp only[a,b,c,fa,g,j,n,u,A,dC,eA,fy,kH,nv,mY,iS,bK,bG,bL,fS,eL,nY,reduceCtorEq,aJ,aL,aP,eR,W,bI,aK,eB,ik,la,iC,dE,lC,iD i.e.gk,f,d,kA,eY,fO,nu];cases w<;>simp[-Xm,d]
def vl(h:J)(l:List dJ)(d:D):Prop:=aR 3 bC l d∨∃a,d = .aO 3 a 0 l.length∧h[a]?=some (Ob.row bS 3 (l.map bC))
theorem Uf{h:J}{l:List dJ}{d:D}(a:vl h l d):aT tab bA d=some (.int .i64 l.length):=by
 rcases a with a|⟨b,rfl,_⟩
 ·exact ji a
 ·exact HO _ _ _ _
theorem HH{h:J}{a k T z:Nat}{rows:List (List D)}{p:dJ}(c:h[a]?=some (Ob.row T z rows))(b:rows[k]?=some (bC p)):aA tab h bS (.ptr a k 0)=some (.agg (bC p)):=by
 rw[BC,dT c,b];rfl
theorem Ue{h:J}{l:List dJ}{d:D}(a:vl h l d)(i:Nat)(p:dJ)(b:l[i]?=some p):∃c,aQ tab bA d (.int .i64 i)=some c∧aA tab h bS c=some (.agg (bC p)):=by
 have k:=(bO.1 b).1;rcases a with a|⟨j,rfl,f⟩
 ·exact⟨.aI (bC p),by rw[mc a];simp[-Xm,b],oZ p h⟩
 ·have g:(l.map bC)[i]?=some (bC p):=by rw[dH,b];rfl
  have e:(0:Int)≤(i:Int)∧(i:Int)<(l.length:Int):=by omega
  exact⟨.ptr j i 0,by rw[qm];simp[-Xm,e],HH f g⟩
theorem St(l:List dJ)(d:D)(fn:D)(j:dJ→Bool)(h:J)(z:vl h l d)(B:l.length≤9223372036854775807)(q:∀x,gu R fn [.agg (bC x)] h=some (.bool (j x),h)){t:Type}(k:bN→Option t)(X:Int→Option t)
   (w:∀v r,k (.ret,.int .i64 v::r,h)=X v) (y:∀r,k (.ext 0,r,h)=X (-1)):∀(i c:List dJ),l=c++i→∀a b e f,
   (cA (nI d fn (.int .i64 l.length)) [a,b,.int .i64 c.length,e,f] h).bind k=X (idx j c.length i):=by
 intro i
 induction i with
 | nil =>
  rintro c rfl a b e f;rw[jJ];simp[-Xm,nI,y,idx]
 | cons g i E =>
  rintro c rfl a b e f;have C:IntKind.wrap .i64 ((c.length:Int)+1)=(c++[g]).length:=by
   rw[cN (by omega) (by simp at B;omega)];simp[-Xm]
  have s:(c.length:Int)<(c++g::i).length:=by simp;omega
  rw[jJ];generalize p:c++g::i=u at *;have A:u[c.length]?=some g:=by rw[← p];exact rT _ _ _
  obtain⟨F,n,o⟩:=Ue z _ _ A;by_cases m:j g=true
  ·simp[-Xm,nI,n,o,s,q,m,w,idx]
  ·have:=E (c++[g]) (by simp[-Xm,← p]) a (.int .i64 c.length) (.bool true) (.bool (j g));simp only[← C]at this;simp[-Xm,nI,n,o,s,q,m,idx];simp[-Xm,m]at this;exact this
theorem T0(l:List dJ)(d:D)(fn:D)(a:dJ→Bool)(h:J)(b:vl h l d)(f:l.length≤9223372036854775807)(e:∀x,gu R fn [.agg (bC x)] h=some (.bool (a x),h)):
   R rH [d,fn] h=some (.int .i64 (idx a 0 l),h):=by
 rw[Gc];simp only[xy,W,Uf b,aU];rw[show(0:Int)=(([]:List dJ).length:Int)from rfl,St l d fn a h b f e _ (λc=>some (.int .i64 c,h)) (λc g=>by simp) (λg=>by simp) l [] rfl];rfl
theorem We(l:List dJ)(d:D)(h:J)(p:aR 3 bC l d)(u:l.length≤1000000):∃d' h',R zb [d] h=some (d',h')∧h.length≤h'.length∧(∀f,f<h.length→h'[f]?=h[f]?) ∧
  ((l=[]∧aR 3 bC [] d')∨∃a,h.length≤a∧d' = .aO 3 a 0 l.length∧h'[a]?=some (Ob.row bS 3 (l.map bC))):=by
 rw[MG];rcases p with⟨rfl,rfl⟩|⟨b,rfl⟩
 ·exact⟨.aB,h,by
    have e:V tab .eql bA .aB .aB=some (.bool true):=id rfl;simp[-Xm,xz,e],aX _,λ_ _=>rfl,.inl ⟨rfl,.aB _ _⟩⟩
 ·obtain⟨g,h',k,q,s,r⟩:=Fq (T:=tab) (t:=bA) (i:=qF) (j:=px) (h:=h) (id rfl) (id rfl) (id rfl) (by decide) (y :=.sl 3 b (l.map bC)) (iq _ _ _ _) (lK (by have:px.gI=32:=rfl;rw[this,eQ];omega) (by rw[eQ];omega));have m:cW tab h bA bA (.sl 3 true []) (.sl 3 b (l.map bC))=some (g,h'):=k;have e:V tab .eql bA (.sl 3 b (l.map bC)) .aB=some (.bool false):=id rfl;refine⟨g,h',?_,q,s,?_⟩
  ·simp only[xz,W,e,aK,aP,aL,Lk,m,bR]
  ·rcases r with⟨rfl,c⟩|⟨rfl,c⟩|⟨a,n,rfl,o⟩
   ·have:l=[]:=by simpa using c
    exact .inl ⟨this,.inr ⟨true,rfl⟩⟩
   ·have:l=[]:=by simpa using c
    exact .inl ⟨this,.aB _ _⟩
   ·exact .inr ⟨a,n,by rw[eQ];rfl,o⟩
theorem Bm{i:Type}(a:i→Bool):∀(l:List i) (n:Nat),(idx a n l = -1∧∀x∈l,a x=false)∨∃k,idx a n l=((n+k:Nat):Int)∧k<l.length∧(l.take (k+1)).filter (λx => !a x)=l.take k∧∃x∈l,a x=true
 |[],n =>.inl ⟨rfl,by simp⟩
 | x::r,n=>by
  by_cases b:a x=true
  ·exact .inr ⟨0,by simp[-Xm,idx,b],by simp,by simp[-Xm,b],x,by simp,b⟩
  ·have h:a x=false:=by simpa using b
   have g:idx a n (x::r)=idx a (n+1) r:=by simp[-Xm,idx,b]
   rcases Bm a r (n+1)with⟨d,e⟩|⟨k,d,e,j,f,c,m⟩
   ·left;refine⟨by rw[g];exact d,λf c=>?_⟩;rcases dW.1 c with rfl|c
    ·exact h
    ·exact e f c
   ·right;refine⟨k+1,by rw[g,d];omega,by simpa using e,?_,f,by simp[-Xm,c],m⟩;rw[yk,kO,bE (by simp[-Xm,h]),j,yk]
theorem Wg (l:List dJ) (fn:D) (c:dJ→Bool) (h:J) (a:Nat) (A:h[a]?=some (Ob.row bS 3 (l.map bC))) (av:l.length≤1000000) (N:∀x g,gu R fn [.agg (bC x)] g=some (.bool (c x),g)) :
  ∃h' z,R vR [.aO 3 a 0 l.length,fn] h=some (.aO 3 a 0 (l.filter λx => !c x).length,h')∧bW a h h'∧h'[a]?=some (Ob.row bS 3 ((l.filter λx => !c x).map bC++z)):=by
 suffices Wp (R vR [.aO 3 a 0 l.length,fn] h) (λL=>L.1 = .aO 3 a 0 (l.filter λx => !c x).length∧bW a h L.2∧∃z,L.2[a]?=some (Ob.row bS 3 ((l.filter λx => !c x).map bC++z))) by
  obtain⟨⟨x,h'⟩,o,rfl,w,z,F⟩:=this;exact⟨h',z,o,w,F⟩
 have aw:=(bO.1 A).1;have ay:∀(g:J) (B:D),bW a h g→True:=λ_ _ _=>trivial
 rw[MZ];simp only[Dr,W,aU,T0 l _ fn c h (.inr ⟨a,rfl,A⟩) (by omega) (λx=>N x h),fa,bR];rcases Bm c l 0 with⟨o,w⟩|⟨v,o,w,F,_⟩
 ·have ad:l.filter (λx => !c x)=l:=by
    rw[sF];intro x an;simp[-Xm,w x an]
  simp only[o,bK,aK,aJ,ad];exact .some ⟨rfl,.refl _ _,[],by simpa using A⟩
 ·rw [dF]at o;have ah:¬((v:Int) = -1):=by omega
  have al:=fD v (by omega);simp only[o,ah,bG,aK,aP,aL,cY,al,W];refine Wp.loop (λn C g=>∃(i j:Nat) (q s u:D) (b:List dJ),n+j=l.length∧C=[.int .i64 i,.int .i64 j,q,s,u]∧b.length=l.length∧i<j∧g[a]?=some (Ob.row bS 3 (b.map bC))∧bW a h g∧b.take i=(l.take j).filter (λx => !c x)∧∀d,j≤d→b[d]?=l[d]?)
   (λr=>r.1 = .ext 0∧∃(i:Nat) (q s u B:D) (b:List dJ),r.2.1=[.int .i64 i,q,s,u,B]∧b.length=l.length∧i<l.length∧r.2.2[a]?=some (Ob.row bS 3 (b.map bC))∧bW a h r.2.2∧b.take i=l.filter (λx => !c x))
   (l.length - (v+1)) ⟨v,v+1,.any,.any,.any,l,by omega,rfl,rfl,by omega,A,.refl _ _,F.symm,λ_ _=>rfl⟩ ?_ ?_
  ·rintro n C g ⟨i,j,q,s,u,b,ax,rfl,y,au,f,sm,p,G⟩;simp only[Ds,bD,bY,W,aU,HO,cI];refine Wp.dS ?_ ?_
   ·intro k;have k:j<l.length:=by
     have:(j:Int)<(l.length:Int):=by simpa using k
     omega
    have E:l[j]?=some l[j]:=cJ k;have M:b[j]?=some l[j]:=by rw[G j (aX _)];exact E
    have X:=fD j (by omega);have am:=fD i (by omega);have af:(0:Int)≤(j:Int)∧(j:Int)<(l.length:Int):=by omega
    have ae:(0:Int)≤(i:Int)∧(i:Int)<(l.length:Int):=by omega
    have I:(l.take (j+1)).filter (λx => !c x)=(l.take j).filter (λx => !c x)++[l[j]].filter (λx => !c x):=by
     rw[gA,E,lu];rfl
    generalize l[j]=x at E M I;have ap:(b.map bC)[j]?=some (bC x):=by rw[dH,M];rfl
    have ac:gY 3 (.agg (bC x))=some (.aI (bC x)):=mP 3 _ rfl;simp only[qm,af,gX,aJ,dF,dY,W,HH f ap,ac,oZ,N,fK];cases Q:c x
    ·have ag:i<b.length:=by omega
     have ao:(b.map bC)[i]?=some (bC b[i]):=by rw[dH,cJ ag];rfl
     simp only[fO,aK,aJ,ae,gX,W,aU];refine CW f ao (by rfl) (by simp[-Xm,bC]) (by rfl) λar aa aq=>?_
     rw[show dQ (bC b[i]) 0 (cP (.agg (bC x)))=bC x from id rfl,Cz]at aa;simp only[W,cY,am,X,gV,cL,bD];refine .some (.inl ⟨rfl,n - 1,by omega,i+1,j+1,_,_,_,b.set i x,by omega,rfl,by simpa using y,by omega,aa,sm.trans aq,?_,λd H=>?_⟩)
     ·rw[I,← p,gA,lx (by omega),List.take_set_of_le (aX _)];simp[-Xm,Q]
     ·rw[jS (by omega)];exact G d (by omega)
    ·simp only[eY,aK,aP,aL,W,cY,X,gV,cL,bD];refine .some (.inl ⟨rfl,n - 1,by omega,i,j+1,_,_,_,b,by omega,rfl,y,by omega,f,sm,?_,λd H=>G d (by omega)⟩);rw[I,← p];simp[-Xm,Q]
   ·intro k;have k:¬j<l.length:=by
     have:¬(j:Int)<(l.length:Int):=by simpa using k
     omega
    refine .some (.inr ⟨by simp,rfl,i,_,_,_,_,b,rfl,y,by omega,f,sm,?_⟩);rw[p,iz (by omega)]
  ·rintro⟨x,C,g⟩ ⟨rfl,i,q,s,u,B,b,rfl,y,P,f,sm,p⟩;have ab:(l.filter λx => !c x).length=i:=by rw[← p];simp[-Xm];omega
   have aj:gj tab bA true false false [.aO 3 a 0 l.length,.int .i64 i]=some (.aO 3 a i (l.length - i)):=
    (TE (T:=tab) (t:=bA) (e:=bS) (z:=3) (i:=qF) (j:=px) (id rfl) (id rfl) (id rfl) (id rfl) (by decide) (r:=0) (n:=l.length) (m:=i) P (jr _)).trans (by rw[dF])
   have ak:gj tab bA false true false [.aO 3 a 0 l.length,.int .i64 i]=some (.aO 3 a 0 i):=Ir (T:=tab) (t:=bA) (e:=bS) (z:=3) (i:=qF) (j:=px) (id rfl) (id rfl) (id rfl) (id rfl) (by decide) (Nat.le_of_lt P);obtain⟨z,K⟩:=LG (T:=tab) (t:=bA) (i:=qF) (j:=px) (h:=g) (n:=l.length - i) (r:=i) (id rfl) (id rfl) (id rfl) (by decide) f (by omega);have K:p3 tab g bA (.aO 3 a i (l.length - i))=some (.bZ [],g.set a (Ob.row bS 3 ((b.map bC).take i++z))):=K;have ai:a<g.length:=(bO.1 f).1;simp only[dV,cL,bD,bY,W,aj,K,ak,bR];refine .some ⟨by rw[ab],sm.trans ⟨by simp,λd H=>jS (Ne.symm H)⟩,z,?_⟩;rw[lx ai,← u7,p]
structure qS (i:It) (m:Int) (j:It):Prop where
 r:j.r=i.r
 a0:j.e.a0=i.e.a0
 a1:j.e.a1=i.e.a1
 a3:j.e.a3=i.e.a3
 a5:j.e.a5=i.e.a5
 a6:j.e.a6=i.e.a6
 s7:j.e.s7=i.e.s7
 s8:j.e.s8=i.e.s8
 ls:j.e.ls=i.e.ls.filter (λl=>decide (m≤l.off))
 fs:j.e.fs=i.e.fs
 a2:∃x,(i.e.ls.filter λl=>decide (m≤l.off)).head?=some x∧j.e.a2=x.off
def gN(i:It)(m:Int)(b:Bool)(j:It):Prop:=
 (m≤i.e.a2∧b=true∧j=i)∨(¬m≤i.e.a2∧(i.e.a3≤m∨∀a∈i.e.ls,a.off<m)∧b=false∧j=tQ)∨(¬m≤i.e.a2∧m<i.e.a3∧(∃a∈i.e.ls,m≤a.off)∧b=true∧qS i m j)
theorem gN.same{i j n:It}{m:Int}{o p:Bool}(h:gN i m o j)(h':gN i m p n):o=p∧jk j n=true:=by
 rcases h with⟨d,rfl,rfl⟩|⟨d,e,rfl,rfl⟩|⟨d,e,⟨l,k,q⟩,rfl,a⟩
 ·rcases h' with⟨c,rfl,rfl⟩|⟨c,_⟩|⟨c,_⟩
  ·exact⟨rfl,Jz _⟩
  ·exact absurd d c
  ·exact absurd d c
 ·rcases h' with⟨c,_⟩|⟨_,_,rfl,rfl⟩|⟨_,f,⟨l,k,q⟩,_⟩
  ·exact absurd c d
  ·exact⟨rfl,Jz _⟩
  ·rcases e with e|e
   ·omega
   ·have:=e l k;omega
 ·rcases h' with⟨c,_⟩|⟨_,f,rfl,rfl⟩|⟨_,_,_,rfl,b⟩
  ·exact absurd c d
  ·rcases f with f|f
   ·omega
   ·have:=f l k;omega
  ·obtain⟨v,s,t⟩:=a.a2;obtain⟨w,g,u⟩:=b.a2;rw[s]at g;injection g with g;subst g;exact⟨rfl,by simp[-Xm,jk,jN,a.r,b.r,a.a0,b.a0,a.a1,b.a1,t,u,a.a3,b.a3,a.a5,b.a5,a.a6,b.a6,a.s7,b.s7,a.s8,b.s8,a.ls,b.ls,a.fs,b.fs]⟩
theorem UF(l:dJ)(n:Int)(h:J):R vQ [.agg (bC l),.aI [.int .i64 n]] h=some (.bool (decide (n≤l.off)),h):=by
 rw[MY];simp[-Xm,Dq,bC]
theorem UG(l:dJ)(n:Int)(h:J):R vS [.agg (bC l),.aI [.int .i64 n]] h=some (.bool (decide (l.off<n)),h):=by
 rw[M1];simp[-Xm,Dt,bC]
theorem kC{g:J}{a T z:Nat}{i:It}(b:g[a]?=some (Ob.row T z [aE i])):aA tab g aF (.ptr a 0 0)=some (.agg (aE i)):=qp b rfl
theorem vC{h g:J}{j:It}{b:Bool}(f:h.length≤g.length)(e:∀c,c<h.length→g[c]?=h[c]?):scope h g (.bZ [.agg (aE j),.bool b])=some (.bZ [.agg (aE j),.bool b],h):=by
 refine iu ?_ (.bZ _ λd a=>?_) f e
 ·simp only[Qg,wv,gO,pQ,Qc];rw[lL λd a=>qj h.length g 1 j d a]
 ·simp at a;rcases a with rfl|rfl
  ·exact qk _ _
  ·constructor
theorem UA(i:It)(m:Int)(h:J)(P:i.e.ls.length≤1000000):∃j l,R vO [.agg (aE i),.int .i64 m] h=some (.bZ [.agg (aE j),.bool l],h)∧gN i m l j:=by
 suffices Wp (R vO [.agg (aE i),.int .i64 m] h) (λB=>B.2=h∧∃j l,B.1 = .bZ [.agg (aE j),.bool l]∧gN i m l j) by
  obtain⟨⟨b,ac⟩,z,rfl,j,l,rfl,A⟩:=this;exact⟨j,l,z,A⟩
 rw[MU];simp only[Dk,W,aU,IF];rw[so aF 11 h (aE i) rfl (by omega)];generalize L:aZ h aF 11 [aE i]=x;have af:x.length=h.length+1:=by rw[← L];exact hN _ _ _ _
 have r:∀a,a<h.length→x[a]?=h[a]?:=λa f=>by rw[← L];exact lO _ _ _ _ f
 have s:x[h.length]?=some (Ob.row aF 11 [aE i]):=by rw[← L];exact lN _ _ _ _
 clear L;simp only[W,af];generalize M:aZ x aF 11 [[.str [],.int .i64 0,.int .i64 0,.int .i64 0,.int .i64 0,.aB,.int .i64 0,.int .i64 0,.str [],.str [],.aB]]=o;have bm:o.length=h.length+2:=by rw[← M,hN];omega
 have ad:∀a,a<h.length+1→o[a]?=x[a]?:=λa f=>by rw[← M];exact lO _ _ _ _ (by omega)
 have p:o[h.length+1]?=some (Ob.row aF 11 [[.str [],.int .i64 0,.int .i64 0,.int .i64 0,.int .i64 0,.aB,.int .i64 0,.int .i64 0,.str [],.str [],.aB]]):=by
  rw[← M,← af];exact lN _ _ _ _
 replace s:=(ad h.length (by omega)).trans s;replace r:∀a,a<h.length→o[a]?=h[a]?:=λa f=>(ad a (by omega)).trans (r a f)
 clear M ad af;have t:o.row h.length 0=some [.str i.r,.int .i64 i.e.a0,.int .i64 i.e.a1,.int .i64 i.e.a2,.int .i64 i.e.a3,i.e.ld,.int .i64 i.e.a5,.int .i64 i.e.a6,.str i.e.s7,.str i.e.s8,i.e.fd]:=dT s;simp only[eB,kh,l8,nU,mZ,W,fB,nr,t,iJ,gx,iK,dF,ig];refine Wp.dS ?_ ?_
 ·intro q;have q:m≤i.e.a2:=by simpa using q
  simp only[kC s,W];refine jP p (by rfl) (by rfl) (by simp) (by rfl) λy g C=>?_
  replace g:y[h.length+1]?=some (Ob.row aF 11 [aE i]):=g;simp only[kC g,W,jK];rw[vC (by have:=C.1;omega) (λa f=>(C.2 a (by omega)).trans (r a f))];exact .some ⟨rfl,i,true,rfl,.inl ⟨q,rfl,rfl⟩⟩
 ·intro q;have q:¬m≤i.e.a2:=by simpa using q
  rw[Jj i.e.ls i.e.ld (.fn (.func vQ) [] [.aI [.int .i64 m]]) (λd=>decide (m≤d.off)) o i.e.fZ i.e.rW (λb=>by rw[s6];exact UF b m o)];have ae:=Bm (λd:dJ=>decide (m≤d.off)) i.e.ls 0;generalize idx (λd:dJ=>decide (m≤d.off)) 0 i.e.ls=av at ae;simp only[W,fB,t,iJ,gx,iK,ju,cI];have ak:(i.e.a3≤m∨∀d∈i.e.ls,d.off<m)→Wp ((eX tab aF [] []).bind λbj=>(bT tab o aF (.ptr (h.length+1) 0 0) bj).bind λac=>(aA tab ac aF (.ptr (h.length+1) 0 0)).bind λF=>scope h ac (aH [F,.bool false])) (λB:D × J=>B.2=h∧∃j l,B.1 = .bZ [.agg (aE j),.bool l]∧gN i m l j):=λa4=>by
   simp only[Fx,W];refine jP p (by rfl) (by rfl) (by simp) (by rfl) λy g C=>?_
   replace g:y[h.length+1]?=some (Ob.row aF 11 [aE tQ]):=g;simp only[kC g,W,jK];rw[vC (by have:=C.1;omega) (λa f=>(C.2 a (by omega)).trans (r a f))];exact .some ⟨rfl,tQ,false,rfl,.inr (.inl ⟨q,a4,rfl,rfl⟩)⟩
  by_cases Q:i.e.a3≤m
  ·simp only[Q,bK,bL,reduceCtorEq,aL,aJ,eR,W,bI,aK];exact ak (.inl Q)
  by_cases ao:av<0
  ·simp only[Q,ao,bK,bG,bL,aJ,aP,aL,cI,W,bI,aK];refine ak (.inr λd P=>?_);rcases ae with⟨_,A⟩|⟨u,z,_⟩
   ·have:=A d P;simp at this;omega
   ·omega
  obtain⟨u,bo,ap,am⟩:∃u,av=((0+u:Nat):Int)∧u<i.e.ls.length∧∃d∈i.e.ls,m≤d.off:=by
   rcases ae with⟨z,_⟩|⟨u,z,A,_,bk,bh,bi⟩
   ·omega
   ·exact⟨u,z,A,bk,bh,by simpa using bi⟩
  simp only[Q,ao,bG,bL,aJ,aP,aL,cI,W,bI,aK,nr,t,iJ,gx,iK];obtain⟨bl,y,aj,ag,I,a7⟩:=We i.e.ls i.e.ld o i.e.fZ P;rcases a7 with⟨az,_⟩|⟨k,bq,rfl,aq⟩
  ·rw[az]at ap;simp at ap
  obtain⟨al,bt,G,E,n⟩:=Wg i.e.ls (.fn (.func vS) [] [.aI [.int .i64 m]]) (λd=>decide (d.off<m)) y k aq P (λb ax=>by rw[s6];exact UG b m ax);have a8:(i.e.ls.filter λb => !decide (b.off<m))=i.e.ls.filter λb=>decide (m≤b.off):=by
   congr 1;funext b;by_cases au:b.off<m
   ·have:¬m≤b.off:=by omega
    simp[-Xm,au,this]
   ·have:m≤b.off:=by omega
    simp[-Xm,au,this]
  simp only[a8]at G n;generalize N:i.e.ls.filter (λb=>decide (m≤b.off))=c at G n;have bd:∃b T,c=b::T:=by
   obtain⟨d,be,ag⟩:=am;have:d∈c:=by rw[← N];exact gh.2 ⟨be,by simpa using ag⟩
   cases c with
   |nil=>simp at this
   |cons b T=>exact⟨b,T,rfl⟩
  have bp:c.length≤i.e.ls.length:=by rw[← N];exact sH _ _
  simp only[aj,G,W];replace s:=((E.2 h.length (by omega)).trans (I h.length (by omega))).trans s;replace p:=((E.2 (h.length+1) (by omega)).trans (I (h.length+1) (by omega))).trans p;replace r:∀a,a<h.length→al[a]?=h[a]?:=λa f=>((E.2 a (by omega)).trans (I a (by omega))).trans (r a f)
  have bn:h.length+2≤al.length:=by have:=E.1;omega
  clear t aj G E I aq ag;refine pB s (by rfl) (by rfl) (by simp[-Xm,aE,bV]) (by rfl) λab v w=>?_
  replace v:ab[h.length]?=some (Ob.row aF 11 [[.str i.r,.int .i64 i.e.a0,.int .i64 i.e.a1,.int .i64 i.e.a2,.int .i64 i.e.a3,.aO 3 k 0 c.length,.int .i64 i.e.a5,.int .i64 i.e.a6,.str i.e.s7,.str i.e.s8,i.e.fd]]):=v;replace p:=(w.2 (h.length+1) (by omega)).trans p;replace n:=(w.2 k (by omega)).trans n;have t:ab.row h.length 0=some [.str i.r,.int .i64 i.e.a0,.int .i64 i.e.a1,.int .i64 i.e.a2,.int .i64 i.e.a3,.aO 3 k 0 c.length,.int .i64 i.e.a5,.int .i64 i.e.a6,.str i.e.s7,.str i.e.s8,i.e.fd]:=dT v;obtain⟨b,T,ah⟩:=bd;have bc:(0:Int)≤0∧(0:Int)<(c.length:Int):=by rw[ah];simp[-Xm]
  have ar:ab.row k 0=some [.int .i64 b.off,.int .i64 b.len,.str b.eD]:=by rw[dT n,ah];rfl
  simp only[W,nr,t,iJ,gx,iK,qm,bc,gX,aJ,dF,Int.toNat_zero,k5,fB,ar];refine kr v (by rfl) (by rfl) (by simp) (by rfl) λay aw X=>?_
  replace v:ay[h.length]?=some (Ob.row aF 11 [[.str i.r,.int .i64 i.e.a0,.int .i64 i.e.a1,.int .i64 b.off,.int .i64 i.e.a3,.aO 3 k 0 c.length,.int .i64 i.e.a5,.int .i64 i.e.a6,.str i.e.s7,.str i.e.s8,i.e.fd]]):=aw;replace w:=w.trans X;replace p:=(X.2 (h.length+1) (by omega)).trans p;replace n:=(X.2 k (by omega)).trans n;clear aw X t ar;simp only[qp v rfl,W];refine jP p (by rfl) (by rfl) (by simp) (by rfl) λH g ai=>?_
  replace g:H[h.length+1]?=some (Ob.row aF 11 [[.str i.r,.int .i64 i.e.a0,.int .i64 i.e.a1,.int .i64 b.off,.int .i64 i.e.a3,.aO 3 k 0 c.length,.int .i64 i.e.a5,.int .i64 i.e.a6,.str i.e.s7,.str i.e.s8,i.e.fd]]):=g;replace n:=(ai.2 k (by omega)).trans n;simp only[qp g rfl,W,jK];have bg:aR 3 bC c (.sl 3 false (c.map bC)) :=.mk _ _ _ _;have bb:cV h.length H 2 (.aO 3 k 0 c.length) = .sl 3 false (c.map bC):=by
   rw[G1 (by omega) n,gx,vd (by simp),lL λbr bf=>by
    obtain⟨aa,_,rfl⟩:=e8.1 bf;exact lL λF K=>r3 _ _ _ aa F K]
  have ba:cV h.length H 2 i.e.fd=i.e.fd:=uz i.e.gk (λaa _=>vI _ H _ aa);generalize an:(⟨i.r,⟨i.e.a0,i.e.a1,b.off,i.e.a3,c,.sl 3 false (c.map bC),i.e.a5,i.e.a6,i.e.s7,i.e.s8,i.e.fs,i.e.fd,i.e.gk,i.e.hl,bg,by omega⟩⟩:It)=j;have a9:qS i m j:=by subst an;exact⟨rfl,rfl,rfl,rfl,rfl,rfl,rfl,rfl,N.symm,rfl,b,by rw[N,ah];rfl,rfl⟩
  rw[iu (d' :=.bZ [.agg (aE j),.bool true]) (by subst an;simp[-Xm,aE,bV,ba,bb]) (.bZ _ λF K=>by
   simp at K;rcases K with rfl|rfl
   ·exact qk _ _
   ·constructor) (by have:=w.1;have:=ai.1;omega) (λa f=>((ai.2 a (by omega)).trans (w.2 a (by omega))).trans (r a f))]
  exact .some ⟨rfl,j,true,rfl,.inr (.inr ⟨q,by omega,am,rfl,a9⟩)⟩
theorem FQ:∀(a b:aD),Lib.compareBytes a b = - Lib.compareBytes b a
 |[],[]=>rfl
 |[],_::_=>rfl
 |_::_,[]=>rfl
 | x::a,y::b=>by
  have f:=FQ a b;simp only[Lib.compareBytes];by_cases c:x<y
  ·have d:¬y<x:=by
     have:=sU.1 c;intro e;have:=sU.1 e;omega
   simp[-Xm,c,d]
  ·by_cases d:y<x
   ·simp[-Xm,c,d]
   ·simp[-Xm,c,d,f]
theorem KZ{l:List (aD × aD)}(h:uK l):jB l=l:=by
 have j:∀a,dn cF 0 a l=l:=λa=>by
  cases a with
  |zero=>rfl
  | succ a =>
   unfold dn;split
   ·rename_i d e m n;split
    ·rename_i i;exfalso;have f:=(h a e d n m).1;have p:=(vt e.1 d.1).2 f;have q:=FQ d.1 e.1;have g:=i.2;unfold cF at g;omega
    ·rfl
   ·rfl
 have k:∀b c,jI cF 0 c b l=l:=λb=>by
  induction b with
  |zero=>intro c;rfl
  |succ b o=>intro c;unfold jI;rw[j];exact o _
 exact k _ _
theorem Ft:∀{l:List (aD × aD)},uK l→iM l=false
 |[],_=>rfl
 |[_],_=>rfl
 | x::y::r,h=>by
  unfold iM;have a:=(h 0 x y rfl rfl).2;have b:(y.1==x.1)=false:=by simp;exact λc=>a c.symm
  rw[b,qL];exact Ft λf g i d e=>h (f+1) g i d e
theorem KY{l:List (aD × aD)}(h:uK l)(d:l.length≤32)(c:∀p∈l,gK p.1=true):eN l=(0,l):=by
 have a:¬32<l.length:=by omega
 have b:l.all (λp=>gK p.1)=true:=gg.2 c;simp only[eN,a,aL,b,aJ,KZ h,Ft h,aP]
theorem H0(b m:Int)(g:200≤m)(j:b≤60000):∀(d:List dJ) (a:Int),0≤a→gw a d b→iE b m a d=0
 |[],a,_,_=>rfl
 | l::r,a,q,h=>by
  obtain⟨e,h2,o,p,c⟩:=h;have s:=mi r _ _ c;have k:IntKind.wrap .i64 (b - a)=b - a:=cN (by omega) (by omega);have n:IntKind.wrap .i64 (a+l.len)=a+l.len:=cN (by omega) (by omega);unfold iE;rw[bE,cH (by omega),n]
  ·exact H0 b m g j r _ (by omega) c
  ·rw[k];refine⟨e,by omega,by omega,λf=>?_⟩;obtain⟨i,t⟩:=f;subst i;have c:a+l.len=b:=c;omega
theorem Sd{e:Ev}(m:Int)(f:200≤m)(c:0≤e.a2)(g:e.a3≤60000)(h:1≤e.ls.length)(i:e.ls.length≤40)(d:gw e.a2 e.ls e.a3):gL e m=0:=by
 have a:¬e.ls.length=0:=by omega
 have b:¬40<e.ls.length:=by omega
 simp only[gL,a,b,aL];exact H0 _ _ f g _ _ c d
theorem Tx{l:List (aD × aD)}(h:MF l):uK l:=by
 have i:kD.Pairwise λc d=>Op.bytesLess c d=true∧c≠d:=by decide
 have:=i.sublist h.1;rw[yh]at this;intro e j k a b;obtain⟨f,a⟩:=bO.1 a;obtain⟨g,b⟩:=bO.1 b;have:=this e (e+1) (by simpa using f) (by simpa using g) (by omega);simpa[-Xm,a,b]using this
theorem Tz{l:List (aD × aD)}(h:MF l):eN l=(0,l):=by
 have e:l.length≤4:=by
  have:=h.1.length_le;simpa using this
 refine KY (Tx h) (by omega) λa c=>?_
 have b:a.1∈kD:=h.1.subset (e8.2 ⟨a,c,rfl⟩);exact(show ∀d∈kD,gK d=true by decide) _ b
theorem Ty{l:List (aD × aD)}(h:MF l):l.length≤4:=by
 have:=h.1.length_le;simpa using this
end Go.Proofs.YtinlnkhheafjaaaGreatDoor
namespace Go.Eng
abbrev jT:=@List.pairwise_append
abbrev pO:=@List.drop_length
abbrev yR:=@decide_eq_false_iff_not
abbrev E5:=@List.perm_middle
abbrev E6:=@List.set_append_right
end Go.Eng
namespace Go.Proofs.YtinlnkhheafjaaaGreatDoor
open Go.Eng Go.Pi
open Option renaming bind_some → Xm
structure C4 (e:Ev):Prop where
 h0:0≤e.a0
 h2:e.a0≤2
 f0:0≤e.a1
 f2:e.a1≤2
 a0:0≤e.a2
 b9:e.a3≤1000
 ch:gw e.a2 e.ls e.a3
 l1:1≤e.ls.length
 l3:e.ls.length≤3
 t0:0≤e.a5
 t9:e.a5≤255000
 wt:e.a6∈qq
 tr:e.s7∈pd
 st:e.s8∈pe
 fs:MF e.fs
theorem sw.k{e:Ev}(h:sw e):C4 e:=⟨h.h0,h.h2,h.f0,h.f2,h.a0,by have:=mi _ _ _ h.ch;have:=h.a9;have:=h.l3;omega,h.ch,h.l1,h.l3,h.t0,h.t9,h.wt,h.tr,h.st,h.fs⟩
theorem Tf(zs:List Int)(d:D)(n:Int)(h:J)(f:kM .u8 zs d)(q:0≤n)(v:n≤400)(m:∀z∈zs,0≤z∧z<256)(w:zs.length≤9223372036854775807):∃h',R rG [d,.int .i64 n] h=some (.ptr h.length 0 0,h')∧CM h' h.length∧h'.length=h.length+1∧∀b,b<h.length→h'[b]?=h[b]?:=by
 rw[ry];simp only[C7,W,aU,G6 f,cZ];have l:∀a c,kM .u8 c a→c.length≤400→(∀z∈c,0≤z∧z<256)→∃h',((eX tab jO [0] [a]).bind λu=>(py jO 2 h u).bind λo=>some (aH [o.1],o.2))=some (.ptr h.length 0 0,h')∧CM h' h.length∧h'.length=h.length+1∧∀b,b<h.length→h'[b]?=h[b]?:=λa c e p k=>by
  rw[Lb a (Qx e)];simp only[W];rw[so jO 2 h [a,.int .i64 0] rfl (by omega)];exact⟨_,rfl,⟨a,c,0,lN _ _ _ _,e,p,by omega,k⟩,hN _ _ _ _,λb r=>lO _ _ _ _ r⟩
 by_cases g:n<(zs.length:Int)
 ·obtain⟨a,s,e⟩:=Qu (T:=tab) (t:=j7) (i:=CP) (j:=xh) (id rfl) (id rfl) (id rfl) (id rfl) f (k2 :=.i64) q (Int.le_of_lt g);simp only[g,bK,aK,aJ,s,W,cL,bD];exact l a _ e (by simp;omega) λz k=>m z (ja k)
 ·simp only[g,bG,aK,aP,aL,W,cL,bD];exact l d zs f (by omega) m
theorem UB(i:It)(m:Int)(h:J)(an:i.e.ls.length≤1000000):∃j r,R vP [.agg (aE i),.int .i64 m] h=some (.bZ [.agg (aE j),.bool r],h)∧gN i m r j:=by
 suffices Wp (R vP [.agg (aE i),.int .i64 m] h) (λL=>L.2=h∧∃j r,L.1 = .bZ [.agg (aE j),.bool r]∧gN i m r j) by
  obtain⟨⟨s,aa⟩,ax,rfl,j,r,rfl,ay⟩:=this;exact⟨j,r,ax,ay⟩
 rw[MV];simp only[Dl,W,aU];rw[so aF 11 h (aE i) rfl (by omega)];generalize N:aZ h aF 11 [aE i]=H;have k:H.length=h.length+1:=by rw[← N];exact hN _ _ _ _
 have p:∀a,a<h.length→H[a]?=h[a]?:=λa d=>by rw[← N];exact lO _ _ _ _ d
 have y:H[h.length]?=some (Ob.row aF 11 [aE i]):=by rw[← N];exact lN _ _ _ _
 clear N;simp only[W,k];generalize P:aZ H aF 11 [[.str [],.int .i64 0,.int .i64 0,.int .i64 0,.int .i64 0,.aB,.int .i64 0,.int .i64 0,.str [],.str [],.aB]]=w;have bo:w.length=h.length+2:=by rw[← P,hN];omega
 have ab:∀a,a<h.length+1→w[a]?=H[a]?:=λa d=>by rw[← P];exact lO _ _ _ _ (by omega)
 have z:w[h.length+1]?=some (Ob.row aF 11 [[.str [],.int .i64 0,.int .i64 0,.int .i64 0,.int .i64 0,.aB,.int .i64 0,.int .i64 0,.str [],.str [],.aB]]):=by
  rw[← P,← k];exact lN _ _ _ _
 replace y:=(ab h.length (by omega)).trans y;replace p:∀a,a<h.length→w[a]?=h[a]?:=λa d=>(ab a (by omega)).trans (p a d)
 clear P ab k;have aq:w.row h.length 0=some [.str i.r,.int .i64 i.e.a0,.int .i64 i.e.a1,.int .i64 i.e.a2,.int .i64 i.e.a3,i.e.ld,.int .i64 i.e.a5,.int .i64 i.e.a6,.str i.e.s7,.str i.e.s8,i.e.fd]:=dT y;simp only[eB,kh,l8,nU,mZ,W,fB,nr,aq,iJ,gx,iK,dF,ig];have aj:∀c,(∀a,a<h.length→c[a]?=h[a]?)→h.length+2≤c.length→c[h.length+1]?=some (Ob.row aF 11 [[.str [],.int .i64 0,.int .i64 0,.int .i64 0,.int .i64 0,.aB,.int .i64 0,.int .i64 0,.str [],.str [],.aB]])→¬m≤i.e.a2→(i.e.a3≤m∨∀b∈i.e.ls,b.off<m) →
   Wp ((eX tab aF [] []).bind λbk=>(bT tab c aF (.ptr (h.length+1) 0 0) bk).bind λaa=>(aA tab aa aF (.ptr (h.length+1) 0 0)).bind λai=>scope h aa (aH [ai,.bool false])) (λL:D × J=>L.2=h∧∃j r,L.1 = .bZ [.agg (aE j),.bool r]∧gN i m r j):=λc p k z l x=>by
  simp only[Fx,W];refine jP z (by rfl) (by rfl) (by simp) (by rfl) λI o M=>?_
  replace o:I[h.length+1]?=some (Ob.row aF 11 [aE tQ]):=o;simp only[kC o,W,jK];rw[vC (by have:=M.1;omega) (λa d=>(M.2 a (by omega)).trans (p a d))];exact .some ⟨rfl,tQ,false,rfl,.inr (.inl ⟨l,x,rfl,rfl⟩)⟩
 refine Wp.dS ?_ ?_
 ·intro l;have l:m≤i.e.a2:=by simpa using l
  simp only[kC y,W];refine jP z (by rfl) (by rfl) (by simp) (by rfl) λI o M=>?_
  replace o:I[h.length+1]?=some (Ob.row aF 11 [aE i]):=o;simp only[kC o,W,jK];rw[vC (by have:=M.1;omega) (λa d=>(M.2 a (by omega)).trans (p a d))];exact .some ⟨rfl,i,true,rfl,.inl ⟨l,rfl,rfl⟩⟩
 ·intro l;have l:¬m≤i.e.a2:=by simpa using l
  simp only[fB,aq,iJ,gx,iK,W,ju];refine Wp.dS ?_ ?_
  ·intro Q;exact aj w p (by omega) z l (.inl (by simpa using Q))
  intro Q;have Q:¬i.e.a3≤m:=by simpa using Q
  refine Wp.loop (λT X c=>∃s t G,∃n:Nat,X=[s,.int .i64 n,t,G]∧T+n=i.e.ls.length∧h.length+2≤c.length∧(∀a,a<h.length+2→c[a]?=w[a]?)∧Own c (h.length+2) bS 3 (((i.e.ls.take n).filter λb=>decide (m≤b.off)).map bC) s)
   (λF=>F.1 = .ext 0∧h.length+2≤F.2.2.length∧(∀a,a<h.length+2→F.2.2[a]?=w[a]?)∧∃s t G ah,F.2.1=[s,t,G,ah]∧Own F.2.2 (h.length+2) bS 3 ((i.e.ls.filter λb=>decide (m≤b.off)).map bC) s) i.e.ls.length ⟨.aB,.any,.any,0,rfl,rfl,by omega,λ_ _=>rfl,Own.aB _ _ _ _⟩ ?_ ?_
  ·rintro T X c ⟨s,t,G,n,rfl,bp,k,u,v⟩;have bi:=(u h.length (by omega)).trans y;have bj:c.row h.length 0=some [.str i.r,.int .i64 i.e.a0,.int .i64 i.e.a1,.int .i64 i.e.a2,.int .i64 i.e.a3,i.e.ld,.int .i64 i.e.a5,.int .i64 i.e.a6,.str i.e.s7,.str i.e.s8,i.e.fd]:=dT bi;simp only[Dm,bD,bY,W,aU,kh,mZ,nr,bj,iJ,gx,iK,dF,ji i.e.fZ,cI];refine Wp.dS ?_ ?_
   ·intro A;have A:n<i.e.ls.length:=gS A;have ac:i.e.ls[n]?=some i.e.ls[n]:=cJ A;have ao:=fD n (by omega);have ae:(i.e.ls.take (n+1)).filter (λb=>decide (m≤b.off))=(i.e.ls.take n).filter (λb=>decide (m≤b.off))++[i.e.ls[n]].filter (λb=>decide (m≤b.off)):=by
     rw[gA,ac,lu];rfl
    have bn:=sH (λb:dJ=>decide (m≤b.off)) (i.e.ls.take n);have br:(i.e.ls.take n).length≤n:=by simp;omega
    generalize i.e.ls[n]=b at ac ae;simp only[mc i.e.fZ,pL,aJ,dY,ac,fW,W,oZ];simp only[bC,yY,eB,W,ju];by_cases x:m≤b.off
    ·have ak:bJ tab bA 1 [0] [.agg (bC b)]=some (.sl 3 true [bC b]):=id rfl;simp only[bC]at ak;simp only[x,bK,aK,aJ,W,aU,ak];refine sq k v (iq _ _ _ _) (by simp;omega) λbl av bg bt au _ _=>?_
     simp only[W,gV,cL,bD,cY,ao];refine .some (.inl ⟨rfl,T - 1,by omega,bl,_,_,n+1,rfl,by omega,by show h.length+2≤av.length;omega,λa d=>(au a d).trans (u a d),?_⟩);rw[ae,fV];simpa[-Xm,x,bC]using bg
    ·simp only[x,bG,aK,aP,aL,W,gV,cL,bD,cY,ao];refine .some (.inl ⟨rfl,T - 1,by omega,s,_,_,n+1,rfl,by omega,k,u,?_⟩);rw[ae];simpa[-Xm,x]using v
   ·intro A;have A:i.e.ls.length≤n:=by
     have:¬(n:Int)<i.e.ls.length:=by simpa using A
     omega
    rw[iz A]at v;exact .some (.inr ⟨by simp,rfl,k,u,s,_,_,_,rfl,v⟩)
  ·rintro⟨bm,X,c⟩ ⟨rfl,k,u,s,t,G,ah,rfl,v⟩;simp only at k u v;generalize K:i.e.ls.filter (λb=>decide (m≤b.off))=f at v;have bq:f.length≤i.e.ls.length:=by rw[← K];exact sH _ _
   replace y:=(u h.length (by omega)).trans y;replace z:=(u (h.length+1) (by omega)).trans z;replace p:∀a,a<h.length→c[a]?=h[a]?:=λa d=>(u a (by omega)).trans (p a d)
   simp only[dV,cL,bD,bY,W,wE v,eQ,fa];cases B:f with
   | nil =>
    simp only[eJ,Int.natCast_zero,bK,aK,aJ,Int.ofNat_zero];refine aj c p k z l (.inr λb an=>?_);have:b∉f:=by rw[B];simp[-Xm]
    rw[← K]at this;have a8:=mt gh.2 this;by_cases x:m≤b.off
    ·exact absurd ⟨an,by simpa using x⟩ a8
    ·omega
   | cons g F =>
    rw[← B];have bb:0<f.length:=by rw[B];simp[-Xm]
    have ba:¬((f.length:Nat):Int)=0:=by omega
    obtain⟨q,bc,rfl,ad⟩:=BZ v (i:=0) (by simpa using bb);have a9:(0:Int)≤0∧(0:Int)<(((f.map bC).length:Nat):Int):=by simp;omega
    have bd:c.row q 0=some [.int .i64 g.off,.int .i64 g.len,.str g.eD]:=by rw[dT ad,B];rfl
    simp only[ba,bG,aK,aP,aL,qm,a9,gX,aJ,dF,Int.toNat_zero,W,k5,fB,bd,gx,iK,kh,mZ,l8];refine pB y (by rfl) (by rfl) (by simp[-Xm,aE,bV]) (by rfl) λI af C=>?_
    have be:I.row q 0=some [.int .i64 g.off,.int .i64 g.len,.str g.eD]:=by rw[dT ((C.2 q (by omega)).trans ad),B];rfl
    try simp only[W]
    refine kr af (by rfl) (by rfl) (by simp[-Xm,dQ,cP,aE,bV]) (by rfl) λaw ap ar=>?_
    replace af:aw[h.length]?=some (Ob.row aF 11 [[.str i.r,.int .i64 i.e.a0,.int .i64 i.e.a1,.int .i64 g.off,.int .i64 i.e.a3,.aO 3 q 0 (f.map bC).length,.int .i64 i.e.a5,.int .i64 i.e.a6,.str i.e.s7,.str i.e.s8,i.e.fd]]):=ap;replace C:=C.trans ar;clear ap ar;simp only[be,gx,iK,W,ke,qp af rfl];refine jP ((C.2 (h.length+1) (by omega)).trans z) (by rfl) (by rfl) (by simp) (by rfl) λE o ag=>?_
    replace o:E[h.length+1]?=some (Ob.row aF 11 [[.str i.r,.int .i64 i.e.a0,.int .i64 i.e.a1,.int .i64 g.off,.int .i64 i.e.a3,.aO 3 q 0 (f.map bC).length,.int .i64 i.e.a5,.int .i64 i.e.a6,.str i.e.s7,.str i.e.s8,i.e.fd]]):=o;have bh:Own E (h.length+2) bS 3 (f.map bC) (.aO 3 q 0 (f.map bC).length) :=.inr ⟨q,bc,rfl,(ag.2 q (by omega)).trans ((C.2 q (by omega)).trans ad)⟩;simp only[qp o rfl,W,jK];have bf:=jy (n0:=h.length) (n:=1) bh (by omega) (λt _=>r3 _ E _ t);have a7:cV h.length E 2 i.e.fd=i.e.fd:=uz i.e.gk (λt _=>vI _ E _ t);generalize am:(⟨i.r,⟨i.e.a0,i.e.a1,g.off,i.e.a3,f,cV h.length E 2 (.aO 3 q 0 (f.map bC).length),i.e.a5,i.e.a6,i.e.s7,i.e.s8,i.e.fs,i.e.fd,i.e.gk,i.e.hl,bf,by omega⟩⟩:It)=j;have a4:qS i m j:=by subst am;exact⟨rfl,rfl,rfl,rfl,rfl,rfl,rfl,rfl,K.symm,rfl,g,by rw[K,B];rfl,rfl⟩
    have az:∃b∈i.e.ls,m≤b.off:=by
     have:g∈i.e.ls.filter (λb=>decide (m≤b.off)):=by rw[K,B];simp[-Xm]
     have:=gh.1 this;exact⟨g,this.1,by simpa using this.2⟩
    rw[iu (d' :=.bZ [.agg (aE j),.bool true]) (by subst am;simp[-Xm,aE,bV,a7]) (.bZ _ λai al=>by
     simp at al;rcases al with rfl|rfl
     ·exact qk _ _
     ·constructor) (by have:=C.1;have:=ag.1;omega) (λa d=>((ag.2 a (by omega)).trans (C.2 a (by omega))).trans (p a d))]
    exact .some ⟨rfl,j,true,rfl,.inr (.inr ⟨l,by omega,az,rfl,a4⟩)⟩
theorem Ie:∀(c:List dJ) (a b:Int),gw a c b→gw a (c.map blank) b
 |[],a,b,h=>h
 |x::r,a,b,h=>⟨h.1,h.2.1,h.2.2.1,by simp[-Xm,blank],Ie r _ b h.2.2.2.2⟩
structure Fg (i:It):Prop where
 r:i.r∈qt
 h0:0≤i.e.a0
 h2:i.e.a0≤2
 f0:0≤i.e.a1
 f2:i.e.a1≤2
 a0:0≤i.e.a2
 b9:i.e.a3≤1000
 ch:gw i.e.a2 i.e.ls i.e.a3
 l1:1≤i.e.ls.length
 l3:i.e.ls.length≤3
 tx:∀l∈i.e.ls,l.eD=[]
 t0:i.e.a5=0
 w0:i.e.a6=0
 tr:i.e.s7=[]
 st:i.e.s8=[]
 fs:i.e.fs=[]
def jD(i:It):Prop:=(i.r=[]∧C4 i.e)∨Fg i
theorem jD.l3{i:It}(h:jD i):i.e.ls.length≤3:=by
 rcases h with⟨_,h⟩|h
 ·exact h.l3
 ·exact h.l3
theorem jD.fs{i:It}(h:jD i):i.e.fs.length≤4:=by
 rcases h with⟨_,h⟩|h
 ·exact Ty h.fs
 ·rw[h.fs];simp[-Xm]
theorem jD.ch{i:It}(h:jD i):gw i.e.a2 i.e.ls i.e.a3∧0≤i.e.a2∧i.e.a3≤1000∧1≤i.e.ls.length:=by
 rcases h with⟨_,h⟩|h
 ·exact⟨h.ch,h.a0,h.b9,h.l1⟩
 ·exact⟨h.ch,h.a0,h.b9,h.l1⟩
theorem Ig (m:Int):∀(e:List dJ) (a b:Int),gw a e b→(e.filter λl=>decide (m≤l.off))=[]∨∃x r,(e.filter λl=>decide (m≤l.off))=x::r∧gw x.off (x::r) b∧m≤x.off∧a≤x.off∧(∀l∈e,m≤l.off→x.off≤l.off)
 |[],a,b,h =>.inl rfl
 | l :: r, a,b,h=>by
  obtain⟨q,h2,s,t,g⟩:=h;have i:∀d∈r,a≤d.off:=by
   have y:∀(e:List dJ) (a b:Int),gw a e b→∀d∈e,a≤d.off:=by
    intro e
    induction e with
    |nil=>intro a b _ d c;simp at c
    | cons B r w =>
     intro a b h d c;rcases dW.1 c with rfl|c
     ·exact Int.le_of_eq h.1.symm
     ·have:=w _ b h.2.2.2.2 d c;have:=h.2.1;omega
   intro d c;have:=y r _ b g d c;omega
  by_cases f:m≤l.off
  ·right;have u:(r.filter λl=>decide (m≤l.off))=r:=by
    rw[sF];intro d c;have:=i d c;simp[-Xm];omega
   refine⟨l,r,?_,⟨rfl,h2,s,t,by rw[q];exact g⟩,f,by omega,λd c _=>?_⟩
   ·rw[kO,bE (by simpa using f),u]
   ·rcases dW.1 c with rfl|c
    ·omega
    ·have:=i d c;omega
  ·have v:((l::r).filter λl=>decide (m≤l.off))=r.filter λl=>decide (m≤l.off):=by
     rw[kO,cH (by simpa using f)]
   rw[v];rcases Ig m r _ b g with h|⟨x,z,k,n,o,A,p⟩
   ·exact .inl h
   ·refine .inr ⟨x,z,k,n,o,by omega,λd c j=>?_⟩;rcases dW.1 c with rfl|c
    ·exact absurd j f
    ·exact p d c j
theorem qS.k{i j:It}{m:Int}(hi:jD i)(h:qS i m j):jD j:=by
 obtain⟨p,nZ,wy,ih⟩:=hi.ch;obtain⟨y,b,g⟩:=h.a2;have q:=sH (λa:dJ=>decide (m≤a.off)) i.e.ls;have x:=hi.l3;rcases Ig m _ _ _ p with c|⟨v,r,c,s,_,w,_⟩
 ·rw[c]at b;cases b
 rw[c]at b q;injection b with b;subst b;have f:j.e.ls=v::r:=h.ls.trans c;have t:∀a∈j.e.ls,a∈i.e.ls:=λa d=>by rw[h.ls]at d;exact(gh.1 d).1
 have l:gw j.e.a2 j.e.ls j.e.a3:=by rw[g,f,h.a3];exact s
 have n:1≤j.e.ls.length:=by rw[f];simp[-Xm]
 have o:j.e.ls.length≤3:=by rw[f];omega
 rcases hi with⟨u,hi⟩|hi
 ·exact .inl ⟨h.r.trans u,⟨by rw[h.a0];exact hi.h0,by rw[h.a0];exact hi.h2,by rw[h.a1];exact hi.f0,by rw[h.a1];exact hi.f2,by rw[g];omega,by rw[h.a3];exact wy,l,n,o,by rw[h.a5];exact hi.t0,by rw[h.a5];exact hi.t9,by rw[h.a6];exact hi.wt,by rw[h.s7];exact hi.tr,by rw[h.s8];exact hi.st,by rw[h.fs];exact hi.fs⟩⟩
 ·exact .inr ⟨by rw[h.r];exact hi.r,by rw[h.a0];exact hi.h0,by rw[h.a0];exact hi.h2,by rw[h.a1];exact hi.f0,by rw[h.a1];exact hi.f2,by rw[g];omega,by rw[h.a3];exact wy,l,n,o,λa d=>hi.tx a (t a d),by rw[h.a5];exact hi.t0,by rw[h.a6];exact hi.w0,by rw[h.s7];exact hi.tr,by rw[h.s8];exact hi.st,by rw[h.fs];exact hi.fs⟩
theorem gN.later{i a d:It}{p e:Int}{f:Bool}(m:p≤e)(g:gN i p false a)(h:gN i e f d):f=false:=by
 rcases g with⟨_,c,_⟩|⟨l,b,_,_⟩|⟨_,_,_,c,_⟩
 ·cases c
 ·rcases h with⟨c,_⟩|⟨_,_,rfl,_⟩|⟨_,o,⟨k,j,n⟩,_⟩
  ·omega
  ·rfl
  ·rcases b with b|b
   ·omega
   ·have:=b k j;omega
 ·cases c
theorem BK{h:J}{o:Nat}(am:CM h o):∃i h',R oP [.ptr o 0 0] h=some (.agg (aE i),h')∧CM h' o∧bW o h h'∧jD i:=by
 suffices Wp (R oP [.ptr o 0 0] h) (λv=>∃i,v.1 = .agg (aE i)∧CM v.2 o∧bW o h v.2∧jD i) by
  obtain⟨⟨f,h'⟩,a4,i,rfl,a7⟩:=this;exact⟨i,h',a4,a7⟩
 have bu:=am.lt;rw[MT];simp only[Di,W,aU];generalize B:aZ h aF 11 [[.str [],.int .i64 0,.int .i64 0,.int .i64 0,.int .i64 0,.aB,.int .i64 0,.int .i64 0,.str [],.str [],.aB]]=X;have e:X[h.length]?=some (Ob.row aF 11 [[.str [],.int .i64 0,.int .i64 0,.int .i64 0,.int .i64 0,.aB,.int .i64 0,.int .i64 0,.str [],.str [],.aB]]):=by rw[← B];exact lN _ _ _ _
 have N:Sm h o X:=(Sm.refl am).app (by rw[← B,hN];omega) λb p=>by rw[← B];exact lO _ _ _ _ p
 have bc:X.length=h.length+1:=by rw[← B];exact hN _ _ _ _
 clear B;obtain⟨a,br,ak,S,M,k⟩:=Tg N.cd;refine Wp.step ak ?_;clear ak;have ba:gY 10 (.agg (bV a))=some (.aI (bV a)):=mP 10 _ rfl;simp only[W,ba];obtain⟨bv,s,al,G,q,bw,bx⟩:=gv S 4 (by omega) (by omega);refine Wp.step al ?_;clear al;have z:=(N.next S M).next G q;have ap:s.length=h.length+1:=by have:=M.1;have:=q.1;omega
 replace e:=(q.2 h.length (by omega)).trans ((M.2 h.length (by omega)).trans e);clear N M q S bc;have a9:eX tab aF [1] [.agg (bV a)]=some (.agg (aE ⟨[],a⟩)):=id rfl;have az:∀(c:J) (l:It),Sm h o c→c[h.length]?=some (Ob.row aF 11 [aE l])→jD l→Wp ((aA tab c aF (.ptr h.length 0 0)).bind λd=>scope h c (aH [d])) (λv:D × J=>∃i,v.1 = .agg (aE i)∧CM v.2 o∧bW o h v.2∧jD i):=λc l r b K=>by
  simp only[kC b,W,bR];obtain⟨h',ae,ac,af⟩:=r.scope (d :=.agg (aE l)) (d' :=.agg (aE l)) (by
   rw[wv,lL λd bb=>qj h.length c 2 l d bb]) (qk _ _)
  rw[ae];exact .some ⟨l,rfl,ac,af,K⟩
 simp only[cI,W];refine Wp.dS ?_ ?_
 ·intro _;simp only[tk,W,a9];refine jP e (by rfl) (by rfl) (by simp) (by rfl) λj m g=>?_
  replace m:j[h.length]?=some (Ob.row aF 11 [aE ⟨[],a⟩]):=m;exact az j _ (z.app (mI g.1.symm) λb p=>g.2 b (by omega)) m (.inl ⟨rfl,k.k⟩)
 ·intro _;have bl:aC tab aG 0 (.aI (bV a))=some (.aI (bV a)):=id rfl;have bm:aC tab aG 1 (.aI (bV a))=some (.aI [.int .i64 a.a1,.int .i64 a.a2,.int .i64 a.a3,a.ld,.int .i64 a.a5,.int .i64 a.a6,.str a.s7,.str a.s8,a.fd]):=id rfl;have bn:aC tab aG 2 (.aI (bV a))=some (.aI [.int .i64 a.a2,.int .i64 a.a3,a.ld,.int .i64 a.a5,.int .i64 a.a6,.str a.s7,.str a.s8,a.fd]):=id rfl;have bo:aC tab aG 3 (.aI (bV a))=some (.aI [.int .i64 a.a3,a.ld,.int .i64 a.a5,.int .i64 a.a6,.str a.s7,.str a.s8,a.fd]):=id rfl;have ax:aC tab aG 4 (.aI (bV a))=some (.aI [a.ld,.int .i64 a.a5,.int .i64 a.a6,.str a.s7,.str a.s8,a.fd]):=id rfl;have av:∀c,aA tab c U (.aI (bV a))=some (.int .i64 a.a0):=λc=>id rfl
  simp only[bl,bm,bn,bo,ax,av,eB,W,K8];generalize H:aZ s aG 10 [[.int .i64 0,.int .i64 0,.int .i64 0,.int .i64 0,.aB,.int .i64 0,.int .i64 0,.str [],.str [],.aB]]=j;have m:j[s.length]?=some (Ob.row aG 10 [[.int .i64 0,.int .i64 0,.int .i64 0,.int .i64 0,.aB,.int .i64 0,.int .i64 0,.str [],.str [],.aB]]):=by rw[← H];exact lN _ _ _ _
  have ab:∀b,b<h.length+1→j[b]?=s[b]?:=λb p=>by rw[← H];exact lO _ _ _ _ (by omega)
  have aq:j.length=h.length+2:=by rw[← H,hN];omega
  clear H;rw[ap]at m ⊢;have F:=z.app (by omega) λb p=>ab b (by omega)
  replace e:=(ab h.length (by omega)).trans e;refine qK m (by rfl) (by rfl) (by simp) (by rfl) λaa C g=>?_
  replace C:aa[h.length+1]?=some (Ob.row aG 10 [[.int .i64 a.a0,.int .i64 a.a1,.int .i64 a.a2,.int .i64 a.a3,.aB,.int .i64 0,.int .i64 0,.str [],.str [],.aB]]):=C;have P:=F.app (mI g.1.symm) λb p=>g.2 b (by omega)
  replace e:=(g.2 h.length (by omega)).trans e;have ar:aa.length=h.length+2:=g.1.trans aq;clear m ab F z g aq G ap;simp only[W,iC,ji a.fZ];refine Wp.loop (λag T c=>∃t A f,∃n:Nat,T=[t,.int .i64 n,A]∧ag+n=a.ls.length∧Sm h o c∧h.length+2≤c.length∧c[h.length]?=some (Ob.row aF 11 [[.str [],.int .i64 0,.int .i64 0,.int .i64 0,.int .i64 0,.aB,.int .i64 0,.int .i64 0,.str [],.str [],.aB]])
    ∧ c[h.length+1]?=some (Ob.row aG 10 [[.int .i64 a.a0,.int .i64 a.a1,.int .i64 a.a2,.int .i64 a.a3,f,.int .i64 0,.int .i64 0,.str [],.str [],.aB]])∧Own c (h.length+2) bS 3 (((a.ls.take n).map blank).map bC) f)
   (λx=>x.1 = .ext 0∧∃t A aj f,x.2.1=[t,A,aj]∧Sm h o x.2.2∧h.length+2≤x.2.2.length∧x.2.2[h.length]?=some (Ob.row aF 11 [[.str [],.int .i64 0,.int .i64 0,.int .i64 0,.int .i64 0,.aB,.int .i64 0,.int .i64 0,.str [],.str [],.aB]])
    ∧ x.2.2[h.length+1]?=some (Ob.row aG 10 [[.int .i64 a.a0,.int .i64 a.a1,.int .i64 a.a2,.int .i64 a.a3,f,.int .i64 0,.int .i64 0,.str [],.str [],.aB]])∧Own x.2.2 (h.length+2) bS 3 ((a.ls.map blank).map bC) f) a.ls.length
   ⟨_,_,.aB,0,rfl,rfl,P,by omega,e,C,Own.aB _ _ _ _⟩ ?_ ?_
  ·clear e C P ar;rintro ag T c ⟨t,A,f,n,rfl,bt,r,I,e,w,y⟩;have an:=k.l3;simp only[Dj,bD,bY,W,aU,cI];refine Wp.dS ?_ ?_
   ·intro u;have u:n<a.ls.length:=gS u;have ad:a.ls[n]?=some a.ls[n]:=cJ u;have bf:=fD n (by omega);have au:(a.ls.take (n+1)).map blank=(a.ls.take n).map blank++[blank a.ls[n]]:=by
     rw[gA,ad,fV];rfl
    generalize a.ls[n]=bg at ad au;have r1:c.row (h.length+1) 0=some [.int .i64 a.a0,.int .i64 a.a1,.int .i64 a.a2,.int .i64 a.a3,f,.int .i64 0,.int .i64 0,.str [],.str [],.aB]:=dT w;simp only[mZ,nr,r1,dF,iJ,gx,iK,ax,iC,W,mc a.fZ,pL,aJ,dY,ad,fW];simp only[bC,yY,GC,eB,W,yE,yJ];refine sq I y (iq _ _ _ _) (by simp;omega) λay bq aw bh Q _ _=>?_
    have ah:=j5 (kE aw);simp only[W];refine pB ((Q (h.length+1) (by omega)).trans w) (by rfl) (by rw[ah.1];rfl) (by simp) ah.2 λs L E=>?_
    rw[ah.1]at L;replace L:s[h.length+1]?=some (Ob.row aG 10 [[.int .i64 a.a0,.int .i64 a.a1,.int .i64 a.a2,.int .i64 a.a3,ay,.int .i64 0,.int .i64 0,.str [],.str [],.aB]]):=L;simp only[W,cY,bf];refine .some (.inl ⟨rfl,ag - 1,by omega,_,_,ay,n+1,rfl,by omega,(r.app bh λb p=>Q b (by omega)).app (mI E.1.symm) λb p=>E.2 b (by omega),by show h.length+2≤s.length;have:=E.1;omega,(E.2 h.length (by omega)).trans ((Q h.length (by omega)).trans e),L,?_⟩);rw[au,fV];exact aw.bH λb p _=>E.2 b (by omega)
   ·intro u;have u:a.ls.length≤n:=by
     have:¬(n:Int)<a.ls.length:=by simpa using u
     omega
    rw[iz u]at y;exact .some (.inr ⟨by simp,rfl,_,_,_,f,rfl,r,I,e,w,y⟩)
  ·clear e C P ar aa;rintro⟨bp,T,c⟩ ⟨rfl,t,A,aj,f,rfl,r,I,e,w,y⟩;simp only at r I e w y;simp only[dV,cL,W,S9];refine kF r.cd qt 8 (by decide) (by decide) (by decide) λai s G q be _=>?_
   have z:=r.next G q;have bk:=(q.2 (h.length+1) (by omega)).trans w;replace e:=(q.2 h.length (by omega)).trans e;have bi:=y.same q (by omega);simp only[W,wC bk rfl,wC w rfl,La,ke];refine jP e (by rfl) (by rfl) (by simp) (by rfl) λj m g=>?_
   replace m:j[h.length]?=some (Ob.row aF 11 [[.str ai,.int .i64 a.a0,.int .i64 a.a1,.int .i64 a.a2,.int .i64 a.a3,f,.int .i64 0,.int .i64 0,.str [],.str [],.aB]]):=m;have F:=z.app (mI g.1.symm) λb p=>g.2 b (by omega)
   have bj:=bi.bH (h':=j) λb p _=>g.2 b (by omega)
   have bd:=jy (n0:=h.length) (n:=2) bj (by omega) (λt _=>r3 _ j _ t);have an:=k.l3;simp only[qp m rfl,W,bR];generalize K:(⟨ai,⟨a.a0,a.a1,a.a2,a.a3,a.ls.map blank,cV h.length j 3 f,0,0,[],[],[],.aB,aR.aB _ _,by simp,bd,by simp;omega⟩⟩:It)=l;have a8:Fg l:=by
    subst K;exact⟨be,k.h0,k.h2,k.f0,k.f2,k.a0,k.k.b9,Ie _ _ _ k.ch,by simpa using k.l1,by simpa using an,λbg ao=>by
     simp at ao;obtain⟨av,_,rfl⟩:=ao;rfl,rfl,rfl,rfl,rfl,rfl⟩
   obtain⟨h',ae,ac,af⟩:=F.scope (d :=.agg [.str ai,.int .i64 a.a0,.int .i64 a.a1,.int .i64 a.a2,.int .i64 a.a3,f,.int .i64 0,.int .i64 0,.str [],.str [],.aB]) (d' :=.agg (aE l)) (by subst K;simp[-Xm,aE,bV]) (qk _ _);rw[ae];exact .some ⟨l,rfl,ac,af,.inr a8⟩
structure Fi where
 h:Int
 r:aD
 n:Int
def LN(a b:aD):Int:=if Op.bytesLess a b=true then -1 else if a=b then 0 else 1
theorem s0:∀a:aD,Op.bytesLess a a=false
 |[]=>rfl
 |x::a=>by simp[-Xm,Op.bytesLess,s0 a]
theorem s4:∀{a b c:aD},Op.bytesLess a b=true→Op.bytesLess b c=true→Op.bytesLess a c=true
 |_,[],_,h,_=>by cases ‹aD›<;>simp[-Xm,Op.bytesLess]at h
 |_,_::_,[],_,h=>by simp[-Xm,Op.bytesLess]at h
 |[],_::_,_::_,_,_=>rfl
 | x::a,y::b,z::c,h,k=>by
  simp only[Op.bytesLess,nG,p6,eO,beq_iff_eq]at h k ⊢;rcases h with h|⟨rfl,h⟩
  ·rcases k with k|⟨rfl,k⟩
   ·exact .inl (UInt8.lt_trans h k)
   ·exact .inl h
  ·rcases k with k|⟨rfl,k⟩
   ·exact .inl k
   ·exact .inr ⟨rfl,s4 h k⟩
theorem s3:∀{a b:aD},Op.bytesLess a b=false→a≠b→Op.bytesLess b a=true
 |[],[],_,h=>absurd rfl h
 |[],_::_,h,_=>by simp[-Xm,Op.bytesLess]at h
 |_::_,[],_,_=>rfl
 | x::a,y::b,h,k=>by
  simp only[Op.bytesLess,Bool.or_eq_false_iff,yR,Bool.and_eq_false_iff,beq_eq_false_iff_ne]at h;simp only[Op.bytesLess,nG,p6,eO,beq_iff_eq];by_cases d:x=y
  ·subst d;refine .inr ⟨rfl,s3 (h.2.resolve_left λc=>c rfl) λc=>k (by rw[c])⟩
  ·left;have e:=mt sU.2 h.1;have f:x.toNat≠y.toNat:=λc=>d (UInt8.toNat_inj.1 c)
   exact sU.2 (by omega)
def gr:List Ev→List Ev→Bool
 |[],_=>true
 |_::_,[]=>false
 |x::a,y::b=>if jN x y=true then gr a b else gr (x::a) b
def sm(f:Fi→Int):List Fi→Int
 |[]=>0
 |t::r=>f t+sm f r
theorem ql(i:It):(D.agg (aE i)).fT=true:=by
 have a:=qC i.e.fZ;have b:=qC i.e.gk;have f:(D.agg (aE i)) = .agg [.str i.r,.int .i64 i.e.a0,.int .i64 i.e.a1,.int .i64 i.e.a2,.int .i64 i.e.a3,i.e.ld,.int .i64 i.e.a5,.int .i64 i.e.a6,.str i.e.s7,.str i.e.s8,i.e.fd]:=rfl;rw[f];generalize i.e.ld=c at a;generalize i.e.fd=d at b;cases c<;>first|(cases d<;>first|rfl|(simp[-Xm,D.one]at b))|(simp[-Xm,D.one]at a)
structure oC {α:Type} (c:α→α→Int) (S dK:α→α→Prop):Prop where
 tr:∀x y z,S x y→S y z→S x z
 lt:∀x y,dK x y→c y x<0→S y x
 ge:∀x y,dK x y→¬c y x<0→S x y
theorem IW{g:Type}{c:g→g→Int}{S dK:g→g→Prop}(o:oC c S dK){e f:List g}{x:g}(l:(e++f).Pairwise S)(m:∀y∈e++f,dK y x)
  (h2:f=[]∨∃y r,f=y::r∧c x y<0) (q:e=[]∨∃y r,e=r++[y]∧¬c x y<0):(e++x::f).Pairwise S:=by
 rw[jT]at l ⊢;obtain⟨j,k,s⟩:=l;have t:∀b∈e,S b x:=by
  rcases q with rfl|⟨y,r,rfl,i⟩
  ·intro b a;cases a
  ·intro b a;have p:S y x:=o.ge y x (m y (by simp)) i;rw[jT]at j;rcases eI.1 a with a|a
   ·exact o.tr _ _ _ (j.2.2 b a y (by simp)) p
   ·simp at a;subst a;exact p
 have u:∀h∈f,S x h:=by
  rcases h2 with rfl|⟨y,r,rfl,i⟩
  ·intro b a;cases a
  ·intro h d;have n:S x y:=o.lt y x (m y (by simp)) i;rw[jn]at k;rcases dW.1 d with rfl|d
   ·exact n
   ·exact o.tr _ _ _ n (k.1 h d)
 refine⟨j,jn.2 ⟨u,k⟩,λb a h d=>?_⟩;rcases dW.1 d with rfl|d
 ·exact t b a
 ·exact s b a h d
theorem F7{d:Type}(c:d→d→Int)(P:List d)(x:d):∀(R:List d) (Q:List d),∃a b,R.reverse=a++b∧dn c P.length (P.length+R.length) (P++R.reverse++x::Q)=P++a++x::b++Q ∧
  (b=[]∨∃y r,b=y::r∧c x y<0)∧(a=[]∨∃y r,a=r++[y]∧¬c x y<0)
 | [], Q=>⟨[],[],rfl,by
   cases P with
   |nil=>simp[-Xm,dn]
   | cons p P =>
    simp only[eP,eJ,ov,List.reverse_nil,u2];unfold dn;split
    ·rw[cH (by omega)];simp[-Xm]
    ·simp[-Xm],.inl rfl,.inl rfl⟩
 | y::R,Q=>by
  have g1:(P++(y::R).reverse++x::Q)[P.length+R.length+1]?=some x:=by
   rw[hV (by simp;omega)];simp[-Xm]
   try (have:P.length+R.length+1 - (P.length+(R.length+1))=0:=by omega
        rw[this];rfl)
  have g:(P++(y::R).reverse++x::Q)[P.length+R.length]?=some y:=by
   rw[eV (by simp),hV (by omega)];simp[-Xm]
  rw[eP,← nM];unfold dn;rw[g1,g];simp only;by_cases e:c x y<0
  ·rw[bE ⟨by omega,e⟩];have m:((P++(y::R).reverse++x::Q).set (P.length+R.length+1) y).set (P.length+R.length) x=P++R.reverse++x::(y::Q):=by
    have f:P++(y::R).reverse++x::Q=(P++R.reverse)++y::x::Q:=by simp
    rw[f];have o:(P++R.reverse).length=P.length+R.length:=by simp
    rw[E6 _ _ (by omega),E6 _ _ (by omega),o];have:P.length+R.length+1 - (P.length+R.length)=1:=by omega
    rw[this,Nat.sub_self];rfl
   rw[m];obtain⟨a,b,h,i,j,k⟩:=F7 c P x R (y::Q);refine⟨a,b++[y],by simp[-Xm,h],by rw[i];simp[-Xm],?_,k⟩;rcases j with rfl|⟨q,r,rfl,n⟩
   ·exact .inr ⟨y,[],rfl,e⟩
   ·exact .inr ⟨q,r++[y],rfl,n⟩
  ·rw[cH (λl=>e l.2)];exact⟨(y::R).reverse,[],by simp,by simp,.inl rfl,.inr ⟨y,R.reverse,by simp,e⟩⟩
theorem L1{d:Type}(c:d→d→Int)(P A Q:List d)(x:d):∃a b,A=a++b∧dn c P.length (P.length+A.length) (P++A++x::Q)=P++a++x::b++Q ∧
  (b=[]∨∃y r,b=y::r∧c x y<0)∧(a=[]∨∃y r,a=r++[y]∧¬c x y<0):=by
 have:=F7 c P x A.reverse Q;simpa using this
theorem Bn{e:Type}{c:e→e→Int}{S dK:e→e→Prop}(o:oC c S dK)(P Q:List e):∀(B A:List e),A.Pairwise S→(∀x∈A,∀y∈B,dK x y)→B.Pairwise dK →
  ∃C,jI c P.length (P.length+A.length) B.length (P++A++B++Q)=P++C++Q∧C.Perm (A++B)∧C.Pairwise S
 |[],A,f,_,_=>⟨A,by simp[-Xm,jI],by simp,f⟩
 | x::B,A,f,i,g=>by
  rw[jn]at g;obtain⟨b,d,rfl,h2,q,r⟩:=L1 c P A (B++Q) x;have s:(b++x::d).Pairwise S:=IW o f (λy t=>i y t x (by simp)) q r;have m:P++(b++d)++x::B++Q=P++(b++d)++x::(B++Q):=by simp
  have j:(b++x::d).Perm (x::(b++d)):=E5;obtain⟨C,u,v,w⟩:=Bn o P Q B (b++x::d) s (λz h l k=>by
   rcases dW.1 (j.mem_iff.1 h)with rfl|h
   ·exact g.1 l k
   ·exact i z h l (by simp[-Xm,k])) g.2
  refine⟨C,?_,v.trans ?_,w⟩
  ·rw[eP];unfold jI;rw[m,h2,← u];have n:P.length+(b++d).length+1=P.length+(b++x::d).length:=by simp;omega
   have p:P++b++x::d++(B++Q)=P++(b++x::d)++B++Q:=by simp
   rw[n,p]
  ·have:((b++x::d)++B).Perm ((x::(b++d))++B):=j.append_right B;refine this.trans ?_;simpa using(E5 (l₁:=b++d) (l₂:=B) (a:=x)).symm
inductive fo {α:Type} (S dK:α→α→Prop) (k:Nat):List α→Prop
 |last (A:List α) (hl:A.length≤k) (hs:A.Pairwise S):fo S dK k A
 |cons (A Y:List α) (hl:A.length=k) (hs:A.Pairwise S) (hp:∀x∈A,∀y∈Y,dK x y) (hY:fo S dK k Y):fo S dK k (A++Y)
theorem fo.all{b:Type}{S dK:b→b→Prop}{k:Nat}{l:List b}(h:fo S dK k l)(d:l.length≤k):l.Pairwise S:=by
 cases h with
 |last _ _ a=>exact a
 | cons e c f a i g =>
  have:c=[]:=by
   simp at d;exact E1.1 (by omega)
  subst this;simpa using a
theorem fo.fst{b:Type}{S dK:b→b→Prop}{k:Nat}{l:List b}(h:fo S dK k l)(g:k≤l.length):∃A Y,l=A++Y∧A.length=k∧A.Pairwise S∧(∀x∈A,∀y∈Y,dK x y)∧fo S dK k Y:=by
 cases h with
 |last _ f a=>exact⟨l,[],by simp,by omega,a,by simp,.last [] (by simp) List.Pairwise.nil⟩
 |cons A Y c a e d=>exact⟨A,Y,rfl,c,a,e,d⟩
def ks{a:Type}(S dK:a→a→Prop)(k:Nat)(X Y:List a):Prop:=∀b:List a,b.Perm Y→fo S dK k b→fo S dK k (X++b)
theorem ks.nil{a:Type}{S dK:a→a→Prop}{k:Nat}{Y:List a}:ks S dK k [] Y:=λc _ b=>b
theorem ks.step{a:Type}{S dK:a→a→Prop}{k:Nat}{X A Y C:List a}(h:ks S dK k X (A++Y))(c:C.Perm A)(f:C.length=k)(i:C.Pairwise S)(g:∀x∈A,∀y∈Y,dK x y):ks S dK k (X++C) Y:=λb d e=>by
 rw[jR];exact h (C++b) (c.append d) (.cons C b f i (λx j y l=>g x (c.mem_iff.1 j) y (d.mem_iff.1 l)) e)
theorem ks.done{b:Type}{S dK:b→b→Prop}{k:Nat}{X Y a:List b}(h:ks S dK k X Y)(c:a.Perm Y)(d:a.length≤k)(e:a.Pairwise S):fo S dK k (X++a):=h a c (.last a d e)
theorem QH{p:Type}{c:p→p→Int}{S dK:p→p→Prop}(o:oC c S dK){l h i g q t:List p}(w:(l++h).Pairwise S)(z:(i++g).Pairwise S)(A:∀x∈l++h,∀y∈i++g,dK x y)
  (D:l=[]∨g=[]∨∃x y r s,l=r++[x]∧g=y::s∧¬c y x<0) (h2:h=[]∨i=[]∨∃x y r s,i=r++[y]∧h=x::s∧c y x<0)
  (B:q.Perm (l++i)) (E:q.Pairwise S) (C:t.Perm (h++g)) (F:t.Pairwise S):(q++t).Perm ((l++h)++(i++g))∧(q++t).Pairwise S:=by
 rw[jT]at w z;have G:∀x∈l,∀y∈g,S x y:=by
  intro x b y d;rcases D with rfl|rfl|⟨e,f,r,s,rfl,rfl,a⟩
  ·cases b
  ·cases d
  ·have a:S e f:=o.ge e f (A e (by simp) f (by simp)) a;have j:x=e∨S x e:=by
    have:=w.1;rw[jT]at this;rcases eI.1 b with b|b
    ·exact .inr (this.2.2 x b e (by simp))
    ·simp at b;exact .inl b
   have k:y=f∨S f y:=by
    have:=z.2.1;rw[jn]at this;rcases dW.1 d with rfl|d
    ·exact .inl rfl
    ·exact .inr (this.1 y d)
   rcases j with rfl|j<;>rcases k with rfl|k
   ·exact a
   ·exact o.tr _ _ _ a k
   ·exact o.tr _ _ _ j a
   ·exact o.tr _ _ _ (o.tr _ _ _ j a) k
 have H:∀y∈i,∀x∈h,S y x:=by
  intro y d x b;rcases h2 with rfl|rfl|⟨e,f,r,s,rfl,rfl,a⟩
  ·cases b
  ·cases d
  ·have a:S f e:=o.lt e f (A e (by simp) f (by simp)) a;have j:y=f∨S y f:=by
    have:=z.1;rw[jT]at this;rcases eI.1 d with d|d
    ·exact .inr (this.2.2 y d f (by simp))
    ·simp at d;exact .inl d
   have k:x=e∨S e x:=by
    have:=w.2.1;rw[jn]at this;rcases dW.1 b with rfl|b
    ·exact .inl rfl
    ·exact .inr (this.1 x b)
   rcases j with rfl|j<;>rcases k with rfl|k
   ·exact a
   ·exact o.tr _ _ _ a k
   ·exact o.tr _ _ _ j a
   ·exact o.tr _ _ _ (o.tr _ _ _ j a) k
 refine⟨?_,jT.2 ⟨E,F,λu m v n=>?_⟩⟩
 ·refine(B.append C).trans ?_;have:(i++(h++g)).Perm (h++(i++g)):=by
   rw[← jR,← jR];exact List.perm_append_comm.append_right g
  simpa using this.append_left l
 ·rcases eI.1 (B.mem_iff.1 m)with m|m<;>rcases eI.1 (C.mem_iff.1 n)with n|n
  ·exact w.2.2 u m v n
  ·exact G u m v n
  ·exact H u m v n
  ·exact z.2.2 u m v n
def num(l:List Int):Int:=l.foldl (λb a=>b*256+a) 0
def B9:Nat→List Int→List (List Int) × Nat
 |0,_=>([],0)
 | k+1,r=>if r.length<8∨(num (r.take 4)).toNat<1∨8388608<(num (r.take 4)).toNat∨r.length - 8<(num (r.take 4)).toNat∨num ((r.drop 4).take 4)≠LQ (r.take 4++(r.drop 8).take (num (r.take 4)).toNat)then([],0)
  else((r.drop 8).take (num (r.take 4)).toNat::(B9 k (r.drop (8+(num (r.take 4)).toNat))).1,8+(num (r.take 4)).toNat+(B9 k (r.drop (8+(num (r.take 4)).toNat))).2)
def rd(r:List Int):List (List Int) × Nat:=B9 r.length r
def qx:Nat→Int→List Int
 |0,_=>[]
 |n+1,v=>IntKind.wrap .u8 (v.fdiv (2 ^ (8*n)))::qx n v
theorem B4:∀(n:Nat) (v:Int),(qx n v).length=n
 |0,v=>rfl
 |n+1,v=>by simp[-Xm,qx,B4 n v]
def Cv(s:aD):List Int:=s.map λa=>(a.toNat:Int)
theorem Vj(s:aD):(Cv s).length=s.length:=by simp[-Xm,Cv]
def pI(n:Int):List Int:=qx 8 (IntKind.wrap .u64 n)
def pN(n:Nat):List Int:=qx 4 (IntKind.wrap .u64 n)
def pS(s:aD):List Int:=pN s.length++Cv s
theorem wT(n:Int):(pI n).length=8:=B4 _ _
theorem B1(n:Nat):(pN n).length=4:=B4 _ _
theorem r8(s:aD):(pS s).length=4+s.length:=by simp[-Xm,pS,B1,Vj]
def tY(l:dJ):List Int:=pI l.off++pI l.len++pS l.eD
def p9(f:aD × aD):List Int:=pS f.1++pS f.2
def yH(i:It):List Int:=pS i.r++pI i.e.a0++pI i.e.a1++pI i.e.a2++pI i.e.a3++pN i.e.ls.length
def yI(i:It):List Int:=yH i++(i.e.ls.map tY).flatten++pI i.e.a5++pI i.e.a6++pS i.e.s7++pS i.e.s8++pN i.e.fs.length
def p0(i:It):List Int:=yI i++(i.e.fs.map p9).flatten
def LC(l:List Int):Int:=l.foldl (λa b=>(a*31+b) % 4294967291) 1
def Gm(i:It):List Int:=qx 4 (IntKind.wrap .u64 (((p0 i).length:Int)+4))++p0 i
def encI(i:It):List Int:=Gm i++qx 4 (LC (Gm i))
theorem tn{b:Type}(f:b→List Int)(m:Nat):∀(l:List b),(∀a∈l,(f a).length≤m)→(l.map f).flatten.length≤l.length*m
 |[],_=>by simp
 | a::l,h=>by
  have e:=h a (by simp);have g:=tn f m l λc d=>h c (by simp[-Xm,d])
  simp only[gO,kP,dL,eP,Nat.succ_mul];omega
theorem kp{h:J}{n0 e z:Nat}{rows:List (List D)}{d:D}(i:Own h n0 e z rows d){b:Nat}(g:d.e9 b):h[b]?=some (.row e z rows):=by
 obtain⟨m,k,rfl⟩:=g;rcases i with⟨a,_⟩|⟨l,j,a,f⟩
 ·cases a
 ·injection a with _ c;subst c;exact f
abbrev lT:=List Int × Bool
def xc(s:lT)(n:Int):List Int × lT:=if s.2=true∨n<0∨(s.1.length:Int)<n then([],(s.1,true))else(s.1.take n.toNat,(s.1.drop n.toNat,false))
def ph(s:lT):Int × lT:=(IntKind.wrap .i64 (num (xc s 8).1),(xc s 8).2)
def HM(s:lT):Int × lT:=(IntKind.wrap .i64 (num (xc s 4).1),(xc s 4).2)
theorem CA(row:List D)(off:Nat)(v:D)(b:v.one=true)(a:off<row.length):dQ row off (cP v)=row.set off v:=by
 rw[(j5 b).1];simp only[dQ,List.length_singleton];rw[Kl,bE a];simp[-Xm]
def km(r:aD)(a b c d:Int)(h:D)(e f:Int)(i j:aD)(g:D):List D:=[.str r,.int .i64 a,.int .i64 b,.int .i64 c,.int .i64 d,h,.int .i64 e,.int .i64 f,.str i,.str j,g]
structure RI where
 r:aD
 a0:Int
 a1:Int
 a2:Int
 a3:Int
 ls:List dJ
 a5:Int
 a6:Int
 t7:aD
 t8:aD
 fs:List (aD × aD)
def RI.row(x:RI)(b a:D):List D:=km x.r x.a0 x.a1 x.a2 x.a3 b x.a5 x.a6 x.t7 x.t8 a
def fu(n:Int):Prop := -9223372036854775808≤n∧n<9223372036854775808
structure E7 (l:dJ):Prop where
 o:fu l.off
 n:fu l.len
 t:l.eD.length<4294967296
structure yd (i:It):Prop where
 r:i.r.length<4294967296
 a0:fu i.e.a0
 a1:fu i.e.a1
 a2:fu i.e.a2
 a3:fu i.e.a3
 nl:i.e.ls.length<4294967296
 ls:∀l∈i.e.ls,E7 l
 a5:fu i.e.a5
 a6:fu i.e.a6
 t7:i.e.s7.length<4294967296
 t8:i.e.s8.length<4294967296
 nf:i.e.fs.length<4294967296
 fs:∀p∈i.e.fs,p.1.length<4294967296∧p.2.length<4294967296
def aY(i:It):RI:=⟨i.r,i.e.a0,i.e.a1,i.e.a2,i.e.a3,i.e.ls,i.e.a5,i.e.a6,i.e.s7,i.e.s8,i.e.fs⟩
def BP(x:RI)(b a:D)(c:aR 3 bC x.ls b)(h2:aR 2 aN x.fs a)(d:x.ls.length≤9223372036854775807)(e:x.fs.length≤9223372036854775807):It:=⟨x.r,⟨x.a0,x.a1,x.a2,x.a3,x.ls,b,x.a5,x.a6,x.t7,x.t8,x.fs,a,h2,e,c,d⟩⟩
theorem TC(x:RI)(b a:D)(c:aR 3 bC x.ls b)(h2:aR 2 aN x.fs a)(d:x.ls.length≤9223372036854775807)(e:x.fs.length≤9223372036854775807):aY (BP x b a c h2 d e)=x:=rfl
def jC:It:=⟨[],⟨0,0,0,0,[],.aB,0,0,[],[],[],.aB,aR.aB _ _,by simp,aR.aB _ _,by simp⟩⟩
structure RG (hs:Int) (i:It):Prop where
 fs:i.e.fs.length≤20
 ok:gT i=0
 host:i.e.a0=hs
 r:(i.r==([42]:aD))=false
 bl:(p0 i).length≤20000
 rd:yd i
theorem Un{i j:It}(h:aY i=aY j):encI i=encI j∧gT i=gT j∧(∀b,RG b i→RG b j)∧jk i j=true:=by
 obtain⟨H,⟨c,e,g,l,x,v,n,p,K,M,t,r,z,B,D,F⟩⟩:=i;obtain⟨I,⟨d,f,k,m,y,w,o,q,L,N,u,s,A,C,E,G⟩⟩:=j;simp only[aY,RI.mk.injEq]at h;obtain⟨rfl,rfl,rfl,rfl,rfl,rfl,rfl,rfl,rfl,rfl,rfl⟩:=h;refine⟨rfl,rfl,λb a=>⟨a.fs,a.ok,a.host,a.r,a.bl,⟨a.rd.r,a.rd.a0,a.rd.a1,a.rd.a2,a.rd.a3,a.rd.nl,a.rd.ls,a.rd.a5,a.rd.a6,a.rd.t7,a.rd.t8,a.rd.nf,a.rd.fs⟩⟩,?_⟩;simp[-Xm,jk,jN]
theorem wL:∀(e:List dJ) (a b:Int),gw a e b→0≤a→b≤1000000→∀l∈e,E7 l∧l.eD.length≤200
 |[],a,b,_,_,_,l,c=>by cases c
 | x::r,a,b,h,j,k,l,c=>by
  obtain⟨g1,g,i,f,d⟩:=h;have m:=mi r _ _ d;rcases dW.1 c with rfl|c
  ·exact⟨⟨by unfold fu;omega,by unfold fu;omega,by omega⟩,f⟩
  ·exact wL r _ _ d (by omega) (by omega) l c
theorem Rn{i:It}(h:jD i):yd i∧(p0 i).length≤20000:=by
 have x:=h.l3;have p:=h.fs;obtain⟨j,o,C,H⟩:=h.ch;have F:=mi _ _ _ j;have n:=wL _ _ _ j o (by omega);have v:i.r.length≤32∧i.e.s7.length≤32∧i.e.s8.length≤32∧fu i.e.a0∧fu i.e.a1∧fu i.e.a5∧fu i.e.a6∧∀c∈i.e.fs,c.1.length≤1000∧c.2.length≤1000:=by
  rcases h with⟨w,a⟩|a
  ·have k:=a.h0;have l:=a.h2;have q:=a.f0;have s:=a.f2;have t:=a.t0;have u:=a.t9;have G:=(show ∀b∈qq,(-10000:Int)≤b∧b≤10000 by decide) _ a.wt;refine⟨by rw[w];simp[-Xm],(show ∀b∈pd,b.length≤32 by decide) _ a.tr,(show ∀b∈pe,b.length≤32 by decide) _ a.st,by unfold fu;omega,by unfold fu;omega,by unfold fu;omega,by unfold fu;omega,λc d=>⟨?_,(show ∀b∈pf,b.length≤1000 by decide) _ (a.fs.2 c d)⟩⟩;exact(show ∀b∈kD,b.length≤1000 by decide) _ (a.fs.1.subset (e8.2 ⟨c,d,rfl⟩))
  ·have k:=a.h0;have l:=a.h2;have q:=a.f0;have s:=a.f2;have t:=a.t0;have u:=a.w0;exact⟨(show ∀b∈qt,b.length≤32 by decide) _ a.r,by rw[a.tr];simp[-Xm],by rw[a.st];simp[-Xm],by unfold fu;omega,by unfold fu;omega,by unfold fu;omega,by unfold fu;omega,λc d=>by rw[a.fs]at d;cases d⟩
 obtain⟨r1,I,K,y,z,A,B,m⟩:=v;refine⟨⟨by omega,y,z,by unfold fu;omega,by unfold fu;omega,by omega,λg f=>(n g f).1,A,B,by omega,by omega,by omega,λc d=>by have:=m c d;omega⟩,?_⟩;have k:=tn tY 220 i.e.ls (λg f=>by
  have:=(n g f).2;simp only[tY,dL,wT,r8];omega)
 have l:(i.e.fs.map p9).flatten.length≤i.e.fs.length*2008:=tn p9 2008 i.e.fs (λc d=>by
  have:=m c d;simp only[p9,dL,r8];omega)
 have D:(i.e.fs.length*2008:Nat)≤4*2008:=jG _ p;have E:(i.e.ls.length*220:Nat)≤3*220:=jG _ x;simp only[p0,yI,yH,dL,wT,r8,B1];omega
theorem oe{a:Type}(A B:List a)(x y:a)(n:Nat)(b:A.length=n):(A++x::B).set n y=A++y::B:=by
 subst b;rw[E6 _ _ (aX _)];simp[-Xm]
theorem j4{a:Type}(A B:List a)(x:a)(n:Nat)(b:A.length=n):(A++x::B)[n]?=some x:=by
 subst b;simp[-Xm]
theorem lG{g:J}{o n:Nat}{rows:List (aD × aD)}{p:aD × aD}(a:g[o]?=some (.row bB 2 (rows.map aN)))(b:rows[n]?=some p):aA tab g bB (.ptr o n 0)=some (.agg (aN p)):=by
 have c:(rows.map aN)[n]?=some (aN p):=by rw[dH,b];rfl
 rw[BA,dT a,c];rfl
theorem CT{g:J}{o N:Nat}{P X M Y Q:List (aD × aD)}(aq:N≤1000000000)(ab:(P++X++M++Y++Q).length=N)(x:X.length=Y.length)(ac:g[o]?=some (.row bB 2 ((P++X++M++Y++Q).map aN)))(cmp:D)(a b k:Int)(K:a=P.length)(L:b=(P.length+X.length+M.length:Nat))(u:k=X.length){A:Type}{f:D × J→Option A}{R1:A→Prop}
  (B:∀g',g'[o]?=some (.row bB 2 ((P++Y++M++X++Q).map aN))→bW o g g'→Wp (f (aH [],g')) R1):Wp ((R tB [.aO 2 o 0 N,.int .i64 a,.int .i64 b,.int .i64 k,cmp] g).bind f) R1:=by
 subst K L u;rw[Nl];simp only[DO,W,aU];simp only[dL]at ab;refine Wp.loop (λp l g'=>∃e,∃c:Nat,l=[.int .i64 c,e]∧p+c=X.length∧bW o g g'∧g'[o]?=some (.row bB 2 ((P++Y.take c++X.drop c++M++X.take c++Y.drop c++Q).map aN)))
  (λj=>j.1 = .ext 0∧(∃e d,j.2.1=[e,d])∧bW o g j.2.2∧j.2.2[o]?=some (.row bB 2 ((P++Y++M++X++Q).map aN))) X.length ⟨_,0,rfl,rfl,⟨rfl,λ_ _=>rfl⟩,by simpa using ac⟩ ?_ ?_
 ·rintro p l g' ⟨ar,c,rfl,u,sm,i⟩;simp only[DP,bD,bY,W,aU,cI];refine Wp.dS ?_ ?_
  ·intro h;have h:c<X.length:=gS h;obtain⟨e,w⟩:=iR h;obtain⟨d,y⟩:∃d,Y[c]?=some d:=⟨_,cJ (by omega)⟩
   have T:X.drop c=e::X.drop (c+1):=by
    obtain⟨n,m⟩:=bO.1 w;rw[ia n,m]
   have aa:Y.drop c=d::Y.drop (c+1):=by
    obtain⟨n,m⟩:=bO.1 y;rw[ia n,m]
   have ad:=fD c (by omega);have an:IntKind.wrap .i64 ((P.length:Int)+c)=((P.length+c:Nat):Int):=by
    rw[cN (by omega) (by omega)];omega
   have ao:IntKind.wrap .i64 (((P.length+X.length+M.length:Nat):Int)+c)=((P.length+X.length+M.length+c:Nat):Int):=by
    rw[cN (by omega) (by omega)];omega
   have C:P++Y.take c++X.drop c++M++X.take c++Y.drop c++Q=(P++Y.take c)++e::(X.drop (c+1)++M++X.take c++d::(Y.drop (c+1)++Q)):=by rw[T,aa];simp[-Xm]
   have E:(P++Y.take c)++e::(X.drop (c+1)++M++X.take c++d::(Y.drop (c+1)++Q))=(P++Y.take c++e::(X.drop (c+1)++M++X.take c))++d::(Y.drop (c+1)++Q):=by simp
   have F:(P++Y.take c)++d::(X.drop (c+1)++M++X.take c++d::(Y.drop (c+1)++Q))=(P++Y.take c++d::(X.drop (c+1)++M++X.take c))++d::(Y.drop (c+1)++Q):=by simp
   have G:(P++Y.take c++d::(X.drop (c+1)++M++X.take c))++e::(Y.drop (c+1)++Q)=P++Y.take (c+1)++X.drop (c+1)++M++X.take (c+1)++Y.drop (c+1)++Q:=by
    rw[gA,gA,w,y];simp[-Xm]
   have q:(P++Y.take c).length=P.length+c:=by simp;omega
   have r:∀z,(P++Y.take c++z::(X.drop (c+1)++M++X.take c)).length=P.length+X.length+M.length+c:=λz=>by simp;omega
   rw[C]at i;have ag:=lG i (j4 _ _ e _ q);have ah:=lG i (by rw[E];exact j4 _ _ d _ (r e));have ae:aQ tab bM (.aO 2 o 0 N) (.int .i64 ((P.length+c:Nat):Int))=some (.ptr o (P.length+c) 0):=by rw[n4,bE (by omega),dY,dF]
   have af:aQ tab bM (.aO 2 o 0 N) (.int .i64 ((P.length+X.length+M.length+c:Nat):Int))=some (.ptr o (P.length+X.length+M.length+c) 0):=by rw[n4,bE (by omega),dY,dF]
   simp only[cY,an,ao,ae,af,ag,ah,W,aU];have aj:(((P++Y.take c)++e::(X.drop (c+1)++M++X.take c++d::(Y.drop (c+1)++Q))).map aN)[P.length+c]?=some (aN e):=by rw[dH,j4 _ _ e _ q];rfl
   refine nE (off:=0) (row:=aN e) (v :=.agg (aN d)) i aj (by rfl) (by exact aX _) (by rfl) λH s al=>?_
   have s:H[o]?=some (.row bB 2 (((P++Y.take c++d::(X.drop (c+1)++M++X.take c))++d::(Y.drop (c+1)++Q)).map aN)):=by
    rw[s,show dQ (aN e) 0 (cP (.agg (aN d)))=aN d from rfl,← kQ,oe _ _ e d _ q,F]
   try simp only[W]
   have ak:(((P++Y.take c++d::(X.drop (c+1)++M++X.take c))++d::(Y.drop (c+1)++Q)).map aN)[P.length+X.length+M.length+c]?=some (aN d):=by rw[dH,j4 _ _ d _ (r d)];rfl
   refine nE (off:=0) (row:=aN d) (v :=.agg (aN e)) s ak (by rfl) (by exact aX _) (by rfl) λI t am=>?_
   have t:I[o]?=some (.row bB 2 ((P++Y.take (c+1)++X.drop (c+1)++M++X.take (c+1)++Y.drop (c+1)++Q).map aN)):=by
    rw[t,show dQ (aN d) 0 (cP (.agg (aN e)))=aN e from rfl,← kQ,oe _ _ d e _ (r d),G]
   simp only[W,ad];exact .some (.inl ⟨rfl,p - 1,by omega,_,c+1,rfl,by omega,(sm.trans al).trans am,t⟩)
  ·intro h;have h:c=X.length:=by
    have:¬(c:Int)<X.length:=by simpa using h
    omega
   subst h;refine .some (.inr ⟨by simp,rfl,⟨_,_,rfl⟩,sm,?_⟩);rw[i,x,j9,pO,← x,j9,pO];simp[-Xm]
 ·rintro⟨ap,l,g'⟩ ⟨rfl,⟨e,d,rfl⟩,sm,ai⟩;simp only[dV,rB,W];exact B g' ai sm
theorem Wo{g:J}{o N:Nat}{P U V Q:List (aD × aD)}(x:N≤1000000000)(F:(P++U++V++Q).length=N)(T:0<U.length)(aa:0<V.length)(ag:g[o]?=some (.row bB 2 ((P++U++V++Q).map aN)))(cmp:D)(a m b:Int)(ac:a=P.length)(G:m=(P.length+U.length:Nat))(ad:b=(P.length+U.length+V.length:Nat)){I:Type}{f:D × J→Option I}{R1:I→Prop}
  (K:∀g',g'[o]?=some (.row bB 2 ((P++V++U++Q).map aN))→bW o g g'→Wp (f (aH [],g')) R1):Wp ((R zq [.aO 2 o 0 N,.int .i64 a,.int .i64 m,.int .i64 b,cmp] g).bind f) R1:=by
 obtain⟨i,af⟩:∃i:Nat,i=P.length+U.length:=⟨_,rfl⟩
 rw[← af]at G;subst ac G ad;have ae:=F;simp only[dL]at ae;have ah:IntKind.wrap .i64 ((i:Int) - (P.length:Int))=(U.length:Int):=by rw[cN (by omega) (by omega)];omega
 have ai:IntKind.wrap .i64 (((P.length+U.length+V.length:Nat):Int) - (i:Int))=(V.length:Int):=by rw[cN (by omega) (by omega)];omega
 rw[Nk];simp only[DM,W,aU,eH,ah,ai];refine Wp.loop (λH v g'=>∃q r,∃e c d h:List (aD × aD),v=[.int .i64 c.length,.int .i64 d.length,q,r]∧H=c.length+d.length∧0<c.length∧0<d.length∧e.length+c.length=i∧e++d++c++h=P++V++U++Q∧(e++c++d++h).length=N∧bW o g g'∧g'[o]?=some (.row bB 2 ((e++c++d++h).map aN)))
  (λt=>t.1 = .ext 0∧∃q r,∃e c d h:List (aD × aD),t.2.1=[.int .i64 c.length,.int .i64 d.length,q,r]∧c.length=d.length∧e.length+c.length=i∧e++d++c++h=P++V++U++Q∧(e++c++d++h).length=N∧bW o g t.2.2∧t.2.2[o]?=some (.row bB 2 ((e++c++d++h).map aN)))
  (U.length+V.length) ⟨_,_,P,U,V,Q,rfl,rfl,T,aa,by omega,rfl,F,⟨rfl,λ_ _=>rfl⟩,ag⟩ ?_ ?_
 ·rintro H v g' ⟨q,r,e,c,d,h,rfl,ap,am,an,B,k,s,sm,l⟩;have z:=s;simp only[dL]at z;simp only[DN,bD,bY,W,aU,dE];refine Wp.dS ?_ ?_
  ·intro j;have j:c.length≠d.length:=by
    have:¬(c.length:Int)=d.length:=by simpa using j
    omega
   simp only[cZ,W];have u:IntKind.wrap .i64 ((i:Int) - (c.length:Int))=(e.length:Int):=by rw[cN (by omega) (by omega)];omega
   by_cases ao:d.length<c.length
   ·have y:decide ((c.length:Int)>(d.length:Int))=true:=hh (by omega);obtain⟨X,M,ab,C⟩:∃X M,c=X++M∧X.length=d.length:=⟨c.take d.length,c.drop d.length,(jU _ _).symm,by simp;omega⟩
    subst ab;simp only[dL]at *;have A:IntKind.wrap .i64 (((X.length+M.length:Nat):Int) - (d.length:Int))=(M.length:Int):=by rw[cN (by omega) (by omega)];omega
    simp only[y,aK,aJ,eH,u,A,W,aU];refine CT (P:=e) (X:=X) (M:=M) (Y:=d) (Q:=h) x (by simp only[dL];omega) C (by simpa using l) cmp _ _ _ rfl (by omega) (by omega) λw n p=>?_
    simp only[W,gV,bD,bY];rw[← C];refine .some (.inl ⟨rfl,M.length+X.length,by omega,_,_,e++d,M,X,h,rfl,rfl,by omega,by omega,by simp only[dL];omega,by rw[← k];simp[-Xm],by simp only[dL];omega,sm.trans p,by rw[n]⟩)
   ·have y:decide ((c.length:Int)>(d.length:Int))=false:=gR (by omega);obtain⟨M,Y,L,E⟩:∃M Y,d=M++Y∧Y.length=c.length:=⟨d.take (d.length - c.length),d.drop (d.length - c.length),(jU _ _).symm,by simp;omega⟩
    subst L;simp only[dL]at *;have aj:IntKind.wrap .i64 ((i:Int)+((M.length+Y.length:Nat):Int))=((i+(M.length+Y.length):Nat):Int):=by rw[cN (by omega) (by omega)];omega
    have ak:IntKind.wrap .i64 (((i+(M.length+Y.length):Nat):Int) - (c.length:Int))=((e.length+c.length+M.length:Nat):Int):=by rw[cN (by omega) (by omega)];omega
    have A:IntKind.wrap .i64 (((M.length+Y.length:Nat):Int) - (c.length:Int))=(M.length:Int):=by rw[cN (by omega) (by omega)];omega
    simp only[y,aK,aP,aL,eH,cY,u,aj,ak,A,W,aU];refine CT (P:=e) (X:=c) (M:=M) (Y:=Y) (Q:=h) x (by simp only[dL];omega) E.symm (by simpa using l) cmp _ _ _ rfl rfl rfl λw n p=>?_
    simp only[W,gV,bD,bY];rw[← E];refine .some (.inl ⟨rfl,Y.length+M.length,by omega,_,_,e,Y,M,c++h,rfl,rfl,by omega,by omega,by omega,by rw[← k];simp[-Xm],by simp only[dL];omega,sm.trans p,by rw[n];simp[-Xm]⟩)
  ·intro j;have j:c.length=d.length:=by
    have:(c.length:Int)=d.length:=by simpa using j
    omega
   exact .some (.inr ⟨by simp,rfl,_,_,e,c,d,h,rfl,j,B,k,s,sm,l⟩)
 ·rintro⟨al,v,g'⟩ ⟨rfl,q,r,e,c,d,h,rfl,j,B,k,s,sm,l⟩;have z:=s;simp only[dL]at z;have u:IntKind.wrap .i64 ((i:Int) - (c.length:Int))=(e.length:Int):=by rw[cN (by omega) (by omega)];omega
  simp only[dV,cL,bD,bY,W,aU,eH,u];refine CT (P:=e) (X:=c) (M:=[]) (Y:=d) (Q:=h) x (by simp only[dL,eJ];omega) j (by simpa using l) cmp _ _ _ rfl (by simp only[eJ];omega) rfl λw n p=>?_
  simp only[W];refine K w ?_ (sm.trans p);rw[n,← k];simp[-Xm]
theorem VG{g:J}{o:Nat}{A B:List (aD × aD)}{x y:aD × aD}{n:Nat}(a:A.length=n)(j:g[o]?=some (.row bB 2 ((A++x::y::B).map aN))){d:Type}{f:J→Option d}{Q:d→Prop}
  (e:∀g',g'[o]?=some (.row bB 2 ((A++y::x::B).map aN))→bW o g g'→Wp (f g') Q):Wp ((bT tab g bB (.ptr o n 0) (.agg (aN y))).bind λg1=>(bT tab g1 bB (.ptr o (n+1) 0) (.agg (aN x))).bind f) Q:=by
 have l:((A++x::y::B).map aN)[n]?=some (aN x):=by rw[dH,j4 _ _ x _ a];rfl
 refine nE (off:=0) (row:=aN x) (v :=.agg (aN y)) j l (by rfl) (by exact aX _) (by rfl) λg1 b p=>?_
 have h:A++y::y::B=(A++[y])++y::B:=by simp
 have c:(A++[y]).length=n+1:=by simp[-Xm,a]
 have b:g1[o]?=some (.row bB 2 (((A++[y])++y::B).map aN)):=by
  rw[b,show dQ (aN x) 0 (cP (.agg (aN y)))=aN y from rfl,← kQ,oe _ _ x y _ a,h]
 have m:(((A++[y])++y::B).map aN)[n+1]?=some (aN y):=by rw[dH,j4 _ _ y _ c];rfl
 refine nE (off:=0) (row:=aN y) (v :=.agg (aN x)) b m (by rfl) (by exact aX _) (by rfl) λi k q=>?_
 refine e i ?_ (p.trans q);rw[k,show dQ (aN y) 0 (cP (.agg (aN x)))=aN x from rfl,← kQ,oe _ _ y x _ c];simp[-Xm]
theorem VH{g:J}{o:Nat}{A B:List (aD × aD)}{x y:aD × aD}{n:Nat}(a:A.length=n)(c:g[o]?=some (.row bB 2 ((A++x::y::B).map aN))){e:Type}{f:J→Option e}{Q:e→Prop}
  (h:∀g',g'[o]?=some (.row bB 2 ((A++y::x::B).map aN))→bW o g g'→Wp (f g') Q):Wp ((bT tab g bB (.ptr o (n+1) 0) (.agg (aN x))).bind λg1=>(bT tab g1 bB (.ptr o n 0) (.agg (aN y))).bind f) Q:=by
 have i:A++x::y::B=(A++[x])++y::B:=by simp
 have d:(A++[x]).length=n+1:=by simp[-Xm,a]
 rw[i]at c;have m:(((A++[x])++y::B).map aN)[n+1]?=some (aN y):=by rw[dH,j4 _ _ y _ d];rfl
 refine nE (off:=0) (row:=aN y) (v :=.agg (aN x)) c m (by rfl) (by exact aX _) (by rfl) λg1 b p=>?_
 have b:g1[o]?=some (.row bB 2 ((A++x::x::B).map aN)):=by
  rw[b,show dQ (aN y) 0 (cP (.agg (aN x)))=aN x from rfl,← kQ,oe _ _ y x _ d];simp[-Xm]
 have l:((A++x::x::B).map aN)[n]?=some (aN x):=by rw[dH,j4 _ _ x _ a];rfl
 refine nE (off:=0) (row:=aN x) (v :=.agg (aN y)) b l (by rfl) (by exact aX _) (by rfl) λj k q=>?_
 refine h j ?_ (p.trans q);rw[k,show dQ (aN x) 0 (cP (.agg (aN y)))=aN y from rfl,← kQ,oe _ _ x y _ a]
theorem nk{o N n:Nat}(h:n<N):aQ tab bM (.aO 2 o 0 N) (.int .i64 (n:Int))=some (.ptr o n 0):=by rw[n4,bE (by omega),dY,dF]
theorem Wu{g:J}{o N:Nat}{P A Q:List (aD × aD)}{x:aD × aD}(ac:N≤1000000000)(y:(P++x::A++Q).length=N)(B:g[o]?=some (.row bB 2 ((P++x::A++Q).map aN)))(p:bN)(C:Z 0 p.2.1 = .int .i64 ((P.length+A.length+1:Nat):Int))(a:Int)(u:a=P.length)(X:D){q:Type}{f:bN→Option q}{R1:q→Prop}
  (r:∀g' h i,g'[o]?=some (.row bB 2 ((P++A++x::Q).map aN))→bW o g g'→Wp (f (.ext 2,[h,i],g')) R1):Wp ((cA (xS (.aO 2 o 0 N) p) [.int .i64 a,X] g).bind f) R1:=by
 subst u;simp only[dL,eP]at y;refine Wp.loop (λl k g'=>∃d,∃b:Nat,k=[.int .i64 ((P.length+b:Nat):Int),d]∧l+b=A.length∧bW o g g'∧g'[o]?=some (.row bB 2 ((P++A.take b++x::(A.drop b++Q)).map aN)))
  (λj=>j.1 = .ext 2∧(∃h i,j.2.1=[h,i])∧bW o g j.2.2∧j.2.2[o]?=some (.row bB 2 ((P++A++x::Q).map aN))) A.length ⟨_,0,rfl,rfl,⟨rfl,λ_ _=>rfl⟩,by simpa using B⟩ ?_ ?_
 ·rintro l k g' ⟨ae,b,rfl,ad,sm,e⟩;have R:IntKind.wrap .i64 (((P.length+A.length+1:Nat):Int) - 1)=((P.length+A.length:Nat):Int):=by rw[cN (by omega) (by omega)];omega
  simp only[xS,bD,bY,W,aU,C,eH,R,cI];refine Wp.dS ?_ ?_
  ·intro c;have c:b<A.length:=by
    have:((P.length+b:Nat):Int)<((P.length+A.length:Nat):Int):=by simpa using c
    omega
   obtain⟨d,m⟩:=iR c;have v:A.drop b=d::A.drop (b+1):=by
    obtain⟨z,w⟩:=bO.1 m;rw[ia z,w]
   have E:IntKind.wrap .i64 (((P.length+b:Nat):Int)+1)=((P.length+b+1:Nat):Int):=by
    rw[cN (by omega) (by omega)];omega
   have s:P++A.take b++x::(A.drop b++Q)=(P++A.take b)++x::d::(A.drop (b+1)++Q):=by rw[v];simp[-Xm]
   have t:(P++A.take b++[x])++d::(A.drop (b+1)++Q)=(P++A.take b)++x::d::(A.drop (b+1)++Q):=by simp
   have n:(P++A.take b).length=P.length+b:=by simp;omega
   have K:(P++A.take b++[x]).length=P.length+b+1:=by simp;omega
   rw[s]at e;have H:=lG e (j4 _ _ x _ n);have I:=lG e (by rw[← t];exact j4 _ _ d _ K);have F:=@nk o N (P.length+b) (by omega);have G:=@nk o N (P.length+b+1) (by omega);simp only[cY,E,F,G,H,I,W,aU];refine VG n e λab M T=>?_
   try simp only[W]
   refine .some (.inl ⟨rfl,l - 1,by omega,_,b+1,rfl,by omega,sm.trans T,?_⟩);rw[M,gA,m];simp[-Xm]
  ·intro c;have c:b=A.length:=by
    have:¬((P.length+b:Nat):Int)<((P.length+A.length:Nat):Int):=by simpa using c
    omega
   subst c;rw[j9,pO]at e;exact .some (.inr ⟨by simp,rfl,⟨_,_,rfl⟩,sm,by simpa using e⟩)
 ·rintro⟨aa,k,g'⟩ ⟨rfl,⟨h,i,rfl⟩,sm,L⟩;exact r g' h i L sm
theorem Ws{g:J}{o N:Nat}{P A Q:List (aD × aD)}{x:aD × aD}(ab:N≤1000000000)(z:(P++A++x::Q).length=N)(E:g[o]?=some (.row bB 2 ((P++A++x::Q).map aN)))(r:bN)(F:Z 0 r.2.1 = .int .i64 (P.length:Int))(m:Int)(B:m=(P.length+A.length:Nat))(T:D){s:Type}{f:bN→Option s}{R1:s→Prop}
  (t:∀g' e h,g'[o]?=some (.row bB 2 ((P++x::A++Q).map aN))→bW o g g'→Wp (f (.ext 6,[e,h],g')) R1):Wp ((cA (xQ (.aO 2 o 0 N) r) [.int .i64 m,T] g).bind f) R1:=by
 subst B;simp only[dL,eP]at z;refine Wp.loop (λb k g'=>∃c,k=[.int .i64 ((P.length+b:Nat):Int),c]∧b≤A.length∧bW o g g'∧g'[o]?=some (.row bB 2 ((P++A.take b++x::(A.drop b++Q)).map aN)))
  (λj=>j.1 = .ext 6∧(∃e h,j.2.1=[e,h])∧bW o g j.2.2∧j.2.2[o]?=some (.row bB 2 ((P++x::A++Q).map aN))) A.length ⟨_,rfl,aX _,⟨rfl,λ_ _=>rfl⟩,by simpa using E⟩ ?_ ?_
 ·rintro b k g' ⟨ad,rfl,ac,sm,i⟩;simp only[xQ,bD,bY,W,aU,F,cZ];refine Wp.dS ?_ ?_
  ·intro d;have d:0<b:=by
    have:((P.length+b:Nat):Int)>(P.length:Int):=by simpa using d
    omega
   obtain⟨a,rfl⟩:∃a,b=a+1:=⟨b - 1,by omega⟩
   obtain⟨c,n⟩:∃c,A[a]?=some c:=⟨_,cJ (by omega)⟩
   have w:A.drop a=c::A.drop (a+1):=by
    obtain⟨C,y⟩:=bO.1 n;rw[ia C,y]
   have l:IntKind.wrap .i64 (((P.length+(a+1):Nat):Int) - 1)=((P.length+a:Nat):Int):=by
    rw[cN (by omega) (by omega)];omega
   have u:P++A.take (a+1)++x::(A.drop (a+1)++Q)=(P++A.take a)++c::x::(A.drop (a+1)++Q):=by rw[gA,n];simp[-Xm]
   have v:(P++A.take a++[c])++x::(A.drop (a+1)++Q)=(P++A.take a)++c::x::(A.drop (a+1)++Q):=by simp
   have q:(P++A.take a).length=P.length+a:=by simp;omega
   have K:(P++A.take a++[c]).length=P.length+a+1:=by simp;omega
   rw[u]at i;have H:=lG i (j4 _ _ c _ q);have I:=lG i (by rw[← v];exact j4 _ _ x _ K);have G:=@nk o N (P.length+a) (by omega);have p:=@nk o N (P.length+(a+1)) (by omega);rw[show P.length+(a+1)=P.length+a+1 from rfl]at l p ⊢;simp only[eH,l,G,p,H,I,W,aU];refine VH q i λaa M R=>?_
   try simp only[W]
   refine .some (.inl ⟨rfl,a,by omega,_,rfl,by omega,sm.trans R,?_⟩);rw[M,w];simp[-Xm]
  ·intro d;have d:b=0:=by
    have:¬((P.length+b:Nat):Int)>(P.length:Int):=by simpa using d
    omega
   subst d;exact .some (.inr ⟨by simp,rfl,⟨_,_,rfl⟩,sm,by simpa using i⟩)
 ·rintro⟨X,k,g'⟩ ⟨rfl,⟨e,h,rfl⟩,sm,L⟩;exact t g' e h L sm
theorem wM{i j:Nat}(hi:i≤1000000000)(c:j≤1000000000):IntKind.wrap .i64 ((i:Int)+j)=((i+j:Nat):Int)∧IntKind.wrap .u64 ((i+j:Nat):Int)=((i+j:Nat):Int)∧(((i+j:Nat):Int)).fdiv (2 ^ min ((1:Int).toNat) IntKind.u64.bits)=(((i+j) / 2:Nat):Int)∧IntKind.wrap .i64 (((i+j) / 2:Nat):Int)=(((i+j) / 2:Nat):Int):=by
 have a:min ((1:Int).toNat) IntKind.u64.bits=1:=by decide
 have b:(2:Int) ^ 1=2:=by decide
 refine⟨?_,WB (by omega) (by omega),?_,cN (by omega) (by omega)⟩
 ·rw[cN (by omega) (by omega)];omega
 ·rw[a,b,Int.fdiv_eq_ediv_of_nonneg _ (by omega)];omega
theorem Wt{g:J}{o N:Nat}{i:List (aD × aD)}(ax:N≤1000000000)(a0:i.length=N)(z:g[o]?=some (.row bB 2 (i.map aN)))(cmp:D)(a m b:Nat)(h:Nat→Prop)(T:a<N)(aa:m≤b)(ay:b≤N)(x:aD × aD)(ac:i[a]?=some x)
  (X:∀t y,m≤t→t<b→i[t]?=some y→∃v,gu R cmp [.agg (aN y),.agg (aN x)] g=some (.int .i64 v,g)∧(v<0↔h t)) (aq ar au:D) {I:Type} {f:bN→Option I} {Q:I→Prop}
  (K:∀(c:Nat) j k l,m≤c→c≤b→(c=m∨h (c - 1))→(c=b∨¬h c)→Wp (f (.ext 0,[.int .i64 (c:Int),.int .i64 (c:Int),j,k,l],g)) Q):Wp ((cA (xR (.aO 2 o 0 N) (.int .i64 (a:Int)) cmp) [.int .i64 (m:Int),.int .i64 (b:Int),aq,ar,au] g).bind f) Q:=by
 refine Wp.loop (λC q r=>r=g∧∃F G H,∃e d:Nat,q=[.int .i64 (e:Int),.int .i64 (d:Int),F,G,H]∧C=d - e∧m≤e∧e≤d∧d≤b∧(e=m∨h (e - 1))∧(d=b∨¬h d))
  (λs=>s.1 = .ext 0∧s.2.2=g∧∃j k l,∃c:Nat,s.2.1=[.int .i64 (c:Int),.int .i64 (c:Int),j,k,l]∧m≤c∧c≤b∧(c=m∨h (c - 1))∧(c=b∨¬h c)) (b - m) ⟨rfl,_,_,_,m,b,rfl,rfl,aX _,aa,aX _,.inl rfl,.inl rfl⟩ ?_ ?_
 ·rintro C q r ⟨rfl,F,G,H,e,d,rfl,az,M,aw,P,u,w⟩;simp only[xR,bD,bY,W,aU,cI];refine Wp.dS ?_ ?_
  ·intro n;have n:e<d:=by
    have:(e:Int)<(d:Int):=by simpa using n
    omega
   obtain⟨al,am,an,ao⟩:=@wM e d (by omega) (by omega);obtain⟨y,B⟩:∃y,i[(e+d) / 2]?=some y:=⟨_,cJ (by omega)⟩
   obtain⟨v,ab,A⟩:=X ((e+d) / 2) y (by omega) (by omega) B;have ad:=@nk o N ((e+d) / 2) (by omega);have ae:=@nk o N a T;have aj:=lG z B;have ak:=lG z ac;have ap:IntKind.wrap .i64 ((((e+d) / 2:Nat):Int)+1)=(((e+d) / 2+1:Nat):Int):=by rw[cN (by omega) (by omega)];omega
   simp only[cY,al,vv,am,vw,show ¬(1:Int)<0 by omega,aL,an,vu,ao,ad,ae,aj,ak,ab,W,cI,aU];by_cases p:v<0
   ·have:=A.1 p;simp only[p,bK,aK,aJ,ap,W,gV,bD,bY];exact .some (.inl ⟨rfl,d - ((e+d) / 2+1),by omega,rfl,_,_,_,_,_,rfl,rfl,by omega,by omega,by omega,.inr (by simpa using this),w⟩)
   ·have:=λL=>p (A.2 L)
    simp only[p,bG,aK,aP,aL,W,gV,bD,bY];exact .some (.inl ⟨rfl,(e+d) / 2 - e,by omega,rfl,_,_,_,_,_,rfl,rfl,by omega,by omega,by omega,u,.inr this⟩)
  ·intro n;have n:¬e<d:=by
    have:¬(e:Int)<(d:Int):=by simpa using n
    omega
   obtain rfl:d=e:=by omega
   exact .some (.inr ⟨by simp,rfl,rfl,_,_,_,d,rfl,M,P,u,w⟩)
 ·rintro⟨av,q,r⟩ ⟨rfl,E,j,k,l,c,rfl,af,ag,ah,ai⟩;simp only at E;subst E;exact K c j k l af ag ah ai
theorem Wr{g:J}{o N:Nat}{i:List (aD × aD)}(ax:N≤1000000000)(a0:i.length=N)(z:g[o]?=some (.row bB 2 (i.map aN)))(cmp:D)(m a b:Nat)(h:Nat→Prop)(X:m<N)(aa:a≤b)(ay:b≤N)(x:aD × aD)(ac:i[m]?=some x)
  (T:∀t y,a≤t→t<b→i[t]?=some y→∃v,gu R cmp [.agg (aN x),.agg (aN y)] g=some (.int .i64 v,g)∧(¬v<0↔h t)) (aq ar au:D) {I:Type} {f:bN→Option I} {Q:I→Prop}
  (K:∀(c:Nat) j k l,a≤c→c≤b→(c=a∨h (c - 1))→(c=b∨¬h c)→Wp (f (.ext 4,[.int .i64 (c:Int),.int .i64 (c:Int),j,k,l],g)) Q):Wp ((cA (xP (.aO 2 o 0 N) (.int .i64 (m:Int)) cmp) [.int .i64 (a:Int),.int .i64 (b:Int),aq,ar,au] g).bind f) Q:=by
 refine Wp.loop (λC q r=>r=g∧∃F G H,∃e d:Nat,q=[.int .i64 (e:Int),.int .i64 (d:Int),F,G,H]∧C=d - e∧a≤e∧e≤d∧d≤b∧(e=a∨h (e - 1))∧(d=b∨¬h d))
  (λs=>s.1 = .ext 4∧s.2.2=g∧∃j k l,∃c:Nat,s.2.1=[.int .i64 (c:Int),.int .i64 (c:Int),j,k,l]∧a≤c∧c≤b∧(c=a∨h (c - 1))∧(c=b∨¬h c)) (b - a) ⟨rfl,_,_,_,a,b,rfl,rfl,aX _,aa,aX _,.inl rfl,.inl rfl⟩ ?_ ?_
 ·rintro C q r ⟨rfl,F,G,H,e,d,rfl,az,M,aw,P,u,w⟩;simp only[xP,bD,bY,W,aU,cI];refine Wp.dS ?_ ?_
  ·intro n;have n:e<d:=by
    have:(e:Int)<(d:Int):=by simpa using n
    omega
   obtain⟨al,am,an,ao⟩:=@wM e d (by omega) (by omega);obtain⟨y,B⟩:∃y,i[(e+d) / 2]?=some y:=⟨_,cJ (by omega)⟩
   obtain⟨v,ab,A⟩:=T ((e+d) / 2) y (by omega) (by omega) B;have ad:=@nk o N ((e+d) / 2) (by omega);have ae:=@nk o N m X;have aj:=lG z B;have ak:=lG z ac;have ap:IntKind.wrap .i64 ((((e+d) / 2:Nat):Int)+1)=(((e+d) / 2+1:Nat):Int):=by rw[cN (by omega) (by omega)];omega
   simp only[cY,al,vv,am,vw,show ¬(1:Int)<0 by omega,aL,an,vu,ao,ad,ae,aj,ak,ab,W,cI,fK,aU];by_cases p:v<0
   ·have:=λL=>(A.2 L) p
    simp only[p,bK,eY,aK,aP,aL,W,gV,bD,bY];exact .some (.inl ⟨rfl,(e+d) / 2 - e,by omega,rfl,_,_,_,_,_,rfl,rfl,by omega,by omega,by omega,u,.inr this⟩)
   ·have:=A.1 p;simp only[p,bG,fO,aK,aJ,ap,W,gV,bD,bY];exact .some (.inl ⟨rfl,d - ((e+d) / 2+1),by omega,rfl,_,_,_,_,_,rfl,rfl,by omega,by omega,by omega,.inr (by simpa using this),w⟩)
  ·intro n;have n:¬e<d:=by
    have:¬(e:Int)<(d:Int):=by simpa using n
    omega
   obtain rfl:d=e:=by omega
   exact .some (.inr ⟨by simp,rfl,rfl,_,_,_,d,rfl,M,P,u,w⟩)
 ·rintro⟨av,q,r⟩ ⟨rfl,E,j,k,l,c,rfl,af,ag,ah,ai⟩;simp only at E;subst E;exact K c j k l af ag ah ai
theorem Wq{g:J}{o N:Nat}{i:List (aD × aD)}(ax:N≤1000000000)(a1:i.length=N)(x:g[o]?=some (.row bB 2 (i.map aN)))(cmp:D)(p a b:Nat)(h:Nat→Prop)(aa:a≤b)(az:b≤p+1)(ay:b≤N)(a2:p<a+N)
  (X:∀t y z,a≤t→t<b→i[t]?=some y→i[p - t]?=some z→∃v,gu R cmp [.agg (aN z),.agg (aN y)] g=some (.int .i64 v,g)∧(¬v<0↔h t)) (aq ar au:D) {K:Type} {f:bN→Option K} {Q:K→Prop}
  (L:∀(c:Nat) j k l,a≤c→c≤b→(c=a∨h (c - 1))→(c=b∨¬h c)→Wp (f (.ext 8,[.int .i64 (c:Int),.int .i64 (c:Int),j,k,l],g)) Q):Wp ((cA (uQ (.aO 2 o 0 N) cmp (.int .i64 (p:Int))) [.int .i64 (a:Int),.int .i64 (b:Int),aq,ar,au] g).bind f) Q:=by
 refine Wp.loop (λE q r=>r=g∧∃G H I,∃e d:Nat,q=[.int .i64 (e:Int),.int .i64 (d:Int),G,H,I]∧E=d - e∧a≤e∧e≤d∧d≤b∧(e=a∨h (e - 1))∧(d=b∨¬h d))
  (λs=>s.1 = .ext 8∧s.2.2=g∧∃j k l,∃c:Nat,s.2.1=[.int .i64 (c:Int),.int .i64 (c:Int),j,k,l]∧a≤c∧c≤b∧(c=a∨h (c - 1))∧(c=b∨¬h c)) (b - a) ⟨rfl,_,_,_,a,b,rfl,rfl,aX _,aa,aX _,.inl rfl,.inl rfl⟩ ?_ ?_
 ·rintro E q r ⟨rfl,G,H,I,e,d,rfl,a0,P,aw,T,u,w⟩;simp only[uQ,bD,bY,W,aU,cI];refine Wp.dS ?_ ?_
  ·intro m;have m:e<d:=by
    have:(e:Int)<(d:Int):=by simpa using m
    omega
   obtain⟨ak,al,am,an⟩:=@wM e d (by omega) (by omega);obtain⟨y,B⟩:∃y,i[(e+d) / 2]?=some y:=⟨_,cJ (by omega)⟩
   obtain⟨z,C⟩:∃z,i[p - (e+d) / 2]?=some z:=⟨_,cJ (by omega)⟩
   obtain⟨v,ab,A⟩:=X ((e+d) / 2) y z (by omega) (by omega) B C;have ac:=@nk o N ((e+d) / 2) (by omega);have ad:=@nk o N (p - (e+d) / 2) (by omega);have ai:=lG x B;have aj:=lG x C;have ap:IntKind.wrap .i64 ((p:Int) - (((e+d) / 2:Nat):Int))=((p - (e+d) / 2:Nat):Int):=by rw[cN (by omega) (by omega)];omega
   have ao:IntKind.wrap .i64 ((((e+d) / 2:Nat):Int)+1)=(((e+d) / 2+1:Nat):Int):=by rw[cN (by omega) (by omega)];omega
   simp only[cY,ak,vv,al,vw,show ¬(1:Int)<0 by omega,aL,am,vu,an,eH,ap,ac,ad,ai,aj,ab,W,cI,fK,aU];by_cases n:v<0
   ·have:=λM=>(A.2 M) n
    simp only[n,bK,eY,aK,aP,aL,W,gV,bD,bY];exact .some (.inl ⟨rfl,(e+d) / 2 - e,by omega,rfl,_,_,_,_,_,rfl,rfl,by omega,by omega,by omega,u,.inr this⟩)
   ·have:=A.1 n;simp only[n,bG,fO,aK,aJ,ao,W,gV,bD,bY];exact .some (.inl ⟨rfl,d - ((e+d) / 2+1),by omega,rfl,_,_,_,_,_,rfl,rfl,by omega,by omega,by omega,.inr (by simpa using this),w⟩)
  ·intro m;have m:¬e<d:=by
    have:¬(e:Int)<(d:Int):=by simpa using m
    omega
   obtain rfl:d=e:=by omega
   exact .some (.inr ⟨by simp,rfl,rfl,_,_,_,d,rfl,P,T,u,w⟩)
 ·rintro⟨av,q,r⟩ ⟨rfl,F,j,k,l,c,rfl,ae,af,ag,ah⟩;simp only at F;subst F;exact L c j k l ae af ag ah
def oj(cmp:D)(c:aD × aD→aD × aD→Int):Prop:=∀b d a,gu R cmp [.agg (aN b),.agg (aN d)] a=some (.int .i64 (c b d),a)
theorem Wl{g:J}{o N:Nat}{P B Q:List (aD × aD)}{x:aD × aD}(t:N≤1000000000)(p:(P++x::B++Q).length=N)(u:g[o]?=some (.row bB 2 ((P++x::B++Q).map aN)))(cmp:D)(c:aD × aD→aD × aD→Int)(K:oj cmp c)(a m b:Int)(H:a=(P.length:Nat))(X:m=(P.length+1:Nat))(I:b=(P.length+1+B.length:Nat)){z:Type}{f:D × J→Option z}{R1:z→Prop}
  (C:∀g' h i,B=h++i→(h=[]∨∃y r,h=r++[y]∧c y x<0)→(i=[]∨∃y r,i=y::r∧¬c y x<0)→g'[o]?=some (.row bB 2 ((P++(h++x::i)++Q).map aN))→bW o g g'→Wp (f (aH [],g')) R1):Wp ((R oQ [.aO 2 o 0 N,.int .i64 a,.int .i64 m,.int .i64 b,cmp] g).bind f) R1:=by
 subst H X I;have T:=p;simp only[dL,eP]at T;have ae:IntKind.wrap .i64 (((P.length+1:Nat):Int) - (P.length:Int))=1:=by rw[cN (by omega) (by omega)];omega
 have F:(P++x::B++Q)[P.length]?=some x:=by
  rw[show P++x::B++Q=P++x::(B++Q) by simp];exact j4 _ _ x _ rfl
 have s:∀d,(P++x::B++Q)[P.length+1+d]?=(B++Q)[d]?:=λd=>by
  rw[show P++x::B++Q=(P++[x])++(B++Q) by simp,hV (by simp)];simp[-Xm]
 rw[yW];simp only[uP,W,aU,eH,ae,fa,bK,aK,aJ];refine Wt t p u cmp P.length (P.length+1) (P.length+1+B.length) (λd=>∃y,(P++x::B++Q)[d]?=some y∧c y x<0) (by omega) (by omega) (by omega) x F (λd y _ _ e=>⟨c y x,K y x g,λn=>⟨y,e,n⟩,λ⟨ao,j,G⟩=>by rw[e]at j;injection j with j;rw[j];exact G⟩) _ _ _ λv af ag ah am an w l=>?_
 obtain⟨d,rfl⟩:∃d,v=P.length+1+d:=⟨v - (P.length+1),by omega⟩
 have al:d≤B.length:=by omega
 simp only[dV,cL,W,bD,bY,aU];have q:P++x::B++Q=P++x::B.take d++(B.drop d++Q):=by
  simp only[jR,lU];rw[← jR (B.take d),jU]
 have ab:(B.take d).length=d:=by simp;omega
 refine Wu (P:=P) (A:=B.take d) (Q:=B.drop d++Q) (x:=x) t (by rw[← q];exact p) (by rw[← q];exact u) _ (by rw[ab];show D.int _ _=_;congr 1;omega) _ rfl _ λE ai aj ac ad=>?_
 simp only[dV,cL,W];refine C E (B.take d) (B.drop d) (jU _ _).symm ?_ ?_ (by rw[ac];simp[-Xm]) ad
 ·rcases pU d with rfl|ak
  ·exact .inl (by simp)
  ·right;rcases w with w|⟨y,e,k⟩
   ·omega
   ·rw[show P.length+1+d - 1=P.length+1+(d - 1) by omega,s,eV (by omega)]at e;refine⟨y,B.take (d - 1),?_,k⟩
    conv=>lhs;rw[show d=(d - 1)+1 by omega,gA,e]
    simp[-Xm]
 ·rcases fm d B.length with k|L
  ·right;obtain⟨y,e⟩:=iR k;rcases l with l|l
   ·omega
   ·refine⟨y,B.drop (d+1),?_,λn=>l ⟨y,by rw[s,eV k];exact e,n⟩⟩;obtain⟨aa,M⟩:=bO.1 e;rw[ia aa,M]
  ·exact .inl (ot L)
theorem Wm{g:J}{o N:Nat}{P A Q:List (aD × aD)}{x:aD × aD}(t:N≤1000000000)(p:(P++A++x::Q).length=N)(am:A.length≠1)(u:g[o]?=some (.row bB 2 ((P++A++x::Q).map aN)))(cmp:D)(c:aD × aD→aD × aD→Int)(K:oj cmp c)(a m b:Int)(H:a=(P.length:Nat))(ab:m=(P.length+A.length:Nat))(I:b=(P.length+A.length+1:Nat)){B:Type}{f:D × J→Option B}{R1:B→Prop}
  (C:∀g' h i,A=h++i→(h=[]∨∃y r,h=r++[y]∧¬c x y<0)→(i=[]∨∃y r,i=y::r∧c x y<0)→g'[o]?=some (.row bB 2 ((P++(h++x::i)++Q).map aN))→bW o g g'→Wp (f (aH [],g')) R1):Wp ((R oQ [.aO 2 o 0 N,.int .i64 a,.int .i64 m,.int .i64 b,cmp] g).bind f) R1:=by
 subst H ab I;have aa:=p;simp only[dL,eP]at aa;have af:IntKind.wrap .i64 (((P.length+A.length:Nat):Int) - (P.length:Int))=A.length:=by rw[cN (by omega) (by omega)];omega
 have ag:IntKind.wrap .i64 (((P.length+A.length+1:Nat):Int) - ((P.length+A.length:Nat):Int))=1:=by rw[cN (by omega) (by omega)];omega
 have L:decide ((A.length:Int)=1)=false:=gR (by omega);have F:(P++A++x::Q)[P.length+A.length]?=some x:=j4 _ _ x _ (by simp);have s:∀d,d<A.length→(P++A++x::Q)[P.length+d]?=A[d]?:=λd ao=>by
  rw[jR,hV (by simp),eV (by omega)];simp[-Xm]
 rw[yW];simp only[uP,sy,W,aU,eH,af,ag,fa,L,bK,aK,aP,aL,aJ];refine Wr t p u cmp (P.length+A.length) P.length (P.length+A.length) (λd=>∃y,(P++A++x::Q)[d]?=some y∧¬c x y<0) (by omega) (by omega) (by omega) x F (λd y _ _ e=>⟨c x y,K x y g,λn=>⟨y,e,n⟩,λ⟨au,j,G⟩=>by rw[e]at j;injection j with j;rw[j];exact G⟩) _ _ _ λw ah ai aj aq ar z l=>?_
 obtain⟨d,rfl⟩:∃d,w=P.length+d:=⟨w - P.length,by omega⟩
 have ap:d≤A.length:=by omega
 simp only[dV,cL,W,bD,bY,aU];have v:(A.take d).length=d:=by simp;omega
 have q:P++A++x::Q=(P++A.take d)++A.drop d++x::Q:=by
  rw[jR P (A.take d),jU]
 have M:(A.drop d).length=A.length - d:=E0;refine Ws (P:=P++A.take d) (A:=A.drop d) (Q:=Q) (x:=x) t (by rw[← q];exact p) (by rw[← q];exact u) _ (by rw[dL,v];rfl) _ (by rw[dL,v,M];congr 1;omega) _ λE ak al ad ae=>?_
 simp only[dV,cL,W];refine C E (A.take d) (A.drop d) (jU _ _).symm ?_ ?_ (by rw[ad];simp[-Xm]) ae
 ·rcases pU d with rfl|an
  ·exact .inl (by simp)
  ·right;rcases z with z|⟨y,e,k⟩
   ·omega
   ·rw[show P.length+d - 1=P.length+(d - 1) by omega,s _ (by omega)]at e;refine⟨y,A.take (d - 1),?_,k⟩
    conv=>lhs;rw[show d=(d - 1)+1 by omega,gA,e]
    simp[-Xm]
 ·rcases fm d A.length with k|T
  ·right;obtain⟨y,e⟩:=iR k;rcases l with l|l
   ·omega
   ·refine⟨y,A.drop (d+1),?_,mA λn=>l ⟨y,by rw[s _ k];exact e,n⟩⟩;obtain⟨ac,X⟩:=bO.1 e;rw[ia ac,X]
  ·exact .inl (ot T)
theorem G5{b:Type}(P A B:List b)(t:Nat)(a:P.length≤t)(c:t<P.length+A.length):(P++A++B)[t]?=A[t - P.length]?:=by
 rw[jR,hV a,eV (by omega)]
theorem HE{a:Type}{A:List a}{t:Nat}{y:a}(c:0<t)(b:A[t - 1]?=some y):∃r,A.take t=r++[y]:=by
 refine⟨A.take (t - 1),?_⟩
 conv=>lhs;rw[show t=(t - 1)+1 by omega,gA,b]
 simp[-Xm]
theorem GO{a:Type}{A:List a}{t:Nat}{y:a}(d:A[t]?=some y):∃r,A.drop t=y::r:=by
 obtain⟨c,b⟩:=bO.1 d;exact⟨A.drop (t+1),by rw[ia c,b]⟩
theorem yC(b:Bool)(a c:Int)(t:Nat){h:Type}(f:D→Option h):((O (.bool b) true (some (.int .i64 a))).bind λd=>(O (.bool b) true (some (.int .i64 c))).bind λe=>(O (.bool b) true (V tab .lss t d e)).bind λg=>(cD (.bool b) g (.bool false)).bind f)=f (.bool (b&&decide (a<c))):=by
 cases b
 ·simp only[bL,reduceCtorEq,aL,W,bI,aP,lS]
 ·simp only[bL,aJ,W,bI,cI,uN]
def E8(c:aD × aD→aD × aD→Int)(S dK:aD × aD→aD × aD→Prop)(cmp:D)(o N n:Nat):Prop:=
 ∀(g:J) (d a b f:List (aD × aD)) (h j i:Int),a.length+b.length≤n→(d++a++b++f).length=N→0<a.length→0<b.length→a.Pairwise S→b.Pairwise S→(∀l∈a,∀m∈b,dK l m) →
  g[o]?=some (.row bB 2 ((d++a++b++f).map aN))→h=(d.length:Nat)→j=(d.length+a.length:Nat)→i=(d.length+a.length+b.length:Nat) →
  Wp (R oQ [.aO 2 o 0 N,.int .i64 h,.int .i64 j,.int .i64 i,cmp] g) λk=>∃e:List (aD × aD),e.Perm (a++b)∧e.Pairwise S∧k.2[o]?=some (.row bB 2 ((d++e++f).map aN))∧bW o g k.2
theorem LU{g:J}{o N:Nat}{P A B Q:List (aD × aD)}(ad:N≤1000000000)(aa:(P++A++B++Q).length=N)(ap:0<A.length)(aq:0<B.length)(aj:g[o]?=some (.row bB 2 ((P++A++B++Q).map aN)))(cmp:D)(c:aD × aD→aD × aD→Int)(ae:oj cmp c)
  (a v u:Nat) (av:a=(P.length+(P.length+A.length+B.length)) / 2) (al:(P.length+A.length>a∧v+B.length=a∧u=a)∨(P.length+A.length≤a∧v=P.length∧u=P.length+A.length))
  (p:Int) (ak:p=(a+(P.length+A.length) - 1:Nat)) (am an ao:D) {ab:Type} {f:bN→Option ab} {R1:ab→Prop}
  (ac:∀(k:Nat) C E F j w l z,A=j++w→B=l++z→k=P.length+j.length→a=P.length+j.length+l.length →
   (j=[]∨z=[]∨∃x y r s,j=r++[x]∧z=y::s∧¬c y x<0)→(w=[]∨l=[]∨∃x y r s,l=r++[y]∧w=x::s∧c y x<0) →
   Wp (f (.ext 8,[.int .i64 (k:Int),.int .i64 (k:Int),C,E,F],g)) R1):Wp ((cA (uQ (.aO 2 o 0 N) cmp (.int .i64 p)) [.int .i64 (v:Int),.int .i64 (u:Int),am,an,ao] g).bind f) R1:=by
 subst ak;have ah:=aa;simp only[dL]at ah;have T:∀t,P.length≤t→t<P.length+A.length→(P++A++B++Q)[t]?=A[t - P.length]?:=λt H d=>by
  rw[jR (P++A)];exact G5 P A _ t H d
 have X:∀t,P.length+A.length≤t→t<P.length+A.length+B.length→(P++A++B++Q)[t]?=B[t - (P.length+A.length)]?:=λt H d=>by
  have:=G5 (P++A) B Q t (by simpa using H) (by simpa using d);simpa using this
 obtain⟨R,m⟩:∃R:Nat→Prop,∀t,R t↔∃y b,(P++A++B++Q)[t]?=some y∧(P++A++B++Q)[a+(P.length+A.length) - 1 - t]?=some b∧¬c b y<0:=⟨_,λt=>Iff.rfl⟩
 refine Wq ad aa aj cmp (a+(P.length+A.length) - 1) v u R (by omega) (by omega) (by omega) (by omega)
  (λt y b _ _ e h=>⟨c b y,ae b y g,λG=>(m t).2 ⟨y,b,e,h,G⟩,λaf=>by
   obtain⟨a0,a1,d,i,I⟩:=(m t).1 af;rw[e]at d;rw[h]at i;injection d with d;injection i with i;rw[d,i];exact I⟩) _ _ _ λk C E F aw ax n q=>?_
 have ar:k - P.length≤A.length:=by omega
 have au:a - k≤B.length:=by omega
 have ay:(A.take (k - P.length)).length=k - P.length:=by simp;omega
 have az:(B.take (a - k)).length=a - k:=by simp;omega
 refine ac k C E F (A.take (k - P.length)) (A.drop (k - P.length)) (B.take (a - k)) (B.drop (a - k)) (jU _ _).symm (jU _ _).symm (by omega) (by omega) ?_ ?_
 ·rcases n with n|n
  ·rcases al with⟨d,i,I⟩|⟨d,i,I⟩
   ·right;left;exact ot (by omega)
   ·left;apply fQ;omega
  ·by_cases ag:k=P.length
   ·left;apply fQ;omega
   ·right;by_cases K:B.length≤a - k
    ·left;exact ot K
    ·right;obtain⟨y,b,e,h,ai⟩:=(m _).1 n;rw[T _ (by omega) (by omega)]at e;rw[X _ (by omega) (by omega)]at h;obtain⟨r,L⟩:=HE (A:=A) (t:=k - P.length) (y:=y) (by omega) (by rw[← e];congr 1;omega);obtain⟨s,M⟩:=GO (A:=B) (t:=a - k) (y:=b) (by rw[← h];congr 1;omega);exact⟨y,b,r,s,L,M,ai⟩
 ·by_cases ag:k=P.length+A.length
  ·left;exact ot (by omega)
  ·right;by_cases K:a - k=0
   ·left;rw[K];rfl
   ·right;rcases q with q|q
    ·omega
    ·obtain⟨y,e⟩:∃y,A[k - P.length]?=some y:=⟨_,cJ (by omega)⟩
     obtain⟨b,h⟩:∃b,B[a - k - 1]?=some b:=⟨_,cJ (by omega)⟩
     obtain⟨r,L⟩:=HE (A:=B) (t:=a - k) (y:=b) (by omega) h;obtain⟨s,M⟩:=GO (A:=A) (t:=k - P.length) (y:=y) e;refine⟨y,b,r,s,L,M,mA λG=>q ((m _).2 ⟨y,b,?_,?_,G⟩)⟩
     ·rw[T _ (by omega) (by omega)];exact e
     ·rw[X _ (by omega) (by omega),← h];congr 1;omega
theorem Wn{c:aD × aD→aD × aD→Int}{S dK:aD × aD→aD × aD→Prop}(a9:oC c S dK){cmp:D}(a6:oj cmp c){o N n:Nat}(al:N≤1000000000)(au:E8 c S dK cmp o N n)
  {g:J} {P A B Q:List (aD × aD)} {a m b:Int} (br:A.length+B.length≤n+1) (ao:(P++A++B++Q).length=N) (a3:0<A.length) (a4:0<B.length) (w:A.Pairwise S) (z:B.Pairwise S) (ab:∀x∈A,∀y∈B,dK x y)
  (R:g[o]?=some (.row bB 2 ((P++A++B++Q).map aN))) (a5:a=(P.length:Nat)) (ap:m=(P.length+A.length:Nat)) (am:b=(P.length+A.length+B.length:Nat)) :
  Wp (sA (.aO 2 o 0 N) (.int .i64 a) (.int .i64 m) (.int .i64 b) cmp g) λp=>∃C:List (aD × aD),C.Perm (A++B)∧C.Pairwise S∧p.2[o]?=some (.row bB 2 ((P++C++Q).map aN))∧bW o g p.2:=by
 have a7:=ao;simp only[dL]at a7;obtain⟨d,aq⟩:∃d:Nat,d=(P.length+(P.length+A.length+B.length)) / 2:=⟨_,rfl⟩
 obtain⟨e,ar⟩:∃e:Nat,e=P.length+A.length:=⟨_,rfl⟩
 obtain⟨t,an⟩:∃t:Nat,t=P.length+A.length+B.length:=⟨_,rfl⟩
 rw[← ar]at ap;rw[← an]at am;subst a5 ap am;obtain⟨bf,bg,av,aw⟩:=@wM P.length t (by omega) (by omega);rw[← show d=(P.length+t) / 2 by rw[aq,an]]at av aw;have bj:IntKind.wrap .i64 ((d:Int)+(e:Int))=((d+e:Nat):Int):=by rw[cN (by omega) (by omega)];omega
 have bk:IntKind.wrap .i64 (((d+e:Nat):Int) - 1)=((d+(P.length+A.length) - 1:Nat):Int):=by rw[cN (by omega) (by omega)];omega
 simp only[sA,W,aU,cY,bf,vv,bg,vw,show ¬(1:Int)<0 by omega,aL,av,vu,aw,bj,cZ];refine Wp.join (P:=λh=>h.1 = .aS∧h.2.2=g∧∃L K:Nat,h.2.1=[.int .i64 (L:Int),.int .i64 (K:Int)]∧((P.length+A.length>d∧L+B.length=d∧K=d)∨(P.length+A.length≤d∧L=P.length∧K=P.length+A.length))) ?_ ?_ ?_
 ·intro H;have H:d<e:=by
   have:(e:Int)>(d:Int):=by simpa using H
   omega
  have bl:IntKind.wrap .i64 (((d+e:Nat):Int) - (t:Int))=((d - B.length:Nat):Int):=by rw[cN (by omega) (by omega)];omega
  simp only[eH,bl,W];exact .some ⟨rfl,rfl,d - B.length,d,rfl,.inl ⟨by omega,by omega,rfl⟩⟩
 ·intro H;have H:¬d<e:=by
   have:¬(e:Int)>(d:Int):=by simpa using H
   omega
  exact .some ⟨rfl,rfl,P.length,e,rfl,.inr ⟨by omega,rfl,ar⟩⟩
 rintro⟨X,T,aa⟩ ⟨rfl,v,L,K,rfl,a8⟩;simp only at v;subst v;simp only[cL,eH,bk,W,bD,bY,aU];refine LU al ao a3 a4 R cmp c a6 d L K aq a8 _ rfl _ _ _ λu bn bo bp r j f q ay az bq em a1 a2=>?_
 subst ay az;simp only[dL]at *;have bm:IntKind.wrap .i64 (((d+e:Nat):Int) - (u:Int))=((e+f.length:Nat):Int):=by rw[cN (by omega) (by omega)];omega
 simp only[dV,cL,W,bD,bY,aU,eH,bm,cI,yC];rw[jT]at w z;refine Wp.bind (P:=λh=>h.1 = .aS∧h.2.2[o]?=some (.row bB 2 ((P++r++f++j++q++Q).map aN))∧bW o aa h.2.2) ?_ ?_
 ·by_cases F:0<j.length
  ·have i:decide ((u:Int)<(e:Int))=true:=hh (by omega);by_cases G:0<f.length
   ·have k:decide ((e:Int)<((e+f.length:Nat):Int))=true:=hh (by omega);simp only[i,k,uM,aK,aJ];refine Wo (P:=P++r) (U:=j) (V:=f) (Q:=q++Q) al (by simp only[dL];omega) F G (by rw[R];simp[-Xm]) cmp _ _ _ (by simp only[dL];omega) (by simp only[dL];omega) (by simp only[dL];omega) λaj I M=>?_
    exact .some ⟨rfl,by simp only[I];simp[-Xm],M⟩
   ·have l:f=[]:=fQ (by omega);subst l;have k:decide ((e:Int)<((e+([]:List (aD × aD)).length:Nat):Int))=false:=gR (by simp);simp only[i,k,uL,aK,aP,aL];exact .some ⟨rfl,by simp only[R];simp[-Xm],.refl _ _⟩
  ·have l:j=[]:=fQ (by omega);subst l;have i:decide ((u:Int)<(e:Int))=false:=gR (by simp only[eJ]at *;omega);simp only[i,lS,aK,aP,aL];exact .some ⟨rfl,by simp only[R];simp[-Xm],.refl _ _⟩
 rintro⟨X,T,aj⟩ ⟨rfl,I,M⟩;simp only[cL,W,aU,cI,yC];refine Wp.bind (P:=λh=>h.1 = .aS∧∃s:List (aD × aD),s.Perm (r++f)∧s.Pairwise S∧h.2.2[o]?=some (.row bB 2 ((P++s++(j++q++Q)).map aN))∧bW o aa h.2.2) ?_ ?_
 ·by_cases F:0<r.length
  ·have i:decide (((P.length:Nat):Int)<(u:Int))=true:=hh (by omega);by_cases G:0<f.length
   ·have k:decide ((u:Int)<(d:Int))=true:=hh (by omega);simp only[i,k,uM,aK,aJ];refine Wp.bind (au aj P r f (j++q++Q) _ _ _ (by omega) (by simp only[dL];omega) F G w.1 z.1 (λx ac y ad=>ab x (by simp[-Xm,ac]) y (by simp[-Xm,ad])) (by rw[I];simp[-Xm]) rfl (by omega) (by omega)) ?_;rintro⟨ax,ak⟩ ⟨C,af,v,ag,ah⟩;exact .some ⟨rfl,C,af,v,ag,M.trans ah⟩
   ·have l:f=[]:=fQ (by omega);subst l;have k:decide ((u:Int)<(d:Int))=false:=gR (by simp only[eJ]at *;omega);simp only[i,k,uL,aK,aP,aL];exact .some ⟨rfl,r,by simp,w.1,by simp only[I];simp[-Xm],M⟩
  ·have l:r=[]:=fQ (by omega);subst l;have i:decide (((P.length:Nat):Int)<(u:Int))=false:=gR (by simp only[eJ]at *;omega);simp only[i,lS,aK,aP,aL];exact .some ⟨rfl,f,by simp,z.1,by simp only[I];simp[-Xm],M⟩
 rintro⟨X,T,ak⟩ ⟨rfl,s,r1,bb,ae,ai⟩;have bt:s.length=r.length+f.length:=by rw[r1.length_eq];simp[-Xm]
 simp only[cL,W,aU,cI,yC];refine Wp.bind (P:=λh=>h.1 = .aS∧∃E:List (aD × aD),E.Perm (j++q)∧E.Pairwise S∧h.2.2[o]?=some (.row bB 2 ((P++(s++E)++Q).map aN))∧bW o aa h.2.2) ?_ ?_
 ·by_cases F:0<j.length
  ·have i:decide ((d:Int)<((e+f.length:Nat):Int))=true:=hh (by omega);by_cases G:0<q.length
   ·have k:decide (((e+f.length:Nat):Int)<(t:Int))=true:=hh (by omega);simp only[i,k,uM,aK,aJ];refine Wp.bind (au ak (P++s) j q Q _ _ _ (by omega) (by simp only[dL];omega) F G w.2.1 z.2.1 (λx ac y ad=>ab x (by simp[-Xm,ac]) y (by simp[-Xm,ad])) (by rw[ae];simp[-Xm]) (by simp only[dL];omega) (by simp only[dL];omega) (by simp only[dL];omega)) ?_;rintro⟨ax,a0⟩ ⟨C,af,v,ag,ah⟩;exact .some ⟨rfl,C,af,v,by rw[ag];simp[-Xm],ai.trans ah⟩
   ·have l:q=[]:=fQ (by omega);subst l;have k:decide (((e+f.length:Nat):Int)<(t:Int))=false:=gR (by simp only[eJ]at *;omega);simp only[i,k,uL,aK,aP,aL];exact .some ⟨rfl,j,by simp,w.2.1,by simp only[ae];simp[-Xm],ai⟩
  ·have l:j=[]:=fQ (by omega);subst l;have i:decide ((d:Int)<((e+f.length:Nat):Int))=false:=gR (by simp only[eJ]at *;omega);simp only[i,lS,aK,aP,aL];exact .some ⟨rfl,q,by simp,z.2.1,by simp only[ae];simp[-Xm],ai⟩
 rintro⟨X,T,a0⟩ ⟨rfl,E,bc,bd,ba,be⟩;simp only[rB,W];obtain⟨bh,bi⟩:=QH a9 (jT.2 w) (jT.2 z) ab a1 a2 r1 bb bc bd;exact .some ⟨s++E,bh,bi,ba,be⟩
theorem CS {c:aD × aD→aD × aD→Int} {S dK:aD × aD→aD × aD→Prop} (i:oC c S dK) {cmp:D} (w:oj cmp c) {o N:Nat} (t:N≤1000000000):∀n,E8 c S dK cmp o N n
 |0=>λg P A B Q a m b X _ s=>by omega
 | n + 1 => λg P A B Q a m b X y aj ak ad j z F u l v=>by
  have an:=CS i w (o:=o) t n;have al:=y;simp only[dL]at al;by_cases T:A.length=1
  ·obtain ⟨x,rfl⟩:=List.length_eq_one_iff.1 T;have := Wl (g:=g) (o:=o) (N:=N) (P:=P) (B:=B) (Q:=Q) (x:=x) t (by simpa using y) (by simpa using F) cmp c w a m b u (by rw[l];rfl) (by rw[v];rfl) (f:=some) (R1:=λq=>∃h:List (aD × aD),h.Perm ([x]++B)∧h.Pairwise S∧q.2[o]?=some (.row bB 2 ((P++h++Q).map aN))∧bW o g q.2)
    (λai R ae k s E H K =>.some ⟨R++x::ae,by rw[k];exact E5,by
     subst k;rw[jT]at j ⊢;refine⟨j.1,jn.2 ⟨?_,j.2.1⟩,?_⟩
     ·rcases E with rfl|⟨e,I,rfl,p⟩
      ·intro r d;cases d
      ·have ab:=i.ge x e (z x (by simp) e (by simp)) p;intro r d;rcases dW.1 d with rfl|d
       ·exact ab
       ·exact i.tr _ _ _ ab ((jn.1 j.2.1).1 r d)
     ·have am:∀C∈R,S C x:=by
        rcases s with rfl|⟨e,I,rfl,p⟩
        ·intro r d;cases d
        ·have ac:=i.lt x e (z x (by simp) e (by simp)) p;intro r d;rcases eI.1 d with d|d
         ·exact i.tr _ _ _ ((jT.1 j.1).2.2 r d e (by simp)) ac
         ·simp at d;subst d;exact ac
      intro C aa ao G;rcases dW.1 G with rfl|G
      ·exact am C aa
      ·exact j.2.2 C aa ao G,by rw[H],K⟩)
   rwa [show ∀x:Option (D × J),x.bind some=x from λx=>by cases x<;>rfl]at this
  ·by_cases af:B.length=1
   ·obtain⟨x,rfl⟩:=List.length_eq_one_iff.1 af;have:=Wm (g:=g) (o:=o) (N:=N) (P:=P) (A:=A) (Q:=Q) (x:=x) t (by simpa using y) T (by simpa using F) cmp c w a m b u (by rw[l]) (by rw[v];rfl) (f:=some) (R1:=λq=>∃h:List (aD × aD),h.Perm (A++[x])∧h.Pairwise S∧q.2[o]?=some (.row bB 2 ((P++h++Q).map aN))∧bW o g q.2)
     (λai L M k s E H K =>.some ⟨L++x::M,by rw[k];exact List.perm_middle.trans (by simpa using(yi (l₁:=[x]) (l₂:=L++M))),IW i (by rw[← k];exact ad) (λe p=>z e (by rw[k];exact p) x (by simp)) E s,by rw[H],K⟩)
    rwa [show ∀x:Option (D × J),x.bind some=x from λx=>by cases x<;>rfl]at this
   ·have I:=Wn i w t an X y aj ak ad j z F u l v;rw[yW];have ap:IntKind.wrap .i64 (m - a)=(A.length:Int):=by rw[l,u,cN (by omega) (by omega)];omega
    have aq:IntKind.wrap .i64 (b - m)=(B.length:Int):=by rw[l,v,cN (by omega) (by omega)];omega
    have ag:decide ((A.length:Int)=1)=false:=gR (by omega);have ah:decide ((B.length:Int)=1)=false:=gR (by omega);simp only[uP,sy,W,eH,ap,aq,fa,ag,ah,aK,aP,aL];exact I
theorem fo.len{a:Type}{S dK:a→a→Prop}{k:Nat}{l:List a}(h:fo S dK k l)(b:l.length<k):l.Pairwise S:=h.all (by omega)
theorem TW{a:Type}{dK:a→a→Prop}{A B:List a}(h:(A++B).Pairwise dK):A.Pairwise dK∧B.Pairwise dK∧∀x∈A,∀y∈B,dK x y:=jT.1 h
theorem Hd{c:aD × aD→aD × aD→Int}{S dK:aD × aD→aD × aD→Prop}(y:oC c S dK){cmp:D}(u:oj cmp c){o N:Nat}(r:N≤1000000000){g:J}{P A Q:List (aD × aD)}(f:(P++A++Q).length=N)(e:A.Pairwise dK)
  (w:g[o]?=some (.row bB 2 ((P++A++Q).map aN))) (a b:Int) (s:a=P.length) (t:b=(P.length+A.length:Nat)) :
  Wp (R qb [.aO 2 o 0 N,.int .i64 a,.int .i64 b,cmp] g) λp=>∃C:List (aD × aD),C.Perm A∧C.Pairwise S∧p.2[o]?=some (.row bB 2 ((P++C++Q).map aN))∧bW o g p.2:=by
 subst s t;have v:=f;simp only[dL]at v;obtain⟨k,q,l,i,j⟩:=UT c cmp u o N P.length (P.length+A.length) r (by omega) (by omega) _ f g w;refine⟨(k,q),l,?_⟩;cases A with
 | nil =>
  refine⟨[],by simp,List.Pairwise.nil,?_,j⟩;rw[i];simp[-Xm,jI]
 | cons d A =>
  obtain⟨C,z,B,E⟩:=Bn y P Q A [d] (by simp) (λH h F x=>by simp at h;subst h;exact(jn.1 e).1 F x) (jn.1 e).2;refine⟨C,B,E,?_,j⟩;rw[i];have m:P.length+(d::A).length - (P.length+1)=A.length:=by simp;omega
  rw[m];have n:P++d::A++Q=P++[d]++A++Q:=by simp
  rw[n];exact gi (λG:List (aD × aD)=>some (Ob.row bB 2 (G.map aN))) z
theorem Wk {c:aD × aD→aD × aD→Int} {S dK:aD × aD→aD × aD→Prop} (ag:oC c S dK) {cmp:D} (ad:oj cmp c) {o N:Nat} (ac:N≤1000000000) {g:J} {l:List (aD × aD)} (I:l.length=N) (bi:l.Pairwise dK)
  (be:g[o]?=some (.row bB 2 (l.map aN))):Wp (R vV [.aO 2 o 0 N,.int .i64 N,cmp] g) λp=>∃C:List (aD × aD),C.Perm l∧C.Pairwise S∧p.2[o]?=some (.row bB 2 (C.map aN))∧bW o g p.2:=by
 rw[Ge];simp only[xJ,W,aU];refine Wp.loop (λs h n=>∃m,∃X a:List (aD × aD),h=[.int .i64 (X.length:Nat),.int .i64 ((X.length+20:Nat):Int),m]∧s=a.length∧(X++a).Perm l∧a.Pairwise dK∧ks S dK 20 X a∧n[o]?=some (.row bB 2 ((X++a).map aN))∧bW o g n)
  (λe=>e.1 = .ext 0∧∃m,∃X a:List (aD × aD),e.2.1=[.int .i64 (X.length:Nat),.int .i64 ((X.length+20:Nat):Int),m]∧a.length<20∧(X++a).Perm l∧a.Pairwise dK∧ks S dK 20 X a∧e.2.2[o]?=some (.row bB 2 ((X++a).map aN))∧bW o g e.2.2)
  l.length ⟨_,[],l,rfl,rfl,by simp,bi,ks.nil,by simpa using be,.refl _ _⟩ ?_ ?_
 ·rintro s h n ⟨m,X,a,rfl,rfl,j,G,H,a0,sm⟩;have r:X.length+a.length=N:=by rw[← I,← j.length_eq];simp[-Xm]
  simp only[xK,bD,bY,W,aU,ig];refine Wp.dS ?_ ?_
  ·intro i;have i:20≤a.length:=by
    have:((X.length+20:Nat):Int)≤(N:Int):=by simpa using i
    omega
   obtain⟨A,y,rfl,bd⟩:∃A y,a=A++y∧A.length=20:=⟨a.take 20,a.drop 20,(jU _ _).symm,by simp;omega⟩
   obtain⟨bq,br,bt⟩:=TW G;simp only[dL]at r i;refine Wp.bind (Hd ag ad ac (P:=X) (A:=A) (Q:=y) (by simp only[dL];omega) bq (by rw[a0];simp[-Xm]) _ _ rfl (by omega)) ?_;rintro⟨am,aq⟩ ⟨C,f,t,k,u⟩;have L:C.length=20:=by rw[f.length_eq,bd]
   have aj:IntKind.wrap .i64 (((X.length+20:Nat):Int)+20)=((X.length+20+20:Nat):Int):=by rw[cN (by omega) (by omega)];omega
   simp only[cY,aj,W];have ao:(X++C).length=X.length+20:=by simp[-Xm,L]
   refine .some (.inl ⟨rfl,y.length,by simp only[dL];omega,_,X++C,y,by rw[ao],rfl,?_,br,H.step f L t bt,k,sm.trans u⟩);refine List.Perm.trans ?_ j;rw[jR];exact(f.append_right y).append_left X
  ·intro i;have i:¬20≤a.length:=by
    have:¬((X.length+20:Nat):Int)≤(N:Int):=by simpa using i
    omega
   exact .some (.inr ⟨by simp,rfl,_,X,a,rfl,by omega,j,G,H,a0,sm⟩)
 rintro⟨ap,h,bv⟩ ⟨rfl,m,X,a,rfl,az,j,G,H,a1,a2⟩;have r:X.length+a.length=N:=by rw[← I,← j.length_eq];simp[-Xm]
 simp only[dV,cL,bD,bY,W];refine Wp.bind (Hd ag ad ac (P:=X) (A:=a) (Q:=[]) (by simp only[dL,eJ];omega) G (by simpa using a1) _ _ rfl (by omega)) ?_;rintro⟨am,aq⟩ ⟨C,f,t,k,u⟩;have z:fo S dK 20 (X++C):=H.done f (by rw[f.length_eq];omega) t;have au:(X++C).Perm l:=(f.append_left X).trans j;have k:aq[o]?=some (.row bB 2 ((X++C).map aN)):=by simpa using k
 have a3:bW o g aq:=a2.trans u;generalize X++C=d at z au k;clear f t H G a1 a2 u;simp only[W,aU];refine Wp.loop (λs h n=>∃T Y Z aa B ab,∃b:Nat,∃d:List (aD × aD),h=[.int .i64 (b:Int),T,Y,Z,aa,B,ab]∧s=N - b∧0<b∧b≤2000000000∧d.Perm l∧fo S dK b d∧n[o]?=some (.row bB 2 (d.map aN))∧bW o g n)
  (λe=>e.1 = .ext 2∧∃T Y Z aa B ab a4,e.2.1=[T,Y,Z,aa,B,ab,a4]∧∃d:List (aD × aD),d.Perm l∧d.Pairwise S∧e.2.2[o]?=some (.row bB 2 (d.map aN))∧bW o g e.2.2)
  (N - 20) ⟨_,_,_,_,_,_,20,d,rfl,rfl,by omega,by omega,au,z,k,a3⟩ ?_ ?_
 ·clear k a3 z au d r j;rintro s h bc ⟨T,Y,Z,aa,B,ab,b,d,rfl,rfl,bx,bz,j,z,ae,ai⟩;have bk:d.length=N:=by rw[j.length_eq,I]
  simp only[xL,bD,bY,W,aU,cI];refine Wp.dS ?_ ?_
  ·intro i;have i:b<N:=by
    have:(b:Int)<(N:Int):=by simpa using i
    omega
   have aj:IntKind.wrap .i64 ((2:Int)*(b:Int))=((2*b:Nat):Int):=by rw[cN (by omega) (by omega)];omega
   simp only[nP,aj,W,aU];refine Wp.loop (λs h n=>∃m,∃X a:List (aD × aD),h=[.int .i64 (X.length:Nat),.int .i64 ((X.length+2*b:Nat):Int),m]∧s=a.length∧(X++a).Perm l∧fo S dK b a∧ks S dK (2*b) X a∧n[o]?=some (.row bB 2 ((X++a).map aN))∧bW o g n)
    (λe=>e.1 = .ext 4∧∃m a5,∃X a:List (aD × aD),e.2.1=[.int .i64 (X.length:Nat),m,a5]∧a.length<2*b∧(X++a).Perm l∧fo S dK b a∧ks S dK (2*b) X a∧e.2.2[o]?=some (.row bB 2 ((X++a).map aN))∧bW o g e.2.2)
    N ⟨B,[],d,by simp,bk.symm,by simpa using j,z,ks.nil,by simpa using ae,ai⟩ ?_ ?_
   ·rintro s h ar ⟨m,X,a,rfl,rfl,w,F,qg,K,M⟩;have r:X.length+a.length=N:=by rw[← I,← w.length_eq];simp[-Xm]
    simp only[DK,bD,bY,W,aU,ig];refine Wp.dS ?_ ?_
    ·intro v;have v:2*b≤a.length:=by
      have:((X.length+2*b:Nat):Int)≤(N:Int):=by simpa using v
      omega
     obtain⟨A,bu,rfl,bj,av,ah,a9⟩:=F.fst (by omega);simp only[dL]at r v;obtain⟨q,E,rfl,b0,aw,bl,ba⟩:=a9.fst (by omega);simp only[dL]at r v;have ax:IntKind.wrap .i64 ((X.length:Int)+(b:Int))=((X.length+A.length:Nat):Int):=by rw[cN (by omega) (by omega)];omega
     simp only[cY,ax,W,aU];refine Wp.bind (CS ag ad ac (A.length+q.length) ar X A q E _ _ _ (aX _) (by simp only[dL];omega) (by omega) (by omega) av aw (λak x al af=>ah ak x al (by simp[-Xm,af])) (by rw[K];simp[-Xm]) rfl rfl (by omega)) ?_;rintro⟨am,ay⟩ ⟨C,f,t,k,u⟩;have L:C.length=2*b:=by rw[f.length_eq,dL];omega
     have bo:IntKind.wrap .i64 (((X.length+2*b:Nat):Int)+((2*b:Nat):Int))=((X.length+2*b+2*b:Nat):Int):=by rw[cN (by omega) (by omega)];omega
     simp only[nP,cY,aj,bo,W];have ao:(X++C).length=X.length+2*b:=by simp[-Xm,L]
     refine .some (.inl ⟨rfl,E.length,by simp only[dL];omega,_,X++C,E,by rw[ao],rfl,?_,ba,ks.step (A:=A++q) (by rw[jR];exact qg) f L t (λak x al af=>?_),k,M.trans u⟩)
     ·refine List.Perm.trans ?_ w;rw[jR,← jR A q E];exact(f.append_right E).append_left X
     ·rcases eI.1 x with x|x
      ·exact ah ak x al (by simp[-Xm,af])
      ·exact bl ak x al af
    ·intro v;have v:¬2*b≤a.length:=by
      have:¬((X.length+2*b:Nat):Int)≤(N:Int):=by simpa using v
      omega
     exact .some (.inr ⟨by simp,rfl,_,_,X,a,rfl,by omega,w,F,qg,K,M⟩)
   rintro⟨ap,h,ar⟩ ⟨rfl,m,a5,X,a,rfl,az,w,F,qg,K,M⟩;have r:X.length+a.length=N:=by rw[← I,← w.length_eq];simp[-Xm]
   have ax:IntKind.wrap .i64 ((X.length:Int)+(b:Int))=((X.length+b:Nat):Int):=by rw[cN (by omega) (by omega)];omega
   have bp:IntKind.wrap .i64 ((b:Int)*2)=((2*b:Nat):Int):=by rw[cN (by omega) (by omega)];omega
   simp only[dV,cL,bD,bY,W,cY,ax,cI,aU];refine Wp.bind (P:=λe=>e.1 = .aS∧∃d:List (aD × aD),d.Perm l∧fo S dK (2*b) d∧e.2.2[o]?=some (.row bB 2 (d.map aN))∧bW o g e.2.2) ?_ ?_
   ·by_cases bw:X.length+b<N
    ·have an:decide (((X.length+b:Nat):Int)<(N:Int))=true:=hh (by omega);obtain⟨A,q,rfl,bj,av,ah,a8⟩:=F.fst (by omega);simp only[dL]at r az;have aw:q.Pairwise S:=a8.all (by omega);simp only[an,aK,aJ];refine Wp.bind (CS ag ad ac (A.length+q.length) ar X A q [] _ _ _ (aX _) (by simp only[dL,eJ];omega) (by omega) (by omega) av aw ah (by rw[K];simp[-Xm]) rfl (by omega) (by omega)) ?_;rintro⟨am,ay⟩ ⟨C,f,t,k,u⟩;refine .some ⟨rfl,X++C,(f.append_left X).trans w,qg.done f (by rw[f.length_eq,dL];omega) t,by simpa using k,M.trans u⟩
    ·have an:decide (((X.length+b:Nat):Int)<(N:Int))=false:=gR (by omega);simp only[an,aK,aP,aL];exact .some ⟨rfl,X++a,w,qg.done (List.Perm.refl _) (by omega) (F.all (by omega)),K,M⟩
   rintro⟨ap,h,ay⟩ ⟨rfl,a6,bh,bb,bf,bm⟩;simp only[cL,W,bp];exact .some (.inl ⟨rfl,N - 2*b,by omega,_,_,_,_,_,_,2*b,a6,rfl,rfl,by omega,by omega,bh,bb,bf,bm⟩)
  ·intro i;have i:¬b<N:=by
    have:¬(b:Int)<(N:Int):=by simpa using i
    omega
   exact .some (.inr ⟨by simp,rfl,_,_,_,_,_,_,_,rfl,d,j,z.all (by omega),ae,ai⟩)
 rintro⟨ap,h,bc⟩ ⟨rfl,T,Y,Z,aa,B,ab,a4,rfl,a7,bg,bn,ae,ai⟩;simp only[dV,rB,W];exact .some ⟨a7,bg,bn,ae,ai⟩
def jv(x y:aD × aD):Prop:=¬cF y x<0
theorem tV(x y:aD × aD):jv x y↔Op.bytesLess y.1 x.1=false:=by
 unfold jv cF;rw[vt];simp[-Xm]
theorem R2{x y z:aD × aD}(h:jv x y)(k:jv y z):jv x z:=by
 rw[tV]at *;cases b:Op.bytesLess z.1 x.1
 ·rfl
 ·by_cases a:y.1=x.1
  ·rw[a,b]at k;cases k
  ·have:=s4 b (s3 h a);rw[this]at k;cases k
theorem HL:oC cF jv (λ_ _=>True) where
 tr:=λc d g=>R2
 lt:=λc d _ a=>by
  unfold jv;intro b;unfold cF at a b;rw[vt]at a b;have:=s4 a b;rw[s0]at this;cases this
 ge:=λc d _ a=>a
theorem HJ{x y:aD × aD}(h:jv x y)(k:jv y x):x.1=y.1:=by
 rw[tV]at h k;apply mA;intro a;have:=s3 k a;rw[this]at h;cases h
theorem uB:∀{C:List (aD × aD)},C.Pairwise jv→(iM C=false↔(C.map Prod.fst).Nodup)
 |[],_=>by simp[-Xm,iM]
 |[x],_=>by simp[-Xm,iM]
 | x::y::r,h=>by
  have k:=uB (C:=y::r) (jn.1 h).2;have i:=(jn.1 h).1;have j:=(jn.1 (jn.1 h).2).1;rw[gO,sK];unfold iM;rw[Bool.or_eq_false_iff,k];constructor
  ·rintro⟨a,b⟩;refine⟨λg=>?_,b⟩;have a:y.1≠x.1:=by simpa using a
   obtain⟨l,c,d⟩:=e8.1 g;rcases dW.1 c with rfl|c
   ·exact a d
   ·have e:jv y x:=by
      have:=j l c;rw[tV]at this ⊢;rw[← d];exact this
    exact a (HJ e (i y (by simp)))
  ·rintro⟨a,b⟩;refine⟨?_,b⟩;have:y.1≠x.1:=λf=>a (by rw[gO,f];simp[-Xm])
   simpa using this
theorem JN:∀{C E:List (aD × aD)},C.Pairwise jv→E.Pairwise jv→C.Perm E→(C.map Prod.fst).Nodup→C=E
 |[],E,_,_,a,_=>by rw[List.nil_perm.1 a]
 |x::C,[],_,_,a,_=>by cases List.perm_nil.1 a
 | x::C,y::E,b,c,a,d=>by
  rw[jn]at b c;rw[gO,sK]at d;have i:x=y:=by
   apply mA;intro e;have g:x∈E:=by
    have:x∈y::E:=a.mem_iff.1 (by simp);rcases dW.1 this with h|h
    ·exact absurd h e
    ·exact h
   have f:y∈C:=by
    have:y∈x::C:=a.mem_iff.2 (by simp);rcases dW.1 this with h|h
    ·exact absurd h.symm e
    ·exact h
   have:=HJ (b.1 y f) (c.1 x g);exact d.1 (by rw[this];exact e8.2 ⟨y,f,rfl⟩)
  subst i;rw[JN b.2 c.2 ((List.perm_cons x).1 a) d.2]
theorem JQ(l:List (aD × aD)):(jB l).Perm l∧(jB l).Pairwise jv:=by
 cases l with
 |nil=>exact⟨by simp[-Xm,jB,jI],by simp[-Xm,jB,jI]⟩
 | cons b a =>
  obtain⟨c,e,f,g⟩:=Bn HL [] [] a [b] (by simp) (λ_ _ _ _=>trivial) (List.Pairwise.imp (λ_=>trivial) (List.pairwise_of_forall (l:=a) (R:=λ_ _=>True) (λ_ _=>trivial)));have d:jB (b::a)=c:=by
   unfold jB;have:(b::a).length - 1=a.length:=by simp
   rw[this];simpa using e
  rw[d];exact⟨by simpa using f,g⟩
theorem JM{C l:List (aD × aD)}(k:C.Perm l)(h:C.Pairwise jv):iM C=iM (jB l)∧(iM C=false→C=jB l):=by
 obtain⟨j,e⟩:=JQ l;have g:C.Perm (jB l):=k.trans j.symm;have f:(C.map Prod.fst).Nodup↔((jB l).map Prod.fst).Nodup:=(g.map Prod.fst).nodup_iff;have a:=uB h;have d:=uB e;refine⟨?_,λi=>JN h e g (a.1 i)⟩;cases b:iM C<;>cases c:iM (jB l)
 ·rfl
 ·have:=d.2 (f.1 (a.1 b));rw[this]at c;cases c
 ·have:=a.2 (f.2 (d.1 c));rw[this]at b;cases b
 ·rfl
theorem Wj{cmp:D}(c:oj cmp cF){o N:Nat}(b:N≤1000000000){g:J}{l:List (aD × aD)}(e:l.length=N)(f:g[o]?=some (.row bB 2 (l.map aN))):
  ∃d g',∃C:List (aD × aD),R tA [.aO 2 o 0 N,cmp] g=some (d,g')∧C.Perm l∧C.Pairwise jv∧g'[o]?=some (.row bB 2 (C.map aN))∧bW o g g':=by
 obtain⟨⟨d,g'⟩,a,C,h,i,j,k⟩:=Wk HL c b e (List.pairwise_of_forall λ_ _=>trivial) f;refine⟨aH [],g',C,?_,h,i,j,k⟩;rw[Gd];simp only[xI,W,HP,a]
theorem UJ(l:List (aD × aD))(d:D)(h:J)(p:aR 2 aN l d):∃d' h',R tw [d] h=some (.bZ [d',.int .i64 (eN l).1],h')∧h.length≤h'.length∧(∀a,a<h.length→h'[a]?=h[a]?)∧((eN l).1=0→j0 h' (eN l).2 d'):=by
 suffices Wp (R tw [d] h) (λs=>∃d',s.1 = .bZ [d',.int .i64 (eN l).1]∧h.length≤s.2.length∧(∀a,a<h.length→s.2[a]?=h[a]?)∧((eN l).1=0→j0 s.2 (eN l).2 d')) by
  obtain⟨⟨b,h'⟩,i,d',rfl,c⟩:=this;exact⟨d',h',i,c⟩
 rw[M8];by_cases m:32<l.length
 ·have t:(32:Int)<(l.length:Int):=by omega
  have f:eN l=(4,[]):=by simp only[eN,m,aJ]
  rw[f];simp only[xF,W,aU,iD p,cZ,t,bK,aK,aJ,jK];exact .some ⟨.aB,rfl,aX _,λ_ _=>rfl,λj=>by cases j⟩
 have t:¬(32:Int)<(l.length:Int):=by omega
 simp only[xF,W,aU,iD p,cZ,t,bG,aK,aP,aL];refine RH l d h p (by omega) _ _ _ _ _ (λr b k u ac=>?_) (λr b k u ac=>?_)
 ·simp only[dV,cL,bD,bY,W];obtain⟨g,i,F,I,w,q⟩:=Wf l d h p (by omega);simp only[F,W];have P:∃b c,∃e:List (aD × aD),R tA [g,.fn (.func qa) [] []] i=some (b,c)∧h.length≤c.length∧(∀a,a<h.length→c[a]?=h[a]?)∧e.Perm l∧e.Pairwise jv∧j0 c e g:=by
   rcases q with⟨rfl,q⟩|⟨B,ad,rfl,K⟩
   ·obtain⟨b,Q⟩:=UO g (.fn (.func qa) [] []) i q;exact⟨b,i,[],Q,I,w,List.Perm.refl _,List.Pairwise.nil,.inl q⟩
   ·obtain⟨b,c,e,T,C,X,aa,E⟩:=Wj (cmp :=.fn (.func qa) [] []) (λb k H=>Lo b k H) (o:=B) (N:=l.length) (by omega) rfl K;refine⟨b,c,e,T,by have:=E.1;omega,λa L=>(E.2 a (by omega)).trans (w a L),C,X,.inr ⟨B,by rw[C.length_eq],aa⟩⟩
  obtain⟨ae,c,e,G,y,x,z,M,A⟩:=P;obtain⟨v,ab⟩:=JM z M;simp only[G,W];refine RJ e g c A (by rw[z.length_eq];omega) _ _ _ _ (λn b k u=>?_) (λn b k u=>?_)
  ·have f:eN l=(0,jB l):=by simp only[eN,m,aL,r,aJ,← v,n,aP]
   rw[f];simp only[dV,cL,W,jK];exact .some ⟨g,rfl,y,x,λ_=>by rw[← ab n];exact A⟩
  ·have f:eN l=(7,[]):=by simp only[eN,m,aL,r,aJ,← v,n]
   rw[f];simp only[mw,mv,l7,bD,bY,W,jK];exact .some ⟨.aB,rfl,y,x,λj=>by cases j⟩
 ·have f:eN l=(6,[]):=by simp only[eN,m,aL,r];rfl
  rw[f];simp only[mw,mv,l7,bD,bY,W,jK];exact .some ⟨.aB,rfl,aX _,λ_ _=>rfl,λj=>by cases j⟩
theorem UE(e:Ev)(h:J):R tt [.agg (bV e)] h=some (.int .i64 (nR e),h):=UD e h λa=>UJ e.fs e.fd a e.gk
theorem Jm(i:It)(h:J):R ts [.agg (aE i)] h=some (.int .i64 (gT i),h):=UC i h (UE i.e h)
structure Rw where
 k:List aD
 kd:D
 hk:aR 1 (λs=>[D.str s]) k kd
 zJ:k.length≤1000000
 n:List Int
 nd:D
 hn:aR 1 inr n nd
 W6:n.length≤1000000
 er:Int
theorem vB{a:Type}{l:List a}{i:Nat}{x:a}(h:l[i]?=some x):l.drop i=x::l.drop (i+1):=by
 obtain⟨c,b⟩:=bO.1 h;rw[ia c,b]
def rwa:Rw:=⟨[],.aB,.aB _ _,by simp,[1],.sl 1 true [[.int .i64 1]],.inr ⟨true,rfl⟩,by simp,0⟩
theorem Jk(e:Ev)(h:J):R vK [.agg (bV e)] h=some (.int .i64 (if fh e=true then 0 else 2),h):=by
 rw[MJ];simp only[Da,jj,W,bV,mW,mX,lF,hF,eB,cI,cZ,ig];by_cases c:e.a0<0
 ·have a:fh e=false:=by
    cases b:fh e
    ·rfl
    ·simp[-Xm,fh]at b;omega
  simp only[c,a,bK,bG,bL,eL,reduceCtorEq,eR,aP,aJ,aL,W,mW,mX,lF,hF,eB,cI,cZ,ig,bI,aK,bR]
 by_cases d:999<e.a0
 ·have a:fh e=false:=by
    cases b:fh e
    ·rfl
    ·simp[-Xm,fh]at b;omega
  simp only[c,d,a,bK,bG,bL,eL,reduceCtorEq,eR,aP,aJ,aL,W,mW,mX,lF,hF,eB,cI,cZ,ig,bI,aK,bR]
 by_cases f:e.a1<0
 ·have a:fh e=false:=by
    cases b:fh e
    ·rfl
    ·simp[-Xm,fh]at b;omega
  simp only[c,d,f,a,bK,bG,bL,eL,reduceCtorEq,eR,aP,aJ,aL,W,mW,mX,lF,hF,eB,cI,cZ,ig,bI,aK,bR]
 by_cases g:2147483646<e.a1
 ·have a:fh e=false:=by
    cases b:fh e
    ·rfl
    ·simp[-Xm,fh]at b;omega
  simp only[c,d,f,g,a,bK,bG,bL,eL,reduceCtorEq,eR,aP,aJ,aL,W,mW,mX,lF,hF,eB,cI,cZ,ig,bI,aK,bR]
 by_cases i:e.a2<0
 ·have a:fh e=false:=by
    cases b:fh e
    ·rfl
    ·simp[-Xm,fh]at b;omega
  simp only[c,d,f,g,i,a,bK,bG,bL,eL,reduceCtorEq,eR,aP,aJ,aL,W,mW,mX,lF,hF,eB,cI,cZ,ig,bI,aK,bR]
 by_cases j:e.a3≤e.a2
 ·have a:fh e=false:=by
    cases b:fh e
    ·rfl
    ·simp[-Xm,fh]at b;omega
  simp only[c,d,f,g,i,j,a,bK,bG,bL,eL,reduceCtorEq,eR,aP,aJ,aL,W,mW,mX,lF,hF,eB,cI,cZ,ig,bI,aK,bR]
 by_cases k:60000<e.a3
 ·have a:fh e=false:=by
    cases b:fh e
    ·rfl
    ·simp[-Xm,fh]at b;omega
  simp only[c,d,f,g,i,j,k,a,bK,bG,bL,eL,reduceCtorEq,eR,aP,aJ,aL,W,mW,mX,lF,hF,eB,cI,cZ,ig,bI,aK,bR]
 have a:fh e=true:=by simp[-Xm,fh];omega
 simp only[c,d,f,g,i,j,k,a,bK,bG,bL,eL,reduceCtorEq,eR,aP,aJ,aL,W,mW,mX,lF,hF,eB,cI,cZ,ig,bI,aK,bR]
theorem Uw(w:Int)(h:J):R ze [.int .i64 w] h=some (.bool (decide (¬(w<1∨Int.tmod 5040 w≠0))),h):=by
 rw[MM];simp only[Dd,W,ju,ig];by_cases b:w<1
 ·have a:¬w≥1:=by omega
  simp only[b,a,bG,bL,reduceCtorEq,aP,aL,W,bI,kH,eA,bR]
 ·have a:w≥1:=by omega
  have e:¬w=0:=by omega
  by_cases d:w≤5040
  ·by_cases c:Int.tmod 5040 w=0
   ·simp only[b,a,d,e,c,bK,bL,aJ,aL,W,bI,ta,ig,fa,dC,eA,nu,fy,bR]
   ·simp only[b,a,d,e,c,bK,bG,bL,aJ,aL,W,bI,ta,ig,fa,dC,fy,nv,eA,bR]
  ·have c:¬Int.tmod 5040 w=0:=by
     rw[Int.tmod_eq_emod_of_nonneg (by omega),Int.emod_eq_of_lt (by omega) (by omega)];omega
   simp only[b,a,d,c,bK,bG,bL,reduceCtorEq,aP,aJ,aL,W,ig,bI,dC,fy,nv,eA,bR]
end Go.Proofs.YtinlnkhheafjaaaGreatDoor

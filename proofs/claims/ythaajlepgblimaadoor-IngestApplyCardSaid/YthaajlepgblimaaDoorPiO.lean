/- What code does to data: statements, ways, rounds, calls. No program is named here. -/
import Derived.Test.YthaajlepgblimaaDoorPiN
import Derived.Test.YthaajlepgblimaaDoorEngE
set_option linter.unusedSimpArgs false
set_option linter.unusedVariables false
set_option linter.unnecessarySimpa false
namespace Go.Pi
open Go.Eng
-- steps that make the checker open what stands on this side first
def hc0 : Unit := ()
def hc1 : Unit := hc0
def hc2 : Unit := hc1
def hc3 : Unit := hc2
def hc4 : Unit := hc3
def hc5 : Unit := hc4
def hc6 : Unit := hc5
def hc7 : Unit := hc6
def hc8 : Unit := hc7
def hc9 : Unit := hc8
def hc10 : Unit := hc9
def hc11 : Unit := hc10
def hc12 : Unit := hc11
def hc13 : Unit := hc12
def hc14 : Unit := hc13
def hc15 : Unit := hc14
def hc16 : Unit := hc15
def hc17 : Unit := hc16
def hc18 : Unit := hc17
def hc19 : Unit := hc18
def hc20 : Unit := hc19
def hc21 : Unit := hc20
def hc22 : Unit := hc21
def hc23 : Unit := hc22
def hc24 : Unit := hc23
def hc25 : Unit := hc24
def hc26 : Unit := hc25
def hc27 : Unit := hc26
def hc28 : Unit := hc27
def hc29 : Unit := hc28
def hc30 : Unit := hc29
def hi30 {α : Sort _} (a : α) : α := (fun _ : Unit => a) hc30
theorem hi_eq {α : Sort _} (a : α) : hi30 a = a := rfl
abbrev CallF := FuncId → List D → Hp → Option (D × Hp)
structure Cx where
 T : Tab
 gl : Nat → Option D
 xt : CallF
def evD (X : Cx) (e : DE) : Operand → Option D
 | .tmp t => lkD e t
 | .const v => some (ofConst v)
 | .global i => X.gl i
 | .func f => some (.fn (.func f) [] [])
def evsD (X : Cx) (e : DE) : List Operand → Option (List D)
 | [] => some []
 | x :: r => match evD X e x with
  | some d => match evsD X e r with
   | some ds => some (d :: ds)
   | none => none
  | none => none
def gd (g : D) (b : Bool) (x : Option D) : Option D := match g with
 | .bool c => match c == b with
  | true => x
  | false => some .und
 | .und => some .und
 | _ => none
def gdW (g : D) (b : Bool) (h : Hp) (x : Option (D × Hp)) : Option (D × Hp) := match g with
 | .bool c => match c == b with
  | true => x
  | false => some (.und, h)
 | .und => some (.und, h)
 | _ => none
def frz (n0 : Nat) (h : Hp) : Nat → D → D
 | 0, d => d
 | n + 1, d => match d with
  | .msl sz o r k => match Nat.ble n0 o with
   | true => match h[o]? with
    | some (.row _ _ rows) => .sl sz false (((rows.drop r).take k).map fun row => row.map (frz n0 h n))
    | _ => .msl sz o r k
   | false => .msl sz o r k
  | .agg cs => .agg (cs.map (frz n0 h n))
  | .tup cs => .tup (cs.map (frz n0 h n))
  | .sl sz f rows => .sl sz f (rows.map fun row => row.map (frz n0 h n))
  | d => d
-- a call that reads live objects as if they were never written again
def snap (h : Hp) : Nat → D → D
 | 0, d => d
 | n + 1, d => match d with
  | .msl sz o r k => match h[o]? with
   | some (.row _ _ rows) => .sl sz false (((rows.drop r).take k).map fun row => row.map (snap h n))
   | _ => .msl sz o r k
  | .agg cs => .agg (cs.map (snap h n))
  | d => d
def D.scal1 : D → Bool
 | .bool _ | .int _ _ | .str _ | .nilp | .nils | .und => true
 | _ => false
def D.scal : D → Bool
 | .tup ds => ds.all D.scal1
 | d => d.scal1
def callB (call : CallF) (f : FuncId) (args : List D) (h : Hp) : Option (D × Hp) := match call f (args.map (snap h 3)) (h.map fun _ => .dead) with
 | some (d, _) => match d.scal with
  | true => some (d, h)
  | false => none
 | none => none
def callZ (call : CallF) (f : FuncId) (args : List D) (h : Hp) : Option (D × Hp) := call f (args.map (frz 0 h 3)) (h.map fun _ => .dead)
def callI (T : Tab) (call : CallF) (m : String) (ds : List D) (h : Hp) : Option (D × Hp) := match ds with
 | .iface t d :: as => match mthOf T t m with
  | some f => call f (d :: as) h
  | none => none
 | _ => none
def calls (md : Nat) (call : CallF) (f : FuncId) (args : List D) (h : Hp) : Option (D × Hp) := match md with
 | 0 => call f args h
 | 1 => callB call f args h
 | _ => callZ call f args h
def callOp (T : Tab) (call : CallF) (md : Nat) (o : Op) (ds : List D) (h : Hp) : Option (D × Hp) := hi30 (match o with
 | .call c => match c.callee with
  | .value _ => match ds with
   | .fn (.func f) first caps :: as => calls md call f (first ++ as ++ caps) h
   | _ => none
  | .invoke _ m => callI T call m ds h
  | _ => none
 | _ => none)
def offFrom (n0 : Nat) (h : Hp) : Hp := h.take n0 ++ (h.drop n0).map fun _ => .dead
def aftW (p : D × Hp) : D × Hp := match p.1 with
 | .msl _ o _ _ => (frz o p.2 3 p.1, offFrom o p.2)
 | _ => p
def aftC (n0 : Nat) (p : D × Hp) : D × Hp := match p.1 with
 | .msl z o r n => (frz n0 p.2 3 (.msl z o r n), offFrom n0 p.2)
 | _ => p
def wrOp (md : Nat) (T : Tab) (h : Hp) (op : Op) (ds : List D) : Option (D × Hp) := match md with
 | 2 => writeOp T (h.map fun _ => .dead) op (ds.map (frz 0 h 3))
 | 3 => (writeOp T h op ds).bind fun p => some (aftW p)
 | n0 + 4 => (writeOp T h op ds).bind fun p => some (aftC n0 p)
 | _ => writeOp T h op ds
def modeOf (o : Option Nat) (l : List Nat) : Nat := match o with
 | some d => match l.any (Nat.beq d) with
  | true => 1
  | false => match l.any (Nat.beq (d + 1000000)) with
   | true => 2
   | false => match l.any (Nat.beq (d + 2000000)) with
    | true => 3
    | false => match l.find? (fun e => Nat.ble 3000000 e && Nat.beq ((e - 3000000) % 10000) d) with
     | some e => (e - 3000000) / 10000 + 4
     | none => 0
 | none => 0
section
variable {R : Type}
def putK (nt : Nat) (dst : Option Nat) (d : D) (e : DE) (h : Hp) (K : DE → Hp → Option R) : Option R := match dst with
 | none => K e h
 | some t => match Nat.blt t nt with
  | true => K ((t, d) :: e) h
  | false => none
def opK (X : Cx) (call : CallF) (nt : Nat) (fz bor : List Nat) (l : List Oper) (o : Oper) (e : DE) (h : Hp) (K : DE → Hp → Option R) : Option R :=
 match evsD X e o.op.operands.toList with
 | none => none
 | some ds => match o.guard with
  | none => match kindOf X.T fz o with
   | .pure => (pureOp X.T o.op ds).bind fun d => putK nt o.dst d e h K
   | .read => (readOp X.T h o.op ds).bind fun d => putK nt o.dst d e h K
   | .write => (wrOp (modeOf o.dst bor) X.T h o.op ds).bind fun p => putK nt o.dst p.1 e p.2 K
   | .call => (callOp X.T call (modeOf o.dst bor) o.op ds h).bind fun p => putK nt o.dst p.1 e p.2 K
   | .limbo => (limOp X.T o.op).bind fun d => putK nt o.dst d e h K
  | some (j, b) => match (l[j]?).bind (·.dst) with
   | none => none
   | some t => match lkD e t with
    | none => none
    | some g => match kindOf X.T fz o with
     | .pure => (gd g b (pureOp X.T o.op ds)).bind fun d => putK nt o.dst d e h K
     | .read => (gd g b (readOp X.T h o.op ds)).bind fun d => putK nt o.dst d e h K
     | .write => (gdW g b h (wrOp (modeOf o.dst bor) X.T h o.op ds)).bind fun p => putK nt o.dst p.1 e p.2 K
     | .call => (gdW g b h (callOp X.T call (modeOf o.dst bor) o.op ds h)).bind fun p => putK nt o.dst p.1 e p.2 K
     | .limbo => none
def fuse (fz : List Nat) (o p : Oper) : Option (Nat × Nat × Operand) := match o.op, o.dst, o.guard, p.op, p.dst, p.guard with
 | .alloc e, some d, none, .store e' (.tmp d') x, none, none => match Nat.beq e e' && Nat.beq d d' && fz.any (Nat.beq d) && (match x with
  | .tmp t => !(Nat.beq t d)
  | _ => true) with
  | true => some (e, d, x)
  | false => none
 | _, _, _, _, _, _ => none
def boxN (sz : Nat) (v : D) : Option D := match v.okv && Nat.beq (cells1 v).length sz with
 | true => some (.fptr (cells1 v))
 | false => none
def seqK (X : Cx) (call : CallF) (nt : Nat) (fz bor : List Nat) (l : List Oper) : List Oper → DE → Hp → (DE → Hp → Option R) → Option R
 | [], e, h, K => K e h
 | [o], e, h, K => opK X call nt fz bor l o e h K
 | o :: p :: r, e, h, K => match fuse fz o p with
  | some (E, d, x) => match evD X e x, X.T E with
   | some v, some i => (boxN i.sz v).bind fun u => putK nt (some d) u e h fun e' h' => seqK X call nt fz bor l r e' h' K
   | _, _ => none
  | none => opK X call nt fz bor l o e h fun e' h' => seqK X call nt fz bor l (p :: r) e' h' K
-- a statement whose order is open
def isW (T : Tab) (fz : List Nat) (o : Oper) : Bool := match kindOf T fz o with
 | .write | .call => true
 | _ => false
def isR (T : Tab) (fz : List Nat) (o : Oper) : Bool := match kindOf T fz o with
 | .read => true
 | _ => false
def isWat (T : Tab) (fz : List Nat) (l : List Oper) (i : Nat) : Bool := match l[i]? with
 | some o => isW T fz o
 | none => false
def seqH (X : Cx) (call : CallF) (nt : Nat) (fz bor : List Nat) (l : List Oper) : List Oper → DE → Hp → List Hp → (DE → Hp → List Hp → Option R) → Option R
 | [], e, h, hs, K => K e h hs
 | o :: r, e, h, hs, K => opK X call nt fz bor l o e h fun e' h' => seqH X call nt fz bor l r e' h' (match isW X.T fz o with
  | true => hs ++ [h']
  | false => hs) K
def bitsOf (l : List Oper) : List Nat := (Region.before l.toArray).toList
def hasBit (bs : List Nat) (i j : Nat) : Bool := (bs.getD i 0).testBit j
def looks (l : List Oper) (o : Oper) : List Nat := (o.op.operands.toList.filterMap fun | .tmp t => some t | _ => none) ++ (match o.guard with
 | some (j, _) => ((l[j]?).bind (·.dst)).toList
 | none => [])
def tailOf (l : List Oper) : Nat := (List.range l.length).foldr (fun k m => match Nat.beq m (k + 1) && (List.range k).all (fun j => memB j (deps l.toArray k)) with
 | true => k
 | false => m) l.length
def idleB (T : Tab) (fz : List Nat) (l : List Oper) (j : Nat) : Bool := match l[j]? with
 | some o => (match kindOf T fz o with
  | .pure => true
  | _ => false) && (match o.guard with
  | none => true
  | some _ => false) && (match o.dst with
  | some _ => true
  | none => false)
 | none => false
def cutOf (T : Tab) (fz : List Nat) (l : List Oper) : Nat := (List.range (tailOf l)).foldr (fun k m => match Nat.beq m (k + 1) && (List.range k).all (fun j => memB j (deps l.toArray k) || idleB T fz l j) with
 | true => k
 | false => m) (tailOf l)
def early (fz : List Nat) (l : List Oper) : Bool := (l.take (tailOf l)).any fun o => match o.op with
 | .store _ (.tmp t) _ => fz.any (Nat.beq (t + 1000000))
 | _ => false
def startOf (T : Tab) (fz : List Nat) (l : List Oper) : Nat := match early fz l with
 | true => cutOf T fz l
 | false => tailOf l
def lateAt (m : Nat) (l : List Oper) (j : Nat) : Bool := (List.range (tailOf l)).any fun k => !(Nat.blt k m) && !(memB j (deps l.toArray k))
def notLook (l : List Oper) (k j : Nat) : Bool := match l[k]?, l[j]? with
 | some o, some p => (match o.dst with
  | some t => !(memB t (looks l p))
  | none => true)
 | _, _ => true
def zfree (m : Nat) (l : List Oper) (j : Nat) : Bool := match l[j]? with
 | some p => (looks l p).all fun t => (List.range m).all fun q => match l[q]? with
  | some p' => (match p'.dst with
   | some d => !(Nat.beq d t) || !(lateAt m l q)
   | none => true)
  | none => true
 | none => true
def nofuse (fz : List Nat) (l : List Oper) (k : Nat) : Bool := match l[k]?, l[k + 1]? with
 | some o, some p => (match fuse fz o p with
  | some _ => false
  | none => true)
 | _, _ => true
def lateOK (T : Tab) (fz : List Nat) (m : Nat) (l : List Oper) : Bool :=
 ((List.range (tailOf l)).all fun k => Nat.blt k m || (List.range k).all fun j => memB j (deps l.toArray k) || (Nat.blt j m && notLook l k j)) &&
 ((List.range m).all fun j => !(lateAt m l j) || (idleB T fz l j && zfree m l j)) &&
 ((List.range (tailOf l)).all fun k => Nat.blt k m || nofuse fz l k)
def drawOK (T : Tab) (fz : List Nat) (nt m : Nat) (l : List Oper) : Bool :=
 let bs := bitsOf l
 let W := (List.range m).filter (isWat T fz l)
 Nat.ble m (tailOf l) && Nat.ble (tailOf l) l.length && regB nt l && tailB (tailOf l) l &&
 ((List.range (tailOf l)).all fun i => match l[i]? with
  | some o => (looks l o).all fun t => (List.range m).all fun j => match l[j]? with
   | some p => (match p.dst with
    | some d => !(Nat.beq d t) || hasBit bs i j
    | none => true)
   | none => true
  | none => true) &&
 (W.all fun j => W.all fun i => !(Nat.blt i j) || hasBit bs j i) &&
 (Nat.beq m (tailOf l) || lateOK T fz m l)
def windows (T : Tab) (fz : List Nat) (m : Nat) (l : List Oper) : List (Nat × Nat) :=
 let bs := bitsOf l
 let W := (List.range m).filter (isWat T fz l)
 (List.range m).flatMap fun i => match l[i]? with
  | some o => match isR T fz o with
   | true =>
    let lo := (W.filter fun w => hasBit bs i w).length
    let hi := (W.filter fun w => !(hasBit bs w i)).length
    let own := (W.filter fun w => Nat.blt w i).length
    ((List.range (hi + 1)).filter fun k => Nat.ble lo k && !(Nat.beq k own)).map fun k => (i, k)
   | false => []
  | none => []
def again (X : Cx) (l : List Oper) (o : Oper) (e : DE) (h : Hp) : Prop := match evsD X e o.op.operands.toList, o.dst with
 | some ds, some t => match o.guard with
  | none => readOp X.T h o.op ds = lkD e t
  | some (j, b) => match (l[j]?).bind (·.dst) with
   | none => False
   | some u => match lkD e u with
    | none => False
    | some g => gd g b (readOp X.T h o.op ds) = lkD e t
 | _, _ => False
open Classical in
noncomputable def chk (p : Prop) (x : Option R) : Option R := if p then x else none
noncomputable def chks (X : Cx) (l : List Oper) (e : DE) (hs : List Hp) : List (Nat × Nat) → Option R → Option R
 | [], x => x
 | (i, k) :: r, x => match l[i]? with
  | some o => chk (again X l o e (hs.getD k [])) (chks X l e hs r x)
  | none => none
def settleK (X : Cx) (fz : List Nat) : List Oper → DE → Hp → (DE → Hp → Option R) → Option R
 | [], e, h, K => K e h
 | o :: r, e, h, K => match kindOf X.T fz o, o.op, o.dst with
  | .limbo, .alloc E, some t => match X.T E with
   | some i => settleK X fz r ((t, .ptr h.length 0 0) :: e) (dNew h E i.sz [i.zero]) K
   | none => none
  | _, _, _ => settleK X fz r e h K
noncomputable def drawK (X : Cx) (call : CallF) (nt : Nat) (fz bor : List Nat) (m : Nat) (l : List Oper) (e : DE) (h : Hp) (K : DE → Hp → Option R) : Option R :=
 match drawOK X.T fz nt m l with
 | false => none
 | true => seqH X call nt fz bor l (l.take m) e h [h] fun e' h' hs => chks X l e' hs (windows X.T fz m l) (settleK X fz (l.take m) e' h' fun e'' h'' => seqK X call nt fz bor l (l.drop m) e'' h'' K)
end
inductive Ex where
 | nrm | ext (id : Nat) | ret
def dstsC : Code → List Nat
 | .region _ ops _ => ops.toList.filterMap (·.dst)
 | .seq a b => dstsC a ++ dstsC b
 | .cond _ a b => dstsC a ++ dstsC b
 | .block _ b => dstsC b
 | .loop b => dstsC b
 | .scope b => dstsC b
 | .rangeFunc _ ps a b => ps.toList ++ dstsC a ++ dstsC b
 | _ => []
def canNrm : Code → Bool
 | .exit _ => false
 | .ret => false
 | .seq a b => canNrm a && canNrm b
 | .cond _ a b => canNrm a || canNrm b
 | .loop _ => false
 | _ => true
def hasExit (id : Nat) : Code → Bool
 | .exit i => Nat.beq i id
 | .seq a b => hasExit id a || hasExit id b
 | .cond _ a b => hasExit id a || hasExit id b
 | .block _ b => hasExit id b
 | .loop b => hasExit id b
 | .scope b => hasExit id b
 | _ => false
def outsC (keep : List Nat) (c : Code) : List Nat := keep.filter fun t => memB t (dstsC c)
def rstE (e : DE) : List Nat → DE
 | [] => []
 | t :: r => match lkD e t with
  | some d => (t, d) :: rstE e r
  | none => rstE e r
def rstC (keep : List Nat) (c : Code) (e : DE) : DE := rstE e (keep.filter fun t => !(memB t (dstsC c)))
def pickE (e : DE) : List Nat → List D
 | [] => []
 | t :: r => (match lkD e t with
  | some d => d
  | none => .any) :: pickE e r
def hdD : List D → D
 | d :: _ => d
 | [] => .any
def tlD : List D → List D
 | _ :: r => r
 | [] => []
def zipE : List Nat → List D → DE → DE
 | [], _, e => e
 | t :: ts, ds, e => (t, hdD ds) :: zipE ts (tlD ds) e
def unblk (id : Nat) : Ex → Ex
 | .ext i => match Nat.beq i id with
  | true => .nrm
  | false => .ext i
 | x => x
abbrev Out := Ex × List D × Hp
abbrev LoopF := (List D → Hp → Option Out) → List D → Hp → Option Out
def dIf {R : Type} (c : D) (a b : Option R) : Option R := match c with
 | .bool true => a
 | .bool false => b
 | _ => none
def toEnd {R : Type} (x : Ex) (n : Option R) (k : Ex → Option R) : Option R := hi30 (match x with
 | .nrm => n
 | x => k x)
def exEnd {R : Type} (x : Ex) (r : Option R) : Option R := hi30 (match x with
 | .ext _ => none
 | _ => r)
structure Ann where
 nt : Nat
 keep : List Nat
 fz : List Nat
 bor : List Nat
noncomputable def cK (X : Cx) (call : CallF) (loop : LoopF) (A : Ann) : Code → DE → Hp → (R : Type) → (Ex → DE → Hp → Option R) → Option R
 | .skip, e, h, R, K => K .nrm e h
 | .label _, e, h, R, K => K .nrm e h
 | .ret, e, h, R, K => K .ret e h
 | .exit i, e, h, R, K => K (.ext i) e h
 | .region _ ops dr, e, h, R, K => match dr with
  | false => seqK X call A.nt A.fz A.bor ops.toList ops.toList e h (K .nrm)
  | true => drawK X call A.nt A.fz A.bor (startOf X.T A.fz ops.toList) ops.toList e h (K .nrm)
 | .seq a b, e, h, R, K => cK X call loop A a e h R fun x e' h' => toEnd x (cK X call loop A b e' h' R K) fun x => K x e' h'
 | .cond c a b, e, h, R, K => match evD X e c with
  | none => none
  | some d => match canNrm a && canNrm b with
   | true => (dIf d (cK X call loop A a e h Out fun x e' h' => some (x, pickE e' (outsC A.keep (.cond c a b)), h')) (cK X call loop A b e h Out fun x e' h' => some (x, pickE e' (outsC A.keep (.cond c a b)), h'))).bind fun r =>
     K r.1 (zipE (outsC A.keep (.cond c a b)) r.2.1 (rstC A.keep (.cond c a b) e)) r.2.2
   | false => dIf d (cK X call loop A a e h R K) (cK X call loop A b e h R K)
 | .block id b, e, h, R, K => match hasExit id b with
  | true => (cK X call loop A b e h Out fun x e' h' => some (unblk id x, pickE e' (outsC A.keep b), h')).bind fun r => K r.1 (zipE (outsC A.keep b) r.2.1 (rstC A.keep b e)) r.2.2
  | false => cK X call loop A b e h R fun x e' h' => K (unblk id x) e' h'
 | .loop b, e, h, R, K => (loop (fun ds h' => cK X call loop A b (zipE (outsC A.keep b) ds (rstC A.keep b e)) h' Out fun x e' h'' => some (x, pickE e' (outsC A.keep b), h'')) (pickE e (outsC A.keep b)) h).bind fun r =>
   K r.1 (zipE (outsC A.keep b) r.2.1 (rstC A.keep b e)) r.2.2
 | _, _, _, _, _ => none
end Go.Pi

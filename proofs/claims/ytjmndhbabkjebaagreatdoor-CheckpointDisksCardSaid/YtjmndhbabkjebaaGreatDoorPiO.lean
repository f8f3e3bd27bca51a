/- What code does to data: statements, ways, rounds, calls. No program is named here. -/
import Derived.Test.YtjmndhbabkjebaaGreatDoorPiN
import Derived.Test.YtjmndhbabkjebaaGreatDoorEngE
set_option linter.unusedSimpArgs false
set_option linter.unusedVariables false
set_option linter.unnecessarySimpa false
namespace Go.Pi
open Go.Eng
-- steps that make the checker open what stands on this side first
def hc0:Unit:=()
def hc1:Unit:=hc0
def hc2:Unit:=hc1
def hc3:Unit:=hc2
def hc4:Unit:=hc3
def hc5:Unit:=hc4
def hc6:Unit:=hc5
def hc7:Unit:=hc6
def hc8:Unit:=hc7
def hc9:Unit:=hc8
def d5S:Unit:=hc9
def d5T:Unit:=d5S
def d5U:Unit:=d5T
def d5V:Unit:=d5U
def d5W:Unit:=d5V
def d5X:Unit:=d5W
def d5Y:Unit:=d5X
def d5Z:Unit:=d5Y
def d6a:Unit:=d5Z
def d6b:Unit:=d6a
def d6c:Unit:=d6b
def d6d:Unit:=d6c
def d6e:Unit:=d6d
def d6f:Unit:=d6e
def d6g:Unit:=d6f
def d6h:Unit:=d6g
def d6i:Unit:=d6h
def d6j:Unit:=d6i
def d6k:Unit:=d6j
def d6l:Unit:=d6k
def d6m:Unit:=d6l
def c8H {α:Sort _} (a:α):α:=(fun _:Unit=>a) d6m
theorem c3c {α:Sort _} (a:α):c8H a=a:=rfl
abbrev a1w:=FuncId→List D→Hp→Option (D × Hp)
structure Cx where
 T:Tab
 gl:Nat→Option D
 xt:a1w
def evD (X:Cx) (e:DE):Operand→Option D
 | .tmp t=>lkD e t
 | .const v=>some (b2J v)
 | .global i=>X.gl i
 | .func f=>some (.fn (.func f) [] [])
def b5A (X:Cx) (e:DE):List Operand→Option (List D)
 | []=>some []
 | x::r=>match evD X e x with
  | some d=>match b5A X e r with
   | some ds=>some (d::ds)
   | none=>none
  | none=>none
def gd (g:D) (b:Bool) (x:Option D):Option D:=match g with
 | .bool c=>match c==b with
  | true=>x
  | false=>some .und
 | .und=>some .und
 | _=>none
def gdW (g:D) (b:Bool) (h:Hp) (x:Option (D × Hp)):Option (D × Hp):=match g with
 | .bool c=>match c==b with
  | true=>x
  | false=>some (.und,h)
 | .und=>some (.und,h)
 | _=>none
def frz (n0:Nat) (h:Hp):Nat→D→D
 | 0,d=>d
 | n+1,d=>match d with
  | .msl sz o r k=>match Nat.ble n0 o with
   | true=>match h[o]? with
    | some (.row _ _ rows) => .sl sz false (((rows.drop r).take k).map fun row=>row.map (frz n0 h n))
    | _ => .msl sz o r k
   | false => .msl sz o r k
  | .agg cs => .agg (cs.map (frz n0 h n))
  | .tup cs => .tup (cs.map (frz n0 h n))
  | .sl sz f rows => .sl sz f (rows.map fun row=>row.map (frz n0 h n))
  | d=>d
-- a call that reads live objects as if they were never written a5Z
def a8t (h:Hp):Nat→D→D
 | 0,d=>d
 | n+1,d=>match d with
  | .msl sz o r k=>match h[o]? with
   | some (.row _ _ rows) => .sl sz false (((rows.drop r).take k).map fun row=>row.map (a8t h n))
   | _ => .msl sz o r k
  | .agg cs => .agg (cs.map (a8t h n))
  | d=>d
def D.scal1:D→Bool
 | .bool _ | .int _ _ | .str _ | .nilp | .nils | .und=>true
 | _=>false
def D.scal:D→Bool
 | .tup ds=>ds.all D.scal1
 | d=>d.scal1
def a4M (call:a1w) (f:FuncId) (args:List D) (h:Hp):Option (D × Hp):=match call f (args.map (a8t h 3)) (h.map fun _ => .dead) with
 | some (d,_)=>match d.scal with
  | true=>some (d,h)
  | false=>none
 | none=>none
def c6w (call:a1w) (f:FuncId) (args:List D) (h:Hp):Option (D × Hp):=call f (args.map (frz 0 h 3)) (h.map fun _ => .dead)
def a3b (T:Tab) (call:a1w) (m:String) (ds:List D) (h:Hp):Option (D × Hp):=match ds with
 | .iface t d::as=>match b8h T t m with
  | some f=>call f (d::as) h
  | none=>none
 | _=>none
def calls (md:Nat) (call:a1w) (f:FuncId) (args:List D) (h:Hp):Option (D × Hp):=match md with
 | 0=>call f args h
 | 1=>a4M call f args h
 | _=>c6w call f args h
def a3V (T:Tab) (call:a1w) (md:Nat) (o:Op) (ds:List D) (h:Hp):Option (D × Hp):=c8H (match o with
 | .call c=>match c.callee with
  | .value _=>match ds with
   | .fn (.func f) first caps::as=>calls md call f (first++as++caps) h
   | _=>none
  | .invoke _ m=>a3b T call m ds h
  | _=>none
 | _=>none)
def a5P (n0:Nat) (h:Hp):Hp:=h.take n0++(h.drop n0).map fun _ => .dead
def d3K (p:D × Hp):D × Hp:=match p.1 with
 | .msl _ o _ _=>(frz o p.2 3 p.1,a5P o p.2)
 | _=>p
def d3J (n0:Nat) (p:D × Hp):D × Hp:=match p.1 with
 | .msl z o r n=>(frz n0 p.2 3 (.msl z o r n),a5P n0 p.2)
 | _=>p
def c4q (md:Nat) (T:Tab) (h:Hp) (op:Op) (ds:List D):Option (D × Hp):=match md with
 | 2=>a5k T (h.map fun _ => .dead) op (ds.map (frz 0 h 3))
 | 3=>(a5k T h op ds).bind fun p=>some (d3K p)
 | n0+4=>(a5k T h op ds).bind fun p=>some (d3J n0 p)
 | _=>a5k T h op ds
def a5G (o:Option Nat) (l:List Nat):Nat:=match o with
 | some d=>match l.any (Nat.beq d) with
  | true=>1
  | false=>match l.any (Nat.beq (d+1000000)) with
   | true=>2
   | false=>match l.any (Nat.beq (d+2000000)) with
    | true=>3
    | false=>match l.find? (fun e=>Nat.ble 3000000 e&&Nat.beq ((e - 3000000) % 10000) d) with
     | some e=>(e - 3000000) / 10000+4
     | none=>0
 | none=>0
section
variable {R:Type}
def a9d (nt:Nat) (dst:Option Nat) (d:D) (e:DE) (h:Hp) (K:DE→Hp→Option R):Option R:=match dst with
 | none=>K e h
 | some t=>match Nat.blt t nt with
  | true=>K ((t,d)::e) h
  | false=>none
def c8M (op:Op) (ds:List D):Option D:=match op,ds with
 | .move _,[d]=>some d
 | .assign _,[d]=>some d
 | _,_=>none
def opK (X:Cx) (call:a1w) (nt:Nat) (fz bor:List Nat) (l:List Oper) (o:Oper) (e:DE) (h:Hp) (K:DE→Hp→Option R):Option R :=
 match b5A X e o.op.operands.toList with
 | none=>none
 | some ds=>match o.guard with
  | none=>match c8M o.op ds with
   | some d=>a9d nt o.dst d e h K
   | none=>match a1C X.T fz o with
    | .pure=>(a4d X.T o.op ds).bind fun d=>a9d nt o.dst d e h K
    | .read=>(a5d X.T h o.op ds).bind fun d=>a9d nt o.dst d e h K
    | .write=>(c4q (a5G o.dst bor) X.T h o.op ds).bind fun p=>a9d nt o.dst p.1 e p.2 K
    | .call=>(a3V X.T call (a5G o.dst bor) o.op ds h).bind fun p=>a9d nt o.dst p.1 e p.2 K
    | .limbo=>(b7R X.T o.op).bind fun d=>a9d nt o.dst d e h K
  | some (j,b)=>match (l[j]?).bind (·.dst) with
   | none=>none
   | some t=>match lkD e t with
    | none=>none
    | some g=>match a1C X.T fz o with
     | .pure=>(gd g b (a4d X.T o.op ds)).bind fun d=>a9d nt o.dst d e h K
     | .read=>(gd g b (a5d X.T h o.op ds)).bind fun d=>a9d nt o.dst d e h K
     | .write=>(gdW g b h (c4q (a5G o.dst bor) X.T h o.op ds)).bind fun p=>a9d nt o.dst p.1 e p.2 K
     | .call=>(gdW g b h (a3V X.T call (a5G o.dst bor) o.op ds h)).bind fun p=>a9d nt o.dst p.1 e p.2 K
     | .limbo=>none
def c4z (fz:List Nat) (o p:Oper):Option (Nat × Nat × Operand):=match o.op,o.dst,o.guard,p.op,p.dst,p.guard with
 | .alloc e,some d,none,.store e' (.tmp d') x,none,none=>match Nat.beq e e'&&Nat.beq d d'&&fz.any (Nat.beq d)&&(match x with
  | .tmp t => !(Nat.beq t d)
  | _=>true) with
  | true=>some (e,d,x)
  | false=>none
 | _,_,_,_,_,_=>none
def a3o (sz:Nat) (v:D):Option D:=match v.okv&&Nat.beq (a0F v).length sz with
 | true=>some (.fptr (a0F v))
 | false=>none
def a8l (X:Cx) (call:a1w) (nt:Nat) (fz bor:List Nat) (l:List Oper):List Oper→DE→Hp→(DE→Hp→Option R)→Option R
 | [],e,h,K=>K e h
 | [o],e,h,K=>opK X call nt fz bor l o e h K
 | o::p::r,e,h,K=>match c4z fz o p with
  | some (E,d,x)=>match evD X e x,X.T E with
   | some v,some i=>(a3o i.sz v).bind fun u=>a9d nt (some d) u e h fun e' h'=>a8l X call nt fz bor l r e' h' K
   | _,_=>none
  | none=>opK X call nt fz bor l o e h fun e' h'=>a8l X call nt fz bor l (p::r) e' h' K
-- a statement whose order is open
def isW (T:Tab) (fz:List Nat) (o:Oper):Bool:=match a1C T fz o with
 | .write | .call=>true
 | _=>false
def isR (T:Tab) (fz:List Nat) (o:Oper):Bool:=match a1C T fz o with
 | .read=>true
 | _=>false
def a1S (T:Tab) (fz:List Nat) (l:List Oper) (i:Nat):Bool:=match l[i]? with
 | some o=>isW T fz o
 | none=>false
def b9u (X:Cx) (call:a1w) (nt:Nat) (fz bor:List Nat) (l:List Oper):List Oper→DE→Hp→List Hp→(DE→Hp→List Hp→Option R)→Option R
 | [],e,h,hs,K=>K e h hs
 | o::r,e,h,hs,K=>opK X call nt fz bor l o e h fun e' h'=>b9u X call nt fz bor l r e' h' (match isW X.T fz o with
  | true=>hs++[h']
  | false=>hs) K
def a3I (l:List Oper):List Nat:=(Region.before l.toArray).toList
def a3B (bs:List Nat) (i j:Nat):Bool:=(bs.getD i 0).testBit j
def looks (l:List Oper) (o:Oper):List Nat:=(o.op.operands.toList.filterMap fun | .tmp t=>some t | _=>none)++(match o.guard with
 | some (j,_)=>((l[j]?).bind (·.dst)).toList
 | none=>[])
def a1I (l:List Oper):Nat:=(List.range l.length).foldr (fun k m=>match Nat.beq m (k+1)&&(List.range k).all (fun j=>b2I j (b0N l.toArray k)) with
 | true=>k
 | false=>m) l.length
def c3d (T:Tab) (fz:List Nat) (l:List Oper) (j:Nat):Bool:=match l[j]? with
 | some o=>(match a1C T fz o with
  | .pure=>true
  | _=>false)&&(match o.guard with
  | none=>true
  | some _=>false)&&(match o.dst with
  | some _=>true
  | none=>false)
 | none=>false
def c9e (T:Tab) (fz:List Nat) (l:List Oper):Nat:=(List.range (a1I l)).foldr (fun k m=>match Nat.beq m (k+1)&&(List.range k).all (fun j=>b2I j (b0N l.toArray k)||c3d T fz l j) with
 | true=>k
 | false=>m) (a1I l)
def d0U (fz:List Nat) (l:List Oper):Bool:=(l.take (a1I l)).any fun o=>match o.op with
 | .store _ (.tmp t) _=>fz.any (Nat.beq (t+1000000))
 | _=>false
def c4c (T:Tab) (fz:List Nat) (l:List Oper):Nat:=match d0U fz l with
 | true=>c9e T fz l
 | false=>a1I l
def a4a (m:Nat) (l:List Oper) (j:Nat):Bool:=(List.range (a1I l)).any fun k => !(Nat.blt k m) && !(b2I j (b0N l.toArray k))
def b8j (l:List Oper) (k j:Nat):Bool:=match l[k]?,l[j]? with
 | some o,some p=>(match o.dst with
  | some t => !(b2I t (looks l p))
  | none=>true)
 | _,_=>true
def c8v (m:Nat) (l:List Oper) (j:Nat):Bool:=match l[j]? with
 | some p=>(looks l p).all fun t=>(List.range m).all fun q=>match l[q]? with
  | some p'=>(match p'.dst with
   | some d => !(Nat.beq d t) || !(a4a m l q)
   | none=>true)
  | none=>true
 | none=>true
def c1K (fz:List Nat) (l:List Oper) (k:Nat):Bool:=match l[k]?,l[k+1]? with
 | some o,some p=>(match c4z fz o p with
  | some _=>false
  | none=>true)
 | _,_=>true
def b1x (T:Tab) (fz:List Nat) (m:Nat) (l:List Oper):Bool :=
 ((List.range (a1I l)).all fun k=>Nat.blt k m||(List.range k).all fun j=>b2I j (b0N l.toArray k)||(Nat.blt j m&&b8j l k j)) &&
 ((List.range m).all fun j => !(a4a m l j)||(c3d T fz l j&&c8v m l j)) &&
 ((List.range (a1I l)).all fun k=>Nat.blt k m||c1K fz l k)
def c1q (T:Tab) (fz:List Nat) (nt m:Nat) (l:List Oper):Bool :=
 let bs:=a3I l
 let W:=(List.range m).filter (a1S T fz l)
 Nat.ble m (a1I l)&&Nat.ble (a1I l) l.length&&c1Q nt l&&c4g (a1I l) l &&
 ((List.range (a1I l)).all fun i=>match l[i]? with
  | some o=>(looks l o).all fun t=>(List.range m).all fun j=>match l[j]? with
   | some p=>(match p.dst with
    | some d => !(Nat.beq d t)||a3B bs i j
    | none=>true)
   | none=>true
  | none=>true) &&
 (W.all fun j=>W.all fun i => !(Nat.blt i j)||a3B bs j i) &&
 (Nat.beq m (a1I l)||b1x T fz m l)
def b0w (T:Tab) (fz:List Nat) (m:Nat) (l:List Oper):List (Nat × Nat) :=
 let bs:=a3I l
 let W:=(List.range m).filter (a1S T fz l)
 (List.range m).flatMap fun i=>match l[i]? with
  | some o=>match isR T fz o with
   | true =>
    let lo:=(W.filter fun w=>a3B bs i w).length
    let hi:=(W.filter fun w => !(a3B bs w i)).length
    let own:=(W.filter fun w=>Nat.blt w i).length
    ((List.range (hi+1)).filter fun k=>Nat.ble lo k && !(Nat.beq k own)).map fun k=>(i,k)
   | false=>[]
  | none=>[]
def a5Z (X:Cx) (l:List Oper) (o:Oper) (e:DE) (h:Hp):Prop:=match b5A X e o.op.operands.toList,o.dst with
 | some ds,some t=>match o.guard with
  | none=>a5d X.T h o.op ds=lkD e t
  | some (j,b)=>match (l[j]?).bind (·.dst) with
   | none=>False
   | some u=>match lkD e u with
    | none=>False
    | some g=>gd g b (a5d X.T h o.op ds)=lkD e t
 | _,_=>False
open Classical in
noncomputable def chk (p:Prop) (x:Option R):Option R:=if p then x else none
noncomputable def b6A (X:Cx) (l:List Oper) (e:DE) (hs:List Hp):List (Nat × Nat)→Option R→Option R
 | [],x=>x
 | (i,k)::r,x=>match l[i]? with
  | some o=>chk (a5Z X l o e (hs.getD k [])) (b6A X l e hs r x)
  | none=>none
def a2X (X:Cx) (fz:List Nat):List Oper→DE→Hp→(DE→Hp→Option R)→Option R
 | [],e,h,K=>K e h
 | o::r,e,h,K=>match a1C X.T fz o,o.op,o.dst with
  | .limbo,.alloc E,some t=>match X.T E with
   | some i=>a2X X fz r ((t,.ptr h.length 0 0)::e) (a0I h E i.sz [i.zero]) K
   | none=>none
  | _,_,_=>a2X X fz r e h K
noncomputable def a8z (X:Cx) (call:a1w) (nt:Nat) (fz bor:List Nat) (m:Nat) (l:List Oper) (e:DE) (h:Hp) (K:DE→Hp→Option R):Option R :=
 match c1q X.T fz nt m l with
 | false=>none
 | true=>b9u X call nt fz bor l (l.take m) e h [h] fun e' h' hs=>b6A X l e' hs (b0w X.T fz m l) (a2X X fz (l.take m) e' h' fun e'' h''=>a8l X call nt fz bor l (l.drop m) e'' h'' K)
end
inductive Ex where
 | nrm | ext (id:Nat) | ret
def a2Z:Code→List Nat
 | .region _ ops _=>ops.toList.filterMap (·.dst)
 | .seq a b=>a2Z a++a2Z b
 | .cond _ a b=>a2Z a++a2Z b
 | .block _ b=>a2Z b
 | .loop b=>a2Z b
 | .scope b=>a2Z b
 | .rangeFunc _ ps a b=>ps.toList++a2Z a++a2Z b
 | _=>[]
def a8M:Code→Bool
 | .exit _=>false
 | .ret=>false
 | .seq a b=>a8M a&&a8M b
 | .cond _ a b=>a8M a||a8M b
 | .loop _=>false
 | _=>true
def a4U (id:Nat):Code→Bool
 | .exit i=>Nat.beq i id
 | .seq a b=>a4U id a||a4U id b
 | .cond _ a b=>a4U id a||a4U id b
 | .block _ b=>a4U id b
 | .loop b=>a4U id b
 | .scope b=>a4U id b
 | _=>false
def a4H (keep:List Nat) (c:Code):List Nat:=keep.filter fun t=>b2I t (a2Z c)
def c1T (e:DE):List Nat→DE
 | []=>[]
 | t::r=>match lkD e t with
  | some d=>(t,d)::c1T e r
  | none=>c1T e r
def c1S (keep:List Nat) (c:Code) (e:DE):DE:=c1T e (keep.filter fun t => !(b2I t (a2Z c)))
def a5y (e:DE):List Nat→List D
 | []=>[]
 | t::r=>(match lkD e t with
  | some d=>d
  | none => .any)::a5y e r
def hdD:List D→D
 | d::_=>d
 | [] => .any
def tlD:List D→List D
 | _::r=>r
 | []=>[]
def b1Y:List Nat→List D→DE→DE
 | [],_,e=>e
 | t::ts,ds,e=>(t,hdD ds)::b1Y ts (tlD ds) e
def a0V (id:Nat):Ex→Ex
 | .ext i=>match Nat.beq i id with
  | true => .nrm
  | false => .ext i
 | x=>x
abbrev Out:=Ex × List D × Hp
abbrev a7F:=(List D→Hp→Option Out)→List D→Hp→Option Out
def dIf {R:Type} (c:D) (a b:Option R):Option R:=match c with
 | .bool true=>a
 | .bool false=>b
 | _=>none
def a0X {R:Type} (x:Ex) (n:Option R) (k:Ex→Option R):Option R:=c8H (match x with
 | .nrm=>n
 | x=>k x)
def a1b {R:Type} (x:Ex) (r:Option R):Option R:=c8H (match x with
 | .ext _=>none
 | _=>r)
structure Ann where
 nt:Nat
 keep:List Nat
 fz:List Nat
 bor:List Nat
noncomputable def cK (X:Cx) (call:a1w) (loop:a7F) (A:Ann):Code→DE→Hp→(R:Type)→(Ex→DE→Hp→Option R)→Option R
 | .skip,e,h,R,K=>K .nrm e h
 | .label _,e,h,R,K=>K .nrm e h
 | .ret,e,h,R,K=>K .ret e h
 | .exit i,e,h,R,K=>K (.ext i) e h
 | .region _ ops dr,e,h,R,K=>match dr with
  | false=>a8l X call A.nt A.fz A.bor ops.toList ops.toList e h (K .nrm)
  | true=>a8z X call A.nt A.fz A.bor (c4c X.T A.fz ops.toList) ops.toList e h (K .nrm)
 | .seq a b,e,h,R,K=>cK X call loop A a e h R fun x e' h'=>a0X x (cK X call loop A b e' h' R K) fun x=>K x e' h'
 | .cond c a b,e,h,R,K=>match evD X e c with
  | none=>none
  | some d=>match a8M a&&a8M b with
   | true=>(dIf d (cK X call loop A a e h Out fun x e' h'=>some (x,a5y e' (a4H A.keep (.cond c a b)),h')) (cK X call loop A b e h Out fun x e' h'=>some (x,a5y e' (a4H A.keep (.cond c a b)),h'))).bind fun r =>
     K r.1 (b1Y (a4H A.keep (.cond c a b)) r.2.1 (c1S A.keep (.cond c a b) e)) r.2.2
   | false=>dIf d (cK X call loop A a e h R K) (cK X call loop A b e h R K)
 | .block id b,e,h,R,K=>match a4U id b with
  | true=>(cK X call loop A b e h Out fun x e' h'=>some (a0V id x,a5y e' (a4H A.keep b),h')).bind fun r=>K r.1 (b1Y (a4H A.keep b) r.2.1 (c1S A.keep b e)) r.2.2
  | false=>cK X call loop A b e h R fun x e' h'=>K (a0V id x) e' h'
 | .loop b,e,h,R,K=>(loop (fun ds h'=>cK X call loop A b (b1Y (a4H A.keep b) ds (c1S A.keep b e)) h' Out fun x e' h''=>some (x,a5y e' (a4H A.keep b),h'')) (a5y e (a4H A.keep b)) h).bind fun r =>
   K r.1 (b1Y (a4H A.keep b) r.2.1 (c1S A.keep b e)) r.2.2
 | _,_,_,_,_=>none
end Go.Pi

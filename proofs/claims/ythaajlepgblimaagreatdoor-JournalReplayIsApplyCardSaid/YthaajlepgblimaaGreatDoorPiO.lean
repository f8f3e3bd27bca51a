/- What code does to data: statements, ways, rounds, calls. No program is named here. -/
import Derived.Test.YthaajlepgblimaaGreatDoorPiN
import Derived.Test.YthaajlepgblimaaGreatDoorEngE
set_option linter.unusedSimpArgs false
set_option linter.unusedVariables false
set_option linter.unnecessarySimpa false
namespace Go.Pi
open Go.Eng
-- steps that make the checker open what stands on this side first
def hc0:Unit:=()
def hc1:Unit:=hc0
def hc2:Unit:=hc1
def hc3:Unit:=hc2
def hc4:Unit:=hc3
def hc5:Unit:=hc4
def hc6:Unit:=hc5
def hc7:Unit:=hc6
def hc8:Unit:=hc7
def hc9:Unit:=hc8
def d8Y:Unit:=hc9
def d8Z:Unit:=d8Y
def d9a:Unit:=d8Z
def d9b:Unit:=d9a
def d9c:Unit:=d9b
def d9d:Unit:=d9c
def d9e:Unit:=d9d
def d9f:Unit:=d9e
def d9g:Unit:=d9f
def d9h:Unit:=d9g
def d9i:Unit:=d9h
def d9j:Unit:=d9i
def d9k:Unit:=d9j
def d9l:Unit:=d9k
def d9m:Unit:=d9l
def d9n:Unit:=d9m
def d9o:Unit:=d9n
def d9p:Unit:=d9o
def d9q:Unit:=d9p
def d9r:Unit:=d9q
def d9s:Unit:=d9r
def d0A {α:Sort _} (a:α):α:=(fun _:Unit=>a) d9s
theorem c4b {α:Sort _} (a:α):d0A a=a:=rfl
abbrev a1y:=FuncId→List D→Hp→Option (D × Hp)
structure Cx where
 T:Tab
 gl:Nat→Option D
 xt:a1y
def evD (X:Cx) (e:DE):Operand→Option D
 | .tmp t=>lkD e t
 | .const v=>some (b2E v)
 | .global i=>X.gl i
 | .func f=>some (.fn (.func f) [] [])
def b5E (X:Cx) (e:DE):List Operand→Option (List D)
 | []=>some []
 | x::r=>match evD X e x with
  | some d=>match b5E X e r with
   | some ds=>some (d::ds)
   | none=>none
  | none=>none
def gd (g:D) (b:Bool) (x:Option D):Option D:=match g with
 | .bool c=>match c==b with
  | true=>x
  | false=>some .und
 | .und=>some .und
 | _=>none
def gdW (g:D) (b:Bool) (h:Hp) (x:Option (D × Hp)):Option (D × Hp):=match g with
 | .bool c=>match c==b with
  | true=>x
  | false=>some (.und,h)
 | .und=>some (.und,h)
 | _=>none
def frz (n0:Nat) (h:Hp):Nat→D→D
 | 0,d=>d
 | n+1,d=>match d with
  | .msl sz o r k=>match Nat.ble n0 o with
   | true=>match h[o]? with
    | some (.row _ _ rows) => .sl sz false (((rows.drop r).take k).map fun row=>row.map (frz n0 h n))
    | _ => .msl sz o r k
   | false => .msl sz o r k
  | .agg cs => .agg (cs.map (frz n0 h n))
  | .tup cs => .tup (cs.map (frz n0 h n))
  | .sl sz f rows => .sl sz f (rows.map fun row=>row.map (frz n0 h n))
  | d=>d
-- a call that reads live objects as if they were never written a5R
def b2L (h:Hp):Nat→D→D
 | 0,d=>d
 | n+1,d=>match d with
  | .msl sz o r k=>match h[o]? with
   | some (.row _ _ rows) => .sl sz false (((rows.drop r).take k).map fun row=>row.map (b2L h n))
   | _ => .msl sz o r k
  | .agg cs => .agg (cs.map (b2L h n))
  | d=>d
def D.scal1:D→Bool
 | .bool _ | .int _ _ | .str _ | .nilp | .nils | .und=>true
 | _=>false
def D.scal:D→Bool
 | .tup ds=>ds.all D.scal1
 | d=>d.scal1
def a5W (call:a1y) (f:FuncId) (args:List D) (h:Hp):Option (D × Hp):=match call f (args.map (b2L h 3)) (h.map fun _ => .dead) with
 | some (d,_)=>match d.scal with
  | true=>some (d,h)
  | false=>none
 | none=>none
def c7J (call:a1y) (f:FuncId) (args:List D) (h:Hp):Option (D × Hp):=call f (args.map (frz 0 h 3)) (h.map fun _ => .dead)
def a2U (T:Tab) (call:a1y) (m:String) (ds:List D) (h:Hp):Option (D × Hp):=match ds with
 | .iface t d::as=>match b8F T t m with
  | some f=>call f (d::as) h
  | none=>none
 | _=>none
def calls (md:Nat) (call:a1y) (f:FuncId) (args:List D) (h:Hp):Option (D × Hp):=match md with
 | 0=>call f args h
 | 1=>a5W call f args h
 | _=>c7J call f args h
def a3I (T:Tab) (call:a1y) (md:Nat) (o:Op) (ds:List D) (h:Hp):Option (D × Hp):=d0A (match o with
 | .call c=>match c.callee with
  | .value _=>match ds with
   | .fn (.func f) first caps::as=>calls md call f (first++as++caps) h
   | _=>none
  | .invoke _ m=>a2U T call m ds h
  | _=>none
 | _=>none)
def a5C (n0:Nat) (h:Hp):Hp:=h.take n0++(h.drop n0).map fun _ => .dead
def d7d (p:D × Hp):D × Hp:=match p.1 with
 | .msl _ o _ _=>(frz o p.2 3 p.1,a5C o p.2)
 | _=>p
def d7c (n0:Nat) (p:D × Hp):D × Hp:=match p.1 with
 | .msl z o r n=>(frz n0 p.2 3 (.msl z o r n),a5C n0 p.2)
 | _=>p
def c5q (md:Nat) (T:Tab) (h:Hp) (op:Op) (ds:List D):Option (D × Hp):=match md with
 | 2=>a4O T (h.map fun _ => .dead) op (ds.map (frz 0 h 3))
 | 3=>(a4O T h op ds).bind fun p=>some (d7d p)
 | n0+4=>(a4O T h op ds).bind fun p=>some (d7c n0 p)
 | _=>a4O T h op ds
def a5l (o:Option Nat) (l:List Nat):Nat:=match o with
 | some d=>match l.any (Nat.beq d) with
  | true=>1
  | false=>match l.any (Nat.beq (d+1000000)) with
   | true=>2
   | false=>match l.any (Nat.beq (d+2000000)) with
    | true=>3
    | false=>match l.find? (fun e=>Nat.ble 3000000 e&&Nat.beq ((e - 3000000) % 10000) d) with
     | some e=>(e - 3000000) / 10000+4
     | none=>0
 | none=>0
section
variable {R:Type}
def a8U (nt:Nat) (dst:Option Nat) (d:D) (e:DE) (h:Hp) (K:DE→Hp→Option R):Option R:=match dst with
 | none=>K e h
 | some t=>match Nat.blt t nt with
  | true=>K ((t,d)::e) h
  | false=>none
def d0C (op:Op) (ds:List D):Option D:=match op,ds with
 | .move _,[d]=>some d
 | .assign _,[d]=>some d
 | _,_=>none
def opK (X:Cx) (call:a1y) (nt:Nat) (fz bor:List Nat) (l:List Oper) (o:Oper) (e:DE) (h:Hp) (K:DE→Hp→Option R):Option R :=
 match b5E X e o.op.operands.toList with
 | none=>none
 | some ds=>match o.guard with
  | none=>match d0C o.op ds with
   | some d=>a8U nt o.dst d e h K
   | none=>match a1q X.T fz o with
    | .pure=>(a3T X.T o.op ds).bind fun d=>a8U nt o.dst d e h K
    | .read=>(a4J X.T h o.op ds).bind fun d=>a8U nt o.dst d e h K
    | .write=>(c5q (a5l o.dst bor) X.T h o.op ds).bind fun p=>a8U nt o.dst p.1 e p.2 K
    | .call=>(a3I X.T call (a5l o.dst bor) o.op ds h).bind fun p=>a8U nt o.dst p.1 e p.2 K
    | .limbo=>(b8r X.T o.op).bind fun d=>a8U nt o.dst d e h K
  | some (j,b)=>match (l[j]?).bind (·.dst) with
   | none=>none
   | some t=>match lkD e t with
    | none=>none
    | some g=>match a1q X.T fz o with
     | .pure=>(gd g b (a3T X.T o.op ds)).bind fun d=>a8U nt o.dst d e h K
     | .read=>(gd g b (a4J X.T h o.op ds)).bind fun d=>a8U nt o.dst d e h K
     | .write=>(gdW g b h (c5q (a5l o.dst bor) X.T h o.op ds)).bind fun p=>a8U nt o.dst p.1 e p.2 K
     | .call=>(gdW g b h (a3I X.T call (a5l o.dst bor) o.op ds h)).bind fun p=>a8U nt o.dst p.1 e p.2 K
     | .limbo=>none
def c5y (fz:List Nat) (o p:Oper):Option (Nat × Nat × Operand):=match o.op,o.dst,o.guard,p.op,p.dst,p.guard with
 | .alloc e,some d,none,.store e' (.tmp d') x,none,none=>match Nat.beq e e'&&Nat.beq d d'&&fz.any (Nat.beq d)&&(match x with
  | .tmp t => !(Nat.beq t d)
  | _=>true) with
  | true=>some (e,d,x)
  | false=>none
 | _,_,_,_,_,_=>none
def a5U (sz:Nat) (v:D):Option D:=match v.okv&&Nat.beq (a0B v).length sz with
 | true=>some (.fptr (a0B v))
 | false=>none
def a8e (X:Cx) (call:a1y) (nt:Nat) (fz bor:List Nat) (l:List Oper):List Oper→DE→Hp→(DE→Hp→Option R)→Option R
 | [],e,h,K=>K e h
 | [o],e,h,K=>opK X call nt fz bor l o e h K
 | o::p::r,e,h,K=>match c5y fz o p with
  | some (E,d,x)=>match evD X e x,X.T E with
   | some v,some i=>(a5U i.sz v).bind fun u=>a8U nt (some d) u e h fun e' h'=>a8e X call nt fz bor l r e' h' K
   | _,_=>none
  | none=>opK X call nt fz bor l o e h fun e' h'=>a8e X call nt fz bor l (p::r) e' h' K
-- a statement whose order is open
def isW (T:Tab) (fz:List Nat) (o:Oper):Bool:=match a1q T fz o with
 | .write | .call=>true
 | _=>false
def isR (T:Tab) (fz:List Nat) (o:Oper):Bool:=match a1q T fz o with
 | .read=>true
 | _=>false
def a1I (T:Tab) (fz:List Nat) (l:List Oper) (i:Nat):Bool:=match l[i]? with
 | some o=>isW T fz o
 | none=>false
def b9U (X:Cx) (call:a1y) (nt:Nat) (fz bor:List Nat) (l:List Oper):List Oper→DE→Hp→List Hp→(DE→Hp→List Hp→Option R)→Option R
 | [],e,h,hs,K=>K e h hs
 | o::r,e,h,hs,K=>opK X call nt fz bor l o e h fun e' h'=>b9U X call nt fz bor l r e' h' (match isW X.T fz o with
  | true=>hs++[h']
  | false=>hs) K
def a3x (l:List Oper):List Nat:=(Region.before l.toArray).toList
def a3r (bs:List Nat) (i j:Nat):Bool:=(bs.getD i 0).testBit j
def looks (l:List Oper) (o:Oper):List Nat:=(o.op.operands.toList.filterMap fun | .tmp t=>some t | _=>none)++(match o.guard with
 | some (j,_)=>((l[j]?).bind (·.dst)).toList
 | none=>[])
def a1t (l:List Oper):Nat:=(List.range l.length).foldr (fun k m=>match Nat.beq m (k+1)&&(List.range k).all (fun j=>b2D j (b0S l.toArray k)) with
 | true=>k
 | false=>m) l.length
def c4c (T:Tab) (fz:List Nat) (l:List Oper) (j:Nat):Bool:=match l[j]? with
 | some o=>(match a1q T fz o with
  | .pure=>true
  | _=>false)&&(match o.guard with
  | none=>true
  | some _=>false)&&(match o.dst with
  | some _=>true
  | none=>false)
 | none=>false
def d0T (T:Tab) (fz:List Nat) (l:List Oper):Nat:=(List.range (a1t l)).foldr (fun k m=>match Nat.beq m (k+1)&&(List.range k).all (fun j=>b2D j (b0S l.toArray k)||c4c T fz l j) with
 | true=>k
 | false=>m) (a1t l)
def d2O (fz:List Nat) (l:List Oper):Bool:=(l.take (a1t l)).any fun o=>match o.op with
 | .store _ (.tmp t) _=>fz.any (Nat.beq (t+1000000))
 | _=>false
def c5a (T:Tab) (fz:List Nat) (l:List Oper):Nat:=match d2O fz l with
 | true=>d0T T fz l
 | false=>a1t l
def a3O (m:Nat) (l:List Oper) (j:Nat):Bool:=(List.range (a1t l)).any fun k => !(Nat.blt k m) && !(b2D j (b0S l.toArray k))
def b8L (l:List Oper) (k j:Nat):Bool:=match l[k]?,l[j]? with
 | some o,some p=>(match o.dst with
  | some t => !(b2D t (looks l p))
  | none=>true)
 | _,_=>true
def d0h (m:Nat) (l:List Oper) (j:Nat):Bool:=match l[j]? with
 | some p=>(looks l p).all fun t=>(List.range m).all fun q=>match l[q]? with
  | some p'=>(match p'.dst with
   | some d => !(Nat.beq d t) || !(a3O m l q)
   | none=>true)
  | none=>true
 | none=>true
def c2I (fz:List Nat) (l:List Oper) (k:Nat):Bool:=match l[k]?,l[k+1]? with
 | some o,some p=>(match c5y fz o p with
  | some _=>false
  | none=>true)
 | _,_=>true
def b1x (T:Tab) (fz:List Nat) (m:Nat) (l:List Oper):Bool :=
 ((List.range (a1t l)).all fun k=>Nat.blt k m||(List.range k).all fun j=>b2D j (b0S l.toArray k)||(Nat.blt j m&&b8L l k j)) &&
 ((List.range m).all fun j => !(a3O m l j)||(c4c T fz l j&&d0h m l j)) &&
 ((List.range (a1t l)).all fun k=>Nat.blt k m||c2I fz l k)
def c2h (T:Tab) (fz:List Nat) (nt m:Nat) (l:List Oper):Bool :=
 let bs:=a3x l
 let W:=(List.range m).filter (a1I T fz l)
 Nat.ble m (a1t l)&&Nat.ble (a1t l) l.length&&c2Q nt l&&c5e (a1t l) l &&
 ((List.range (a1t l)).all fun i=>match l[i]? with
  | some o=>(looks l o).all fun t=>(List.range m).all fun j=>match l[j]? with
   | some p=>(match p.dst with
    | some d => !(Nat.beq d t)||a3r bs i j
    | none=>true)
   | none=>true
  | none=>true) &&
 (W.all fun j=>W.all fun i => !(Nat.blt i j)||a3r bs j i) &&
 (Nat.beq m (a1t l)||b1x T fz m l)
def b0v (T:Tab) (fz:List Nat) (m:Nat) (l:List Oper):List (Nat × Nat) :=
 let bs:=a3x l
 let W:=(List.range m).filter (a1I T fz l)
 (List.range m).flatMap fun i=>match l[i]? with
  | some o=>match isR T fz o with
   | true =>
    let lo:=(W.filter fun w=>a3r bs i w).length
    let hi:=(W.filter fun w => !(a3r bs w i)).length
    let own:=(W.filter fun w=>Nat.blt w i).length
    ((List.range (hi+1)).filter fun k=>Nat.ble lo k && !(Nat.beq k own)).map fun k=>(i,k)
   | false=>[]
  | none=>[]
def a5R (X:Cx) (l:List Oper) (o:Oper) (e:DE) (h:Hp):Prop:=match b5E X e o.op.operands.toList,o.dst with
 | some ds,some t=>match o.guard with
  | none=>a4J X.T h o.op ds=lkD e t
  | some (j,b)=>match (l[j]?).bind (·.dst) with
   | none=>False
   | some u=>match lkD e u with
    | none=>False
    | some g=>gd g b (a4J X.T h o.op ds)=lkD e t
 | _,_=>False
open Classical in
noncomputable def chk (p:Prop) (x:Option R):Option R:=if p then x else none
noncomputable def b6z (X:Cx) (l:List Oper) (e:DE) (hs:List Hp):List (Nat × Nat)→Option R→Option R
 | [],x=>x
 | (i,k)::r,x=>match l[i]? with
  | some o=>chk (a5R X l o e (hs.getD k [])) (b6z X l e hs r x)
  | none=>none
def a2N (X:Cx) (fz:List Nat):List Oper→DE→Hp→(DE→Hp→Option R)→Option R
 | [],e,h,K=>K e h
 | o::r,e,h,K=>match a1q X.T fz o,o.op,o.dst with
  | .limbo,.alloc E,some t=>match X.T E with
   | some i=>a2N X fz r ((t,.ptr h.length 0 0)::e) (a0C h E i.sz [i.zero]) K
   | none=>none
  | _,_,_=>a2N X fz r e h K
noncomputable def a8s (X:Cx) (call:a1y) (nt:Nat) (fz bor:List Nat) (m:Nat) (l:List Oper) (e:DE) (h:Hp) (K:DE→Hp→Option R):Option R :=
 match c2h X.T fz nt m l with
 | false=>none
 | true=>b9U X call nt fz bor l (l.take m) e h [h] fun e' h' hs=>b6z X l e' hs (b0v X.T fz m l) (a2N X fz (l.take m) e' h' fun e'' h''=>a8e X call nt fz bor l (l.drop m) e'' h'' K)
end
inductive Ex where
 | nrm | ext (id:Nat) | ret
def a2R:Code→List Nat
 | .region _ ops _=>ops.toList.filterMap (·.dst)
 | .seq a b=>a2R a++a2R b
 | .cond _ a b=>a2R a++a2R b
 | .block _ b=>a2R b
 | .loop b=>a2R b
 | .scope b=>a2R b
 | .rangeFunc _ ps a b=>ps.toList++a2R a++a2R b
 | _=>[]
def a8z:Code→Bool
 | .exit _=>false
 | .ret=>false
 | .seq a b=>a8z a&&a8z b
 | .cond _ a b=>a8z a||a8z b
 | .loop _=>false
 | _=>true
def a4C (id:Nat):Code→Bool
 | .exit i=>Nat.beq i id
 | .seq a b=>a4C id a||a4C id b
 | .cond _ a b=>a4C id a||a4C id b
 | .block _ b=>a4C id b
 | .loop b=>a4C id b
 | .scope b=>a4C id b
 | _=>false
def a4r (keep:List Nat) (c:Code):List Nat:=keep.filter fun t=>b2D t (a2R c)
def c2T (e:DE):List Nat→DE
 | []=>[]
 | t::r=>match lkD e t with
  | some d=>(t,d)::c2T e r
  | none=>c2T e r
def c2S (keep:List Nat) (c:Code) (e:DE):DE:=c2T e (keep.filter fun t => !(b2D t (a2R c)))
def a5d (e:DE):List Nat→List D
 | []=>[]
 | t::r=>(match lkD e t with
  | some d=>d
  | none => .any)::a5d e r
def hdD:List D→D
 | d::_=>d
 | [] => .any
def tlD:List D→List D
 | _::r=>r
 | []=>[]
def b1Q:List Nat→List D→DE→DE
 | [],_,e=>e
 | t::ts,ds,e=>(t,hdD ds)::b1Q ts (tlD ds) e
def a0G (id:Nat):Ex→Ex
 | .ext i=>match Nat.beq i id with
  | true => .nrm
  | false => .ext i
 | x=>x
abbrev Out:=Ex × List D × Hp
abbrev a7A:=(List D→Hp→Option Out)→List D→Hp→Option Out
def dIf {R:Type} (c:D) (a b:Option R):Option R:=match c with
 | .bool true=>a
 | .bool false=>b
 | _=>none
def a0K {R:Type} (x:Ex) (n:Option R) (k:Ex→Option R):Option R:=d0A (match x with
 | .nrm=>n
 | x=>k x)
def a1c {R:Type} (x:Ex) (r:Option R):Option R:=d0A (match x with
 | .ext _=>none
 | _=>r)
structure Ann where
 nt:Nat
 keep:List Nat
 fz:List Nat
 bor:List Nat
noncomputable def cK (X:Cx) (call:a1y) (loop:a7A) (A:Ann):Code→DE→Hp→(R:Type)→(Ex→DE→Hp→Option R)→Option R
 | .skip,e,h,R,K=>K .nrm e h
 | .label _,e,h,R,K=>K .nrm e h
 | .ret,e,h,R,K=>K .ret e h
 | .exit i,e,h,R,K=>K (.ext i) e h
 | .region _ ops dr,e,h,R,K=>match dr with
  | false=>a8e X call A.nt A.fz A.bor ops.toList ops.toList e h (K .nrm)
  | true=>a8s X call A.nt A.fz A.bor (c5a X.T A.fz ops.toList) ops.toList e h (K .nrm)
 | .seq a b,e,h,R,K=>cK X call loop A a e h R fun x e' h'=>a0K x (cK X call loop A b e' h' R K) fun x=>K x e' h'
 | .cond c a b,e,h,R,K=>match evD X e c with
  | none=>none
  | some d=>match a8z a&&a8z b with
   | true=>(dIf d (cK X call loop A a e h Out fun x e' h'=>some (x,a5d e' (a4r A.keep (.cond c a b)),h')) (cK X call loop A b e h Out fun x e' h'=>some (x,a5d e' (a4r A.keep (.cond c a b)),h'))).bind fun r =>
     K r.1 (b1Q (a4r A.keep (.cond c a b)) r.2.1 (c2S A.keep (.cond c a b) e)) r.2.2
   | false=>dIf d (cK X call loop A a e h R K) (cK X call loop A b e h R K)
 | .block id b,e,h,R,K=>match a4C id b with
  | true=>(cK X call loop A b e h Out fun x e' h'=>some (a0G id x,a5d e' (a4r A.keep b),h')).bind fun r=>K r.1 (b1Q (a4r A.keep b) r.2.1 (c2S A.keep b e)) r.2.2
  | false=>cK X call loop A b e h R fun x e' h'=>K (a0G id x) e' h'
 | .loop b,e,h,R,K=>(loop (fun ds h'=>cK X call loop A b (b1Q (a4r A.keep b) ds (c2S A.keep b e)) h' Out fun x e' h''=>some (x,a5d e' (a4r A.keep b),h'')) (a5d e (a4r A.keep b)) h).bind fun r =>
   K r.1 (b1Q (a4r A.keep b) r.2.1 (c2S A.keep b e)) r.2.2
 | _,_,_,_,_=>none
end Go.Pi

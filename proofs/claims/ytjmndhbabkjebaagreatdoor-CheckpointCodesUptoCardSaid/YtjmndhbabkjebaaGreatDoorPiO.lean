/- What code does to data: statements, ways, rounds, calls. No program is named here. -/
import Derived.Test.YtjmndhbabkjebaaGreatDoorPiN
import Derived.Test.YtjmndhbabkjebaaGreatDoorEngE
set_option linter.unusedSimpArgs false
set_option linter.unusedVariables false
set_option linter.unnecessarySimpa false
namespace Go.Pi
open Go.Eng
-- steps that make the checker open what stands on this side first
def hc0:Unit:=()
def hc1:Unit:=hc0
def hc2:Unit:=hc1
def hc3:Unit:=hc2
def hc4:Unit:=hc3
def hc5:Unit:=hc4
def hc6:Unit:=hc5
def hc7:Unit:=hc6
def hc8:Unit:=hc7
def hc9:Unit:=hc8
def d5X:Unit:=hc9
def d5Y:Unit:=d5X
def d5Z:Unit:=d5Y
def d6a:Unit:=d5Z
def d6b:Unit:=d6a
def d6c:Unit:=d6b
def d6d:Unit:=d6c
def d6e:Unit:=d6d
def d6f:Unit:=d6e
def d6g:Unit:=d6f
def d6h:Unit:=d6g
def d6i:Unit:=d6h
def d6j:Unit:=d6i
def d6k:Unit:=d6j
def d6l:Unit:=d6k
def d6m:Unit:=d6l
def d6n:Unit:=d6m
def d6o:Unit:=d6n
def d6p:Unit:=d6o
def d6q:Unit:=d6p
def d6r:Unit:=d6q
def c8K {α:Sort _} (a:α):α:=(fun _:Unit=>a) d6r
theorem c3i {α:Sort _} (a:α):c8K a=a:=rfl
abbrev a1A:=FuncId→List D→Hp→Option (D × Hp)
structure Cx where
 T:Tab
 gl:Nat→Option D
 xt:a1A
def evD (X:Cx) (e:DE):Operand→Option D
 | .tmp t=>lkD e t
 | .const v=>some (b2J v)
 | .global i=>X.gl i
 | .func f=>some (.fn (.func f) [] [])
def b5A (X:Cx) (e:DE):List Operand→Option (List D)
 | []=>some []
 | x::r=>match evD X e x with
  | some d=>match b5A X e r with
   | some ds=>some (d::ds)
   | none=>none
  | none=>none
def gd (g:D) (b:Bool) (x:Option D):Option D:=match g with
 | .bool c=>match c==b with
  | true=>x
  | false=>some .und
 | .und=>some .und
 | _=>none
def gdW (g:D) (b:Bool) (h:Hp) (x:Option (D × Hp)):Option (D × Hp):=match g with
 | .bool c=>match c==b with
  | true=>x
  | false=>some (.und,h)
 | .und=>some (.und,h)
 | _=>none
def frz (n0:Nat) (h:Hp):Nat→D→D
 | 0,d=>d
 | n+1,d=>match d with
  | .msl sz o r k=>match Nat.ble n0 o with
   | true=>match h[o]? with
    | some (.row _ _ rows) => .sl sz false (((rows.drop r).take k).map fun row=>row.map (frz n0 h n))
    | _ => .msl sz o r k
   | false => .msl sz o r k
  | .agg cs => .agg (cs.map (frz n0 h n))
  | .tup cs => .tup (cs.map (frz n0 h n))
  | .sl sz f rows => .sl sz f (rows.map fun row=>row.map (frz n0 h n))
  | d=>d
-- a call that reads live objects as if they were never written a6d
def a8B (h:Hp):Nat→D→D
 | 0,d=>d
 | n+1,d=>match d with
  | .msl sz o r k=>match h[o]? with
   | some (.row _ _ rows) => .sl sz false (((rows.drop r).take k).map fun row=>row.map (a8B h n))
   | _ => .msl sz o r k
  | .agg cs => .agg (cs.map (a8B h n))
  | d=>d
def D.scal1:D→Bool
 | .bool _ | .int _ _ | .str _ | .nilp | .nils | .und=>true
 | _=>false
def D.scal:D→Bool
 | .tup ds=>ds.all D.scal1
 | d=>d.scal1
def a4O (call:a1A) (f:FuncId) (args:List D) (h:Hp):Option (D × Hp):=match call f (args.map (a8B h 3)) (h.map fun _ => .dead) with
 | some (d,_)=>match d.scal with
  | true=>some (d,h)
  | false=>none
 | none=>none
def c6z (call:a1A) (f:FuncId) (args:List D) (h:Hp):Option (D × Hp):=call f (args.map (frz 0 h 3)) (h.map fun _ => .dead)
def a3e (T:Tab) (call:a1A) (m:String) (ds:List D) (h:Hp):Option (D × Hp):=match ds with
 | .iface t d::as=>match b8k T t m with
  | some f=>call f (d::as) h
  | none=>none
 | _=>none
def calls (md:Nat) (call:a1A) (f:FuncId) (args:List D) (h:Hp):Option (D × Hp):=match md with
 | 0=>call f args h
 | 1=>a4O call f args h
 | _=>c6z call f args h
def a3W (T:Tab) (call:a1A) (md:Nat) (o:Op) (ds:List D) (h:Hp):Option (D × Hp):=c8K (match o with
 | .call c=>match c.callee with
  | .value _=>match ds with
   | .fn (.func f) first caps::as=>calls md call f (first++as++caps) h
   | _=>none
  | .invoke _ m=>a3e T call m ds h
  | _=>none
 | _=>none)
def a5T (n0:Nat) (h:Hp):Hp:=h.take n0++(h.drop n0).map fun _ => .dead
def d3L (p:D × Hp):D × Hp:=match p.1 with
 | .msl _ o _ _=>(frz o p.2 3 p.1,a5T o p.2)
 | _=>p
def d3K (n0:Nat) (p:D × Hp):D × Hp:=match p.1 with
 | .msl z o r n=>(frz n0 p.2 3 (.msl z o r n),a5T n0 p.2)
 | _=>p
def c4B (md:Nat) (T:Tab) (h:Hp) (op:Op) (ds:List D):Option (D × Hp):=match md with
 | 2=>a5j T (h.map fun _ => .dead) op (ds.map (frz 0 h 3))
 | 3=>(a5j T h op ds).bind fun p=>some (d3L p)
 | n0+4=>(a5j T h op ds).bind fun p=>some (d3K n0 p)
 | _=>a5j T h op ds
def a5H (o:Option Nat) (l:List Nat):Nat:=match o with
 | some d=>match l.any (Nat.beq d) with
  | true=>1
  | false=>match l.any (Nat.beq (d+1000000)) with
   | true=>2
   | false=>match l.any (Nat.beq (d+2000000)) with
    | true=>3
    | false=>match l.find? (fun e=>Nat.ble 3000000 e&&Nat.beq ((e - 3000000) % 10000) d) with
     | some e=>(e - 3000000) / 10000+4
     | none=>0
 | none=>0
section
variable {R:Type}
def a9k (nt:Nat) (dst:Option Nat) (d:D) (e:DE) (h:Hp) (K:DE→Hp→Option R):Option R:=match dst with
 | none=>K e h
 | some t=>match Nat.blt t nt with
  | true=>K ((t,d)::e) h
  | false=>none
def c8Q (op:Op) (ds:List D):Option D:=match op,ds with
 | .move _,[d]=>some d
 | .assign _,[d]=>some d
 | _,_=>none
def opK (X:Cx) (call:a1A) (nt:Nat) (fz bor:List Nat) (l:List Oper) (o:Oper) (e:DE) (h:Hp) (K:DE→Hp→Option R):Option R :=
 match b5A X e o.op.operands.toList with
 | none=>none
 | some ds=>match o.guard with
  | none=>match c8Q o.op ds with
   | some d=>a9k nt o.dst d e h K
   | none=>match a1F X.T fz o with
    | .pure=>(a4f X.T o.op ds).bind fun d=>a9k nt o.dst d e h K
    | .read=>(a5c X.T h o.op ds).bind fun d=>a9k nt o.dst d e h K
    | .write=>(c4B (a5H o.dst bor) X.T h o.op ds).bind fun p=>a9k nt o.dst p.1 e p.2 K
    | .call=>(a3W X.T call (a5H o.dst bor) o.op ds h).bind fun p=>a9k nt o.dst p.1 e p.2 K
    | .limbo=>(b7V X.T o.op).bind fun d=>a9k nt o.dst d e h K
  | some (j,b)=>match (l[j]?).bind (·.dst) with
   | none=>none
   | some t=>match lkD e t with
    | none=>none
    | some g=>match a1F X.T fz o with
     | .pure=>(gd g b (a4f X.T o.op ds)).bind fun d=>a9k nt o.dst d e h K
     | .read=>(gd g b (a5c X.T h o.op ds)).bind fun d=>a9k nt o.dst d e h K
     | .write=>(gdW g b h (c4B (a5H o.dst bor) X.T h o.op ds)).bind fun p=>a9k nt o.dst p.1 e p.2 K
     | .call=>(gdW g b h (a3W X.T call (a5H o.dst bor) o.op ds h)).bind fun p=>a9k nt o.dst p.1 e p.2 K
     | .limbo=>none
def c4K (fz:List Nat) (o p:Oper):Option (Nat × Nat × Operand):=match o.op,o.dst,o.guard,p.op,p.dst,p.guard with
 | .alloc e,some d,none,.store e' (.tmp d') x,none,none=>match Nat.beq e e'&&Nat.beq d d'&&fz.any (Nat.beq d)&&(match x with
  | .tmp t => !(Nat.beq t d)
  | _=>true) with
  | true=>some (e,d,x)
  | false=>none
 | _,_,_,_,_,_=>none
def a3s (sz:Nat) (v:D):Option D:=match v.okv&&Nat.beq (a0B v).length sz with
 | true=>some (.fptr (a0B v))
 | false=>none
def a8r (X:Cx) (call:a1A) (nt:Nat) (fz bor:List Nat) (l:List Oper):List Oper→DE→Hp→(DE→Hp→Option R)→Option R
 | [],e,h,K=>K e h
 | [o],e,h,K=>opK X call nt fz bor l o e h K
 | o::p::r,e,h,K=>match c4K fz o p with
  | some (E,d,x)=>match evD X e x,X.T E with
   | some v,some i=>(a3s i.sz v).bind fun u=>a9k nt (some d) u e h fun e' h'=>a8r X call nt fz bor l r e' h' K
   | _,_=>none
  | none=>opK X call nt fz bor l o e h fun e' h'=>a8r X call nt fz bor l (p::r) e' h' K
-- a statement whose order is open
def isW (T:Tab) (fz:List Nat) (o:Oper):Bool:=match a1F T fz o with
 | .write | .call=>true
 | _=>false
def isR (T:Tab) (fz:List Nat) (o:Oper):Bool:=match a1F T fz o with
 | .read=>true
 | _=>false
def a1U (T:Tab) (fz:List Nat) (l:List Oper) (i:Nat):Bool:=match l[i]? with
 | some o=>isW T fz o
 | none=>false
def b9o (X:Cx) (call:a1A) (nt:Nat) (fz bor:List Nat) (l:List Oper):List Oper→DE→Hp→List Hp→(DE→Hp→List Hp→Option R)→Option R
 | [],e,h,hs,K=>K e h hs
 | o::r,e,h,hs,K=>opK X call nt fz bor l o e h fun e' h'=>b9o X call nt fz bor l r e' h' (match isW X.T fz o with
  | true=>hs++[h']
  | false=>hs) K
def a3N (l:List Oper):List Nat:=(Region.before l.toArray).toList
def a3I (bs:List Nat) (i j:Nat):Bool:=(bs.getD i 0).testBit j
def looks (l:List Oper) (o:Oper):List Nat:=(o.op.operands.toList.filterMap fun | .tmp t=>some t | _=>none)++(match o.guard with
 | some (j,_)=>((l[j]?).bind (·.dst)).toList
 | none=>[])
def a1J (l:List Oper):Nat:=(List.range l.length).foldr (fun k m=>match Nat.beq m (k+1)&&(List.range k).all (fun j=>b2I j (b0X l.toArray k)) with
 | true=>k
 | false=>m) l.length
def c3j (T:Tab) (fz:List Nat) (l:List Oper) (j:Nat):Bool:=match l[j]? with
 | some o=>(match a1F T fz o with
  | .pure=>true
  | _=>false)&&(match o.guard with
  | none=>true
  | some _=>false)&&(match o.dst with
  | some _=>true
  | none=>false)
 | none=>false
def c9s (T:Tab) (fz:List Nat) (l:List Oper):Nat:=(List.range (a1J l)).foldr (fun k m=>match Nat.beq m (k+1)&&(List.range k).all (fun j=>b2I j (b0X l.toArray k)||c3j T fz l j) with
 | true=>k
 | false=>m) (a1J l)
def d1d (fz:List Nat) (l:List Oper):Bool:=(l.take (a1J l)).any fun o=>match o.op with
 | .store _ (.tmp t) _=>fz.any (Nat.beq (t+1000000))
 | _=>false
def c4o (T:Tab) (fz:List Nat) (l:List Oper):Nat:=match d1d fz l with
 | true=>c9s T fz l
 | false=>a1J l
def a4c (m:Nat) (l:List Oper) (j:Nat):Bool:=(List.range (a1J l)).any fun k => !(Nat.blt k m) && !(b2I j (b0X l.toArray k))
def b8m (l:List Oper) (k j:Nat):Bool:=match l[k]?,l[j]? with
 | some o,some p=>(match o.dst with
  | some t => !(b2I t (looks l p))
  | none=>true)
 | _,_=>true
def c8z (m:Nat) (l:List Oper) (j:Nat):Bool:=match l[j]? with
 | some p=>(looks l p).all fun t=>(List.range m).all fun q=>match l[q]? with
  | some p'=>(match p'.dst with
   | some d => !(Nat.beq d t) || !(a4c m l q)
   | none=>true)
  | none=>true
 | none=>true
def c1Q (fz:List Nat) (l:List Oper) (k:Nat):Bool:=match l[k]?,l[k+1]? with
 | some o,some p=>(match c4K fz o p with
  | some _=>false
  | none=>true)
 | _,_=>true
def b1A (T:Tab) (fz:List Nat) (m:Nat) (l:List Oper):Bool :=
 ((List.range (a1J l)).all fun k=>Nat.blt k m||(List.range k).all fun j=>b2I j (b0X l.toArray k)||(Nat.blt j m&&b8m l k j)) &&
 ((List.range m).all fun j => !(a4c m l j)||(c3j T fz l j&&c8z m l j)) &&
 ((List.range (a1J l)).all fun k=>Nat.blt k m||c1Q fz l k)
def c1w (T:Tab) (fz:List Nat) (nt m:Nat) (l:List Oper):Bool :=
 let bs:=a3N l
 let W:=(List.range m).filter (a1U T fz l)
 Nat.ble m (a1J l)&&Nat.ble (a1J l) l.length&&c1X nt l&&c4s (a1J l) l &&
 ((List.range (a1J l)).all fun i=>match l[i]? with
  | some o=>(looks l o).all fun t=>(List.range m).all fun j=>match l[j]? with
   | some p=>(match p.dst with
    | some d => !(Nat.beq d t)||a3I bs i j
    | none=>true)
   | none=>true
  | none=>true) &&
 (W.all fun j=>W.all fun i => !(Nat.blt i j)||a3I bs j i) &&
 (Nat.beq m (a1J l)||b1A T fz m l)
def b0F (T:Tab) (fz:List Nat) (m:Nat) (l:List Oper):List (Nat × Nat) :=
 let bs:=a3N l
 let W:=(List.range m).filter (a1U T fz l)
 (List.range m).flatMap fun i=>match l[i]? with
  | some o=>match isR T fz o with
   | true =>
    let lo:=(W.filter fun w=>a3I bs i w).length
    let hi:=(W.filter fun w => !(a3I bs w i)).length
    let own:=(W.filter fun w=>Nat.blt w i).length
    ((List.range (hi+1)).filter fun k=>Nat.ble lo k && !(Nat.beq k own)).map fun k=>(i,k)
   | false=>[]
  | none=>[]
def a6d (X:Cx) (l:List Oper) (o:Oper) (e:DE) (h:Hp):Prop:=match b5A X e o.op.operands.toList,o.dst with
 | some ds,some t=>match o.guard with
  | none=>a5c X.T h o.op ds=lkD e t
  | some (j,b)=>match (l[j]?).bind (·.dst) with
   | none=>False
   | some u=>match lkD e u with
    | none=>False
    | some g=>gd g b (a5c X.T h o.op ds)=lkD e t
 | _,_=>False
open Classical in
noncomputable def chk (p:Prop) (x:Option R):Option R:=if p then x else none
noncomputable def b6G (X:Cx) (l:List Oper) (e:DE) (hs:List Hp):List (Nat × Nat)→Option R→Option R
 | [],x=>x
 | (i,k)::r,x=>match l[i]? with
  | some o=>chk (a6d X l o e (hs.getD k [])) (b6G X l e hs r x)
  | none=>none
def a2Y (X:Cx) (fz:List Nat):List Oper→DE→Hp→(DE→Hp→Option R)→Option R
 | [],e,h,K=>K e h
 | o::r,e,h,K=>match a1F X.T fz o,o.op,o.dst with
  | .limbo,.alloc E,some t=>match X.T E with
   | some i=>a2Y X fz r ((t,.ptr h.length 0 0)::e) (a0H h E i.sz [i.zero]) K
   | none=>none
  | _,_,_=>a2Y X fz r e h K
noncomputable def a8H (X:Cx) (call:a1A) (nt:Nat) (fz bor:List Nat) (m:Nat) (l:List Oper) (e:DE) (h:Hp) (K:DE→Hp→Option R):Option R :=
 match c1w X.T fz nt m l with
 | false=>none
 | true=>b9o X call nt fz bor l (l.take m) e h [h] fun e' h' hs=>b6G X l e' hs (b0F X.T fz m l) (a2Y X fz (l.take m) e' h' fun e'' h''=>a8r X call nt fz bor l (l.drop m) e'' h'' K)
end
inductive Ex where
 | nrm | ext (id:Nat) | ret
def a3c:Code→List Nat
 | .region _ ops _=>ops.toList.filterMap (·.dst)
 | .seq a b=>a3c a++a3c b
 | .cond _ a b=>a3c a++a3c b
 | .block _ b=>a3c b
 | .loop b=>a3c b
 | .scope b=>a3c b
 | .rangeFunc _ ps a b=>ps.toList++a3c a++a3c b
 | _=>[]
def a8S:Code→Bool
 | .exit _=>false
 | .ret=>false
 | .seq a b=>a8S a&&a8S b
 | .cond _ a b=>a8S a||a8S b
 | .loop _=>false
 | _=>true
def a4U (id:Nat):Code→Bool
 | .exit i=>Nat.beq i id
 | .seq a b=>a4U id a||a4U id b
 | .cond _ a b=>a4U id a||a4U id b
 | .block _ b=>a4U id b
 | .loop b=>a4U id b
 | .scope b=>a4U id b
 | _=>false
def a4L (keep:List Nat) (c:Code):List Nat:=keep.filter fun t=>b2I t (a3c c)
def c2a (e:DE):List Nat→DE
 | []=>[]
 | t::r=>match lkD e t with
  | some d=>(t,d)::c2a e r
  | none=>c2a e r
def c1Z (keep:List Nat) (c:Code) (e:DE):DE:=c2a e (keep.filter fun t => !(b2I t (a3c c)))
def a5A (e:DE):List Nat→List D
 | []=>[]
 | t::r=>(match lkD e t with
  | some d=>d
  | none => .any)::a5A e r
def hdD:List D→D
 | d::_=>d
 | [] => .any
def tlD:List D→List D
 | _::r=>r
 | []=>[]
def b2c:List Nat→List D→DE→DE
 | [],_,e=>e
 | t::ts,ds,e=>(t,hdD ds)::b2c ts (tlD ds) e
def a0T (id:Nat):Ex→Ex
 | .ext i=>match Nat.beq i id with
  | true => .nrm
  | false => .ext i
 | x=>x
abbrev Out:=Ex × List D × Hp
abbrev a7I:=(List D→Hp→Option Out)→List D→Hp→Option Out
def dIf {R:Type} (c:D) (a b:Option R):Option R:=match c with
 | .bool true=>a
 | .bool false=>b
 | _=>none
def a0Y {R:Type} (x:Ex) (n:Option R) (k:Ex→Option R):Option R:=c8K (match x with
 | .nrm=>n
 | x=>k x)
def a0Z {R:Type} (x:Ex) (r:Option R):Option R:=c8K (match x with
 | .ext _=>none
 | _=>r)
structure Ann where
 nt:Nat
 keep:List Nat
 fz:List Nat
 bor:List Nat
noncomputable def cK (X:Cx) (call:a1A) (loop:a7I) (A:Ann):Code→DE→Hp→(R:Type)→(Ex→DE→Hp→Option R)→Option R
 | .skip,e,h,R,K=>K .nrm e h
 | .label _,e,h,R,K=>K .nrm e h
 | .ret,e,h,R,K=>K .ret e h
 | .exit i,e,h,R,K=>K (.ext i) e h
 | .region _ ops dr,e,h,R,K=>match dr with
  | false=>a8r X call A.nt A.fz A.bor ops.toList ops.toList e h (K .nrm)
  | true=>a8H X call A.nt A.fz A.bor (c4o X.T A.fz ops.toList) ops.toList e h (K .nrm)
 | .seq a b,e,h,R,K=>cK X call loop A a e h R fun x e' h'=>a0Y x (cK X call loop A b e' h' R K) fun x=>K x e' h'
 | .cond c a b,e,h,R,K=>match evD X e c with
  | none=>none
  | some d=>match a8S a&&a8S b with
   | true=>(dIf d (cK X call loop A a e h Out fun x e' h'=>some (x,a5A e' (a4L A.keep (.cond c a b)),h')) (cK X call loop A b e h Out fun x e' h'=>some (x,a5A e' (a4L A.keep (.cond c a b)),h'))).bind fun r =>
     K r.1 (b2c (a4L A.keep (.cond c a b)) r.2.1 (c1Z A.keep (.cond c a b) e)) r.2.2
   | false=>dIf d (cK X call loop A a e h R K) (cK X call loop A b e h R K)
 | .block id b,e,h,R,K=>match a4U id b with
  | true=>(cK X call loop A b e h Out fun x e' h'=>some (a0T id x,a5A e' (a4L A.keep b),h')).bind fun r=>K r.1 (b2c (a4L A.keep b) r.2.1 (c1Z A.keep b e)) r.2.2
  | false=>cK X call loop A b e h R fun x e' h'=>K (a0T id x) e' h'
 | .loop b,e,h,R,K=>(loop (fun ds h'=>cK X call loop A b (b2c (a4L A.keep b) ds (c1Z A.keep b e)) h' Out fun x e' h''=>some (x,a5A e' (a4L A.keep b),h'')) (a5A e (a4L A.keep b)) h).bind fun r =>
   K r.1 (b2c (a4L A.keep b) r.2.1 (c1Z A.keep b e)) r.2.2
 | _,_,_,_,_=>none
end Go.Pi

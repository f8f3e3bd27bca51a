/- What code does to data: statements, ways, rounds, calls. No program is named here. -/
import Derived.Test.YtjmndhbabkjebaaDoorPiN
import Derived.Test.YtjmndhbabkjebaaDoorEngE
set_option linter.unusedSimpArgs false
set_option linter.unusedVariables false
set_option linter.unnecessarySimpa false
namespace Go.Pi
open Go.Eng
-- steps that make the checker open what stands on this side first
def hc0:Unit:=()
def hc1:Unit:=hc0
def hc2:Unit:=hc1
def hc3:Unit:=hc2
def hc4:Unit:=hc3
def hc5:Unit:=hc4
def hc6:Unit:=hc5
def hc7:Unit:=hc6
def hc8:Unit:=hc7
def hc9:Unit:=hc8
def c9A:Unit:=hc9
def c9B:Unit:=c9A
def c9C:Unit:=c9B
def c9D:Unit:=c9C
def c9E:Unit:=c9D
def c9F:Unit:=c9E
def c9G:Unit:=c9F
def c9H:Unit:=c9G
def c9I:Unit:=c9H
def c9J:Unit:=c9I
def c9K:Unit:=c9J
def c9L:Unit:=c9K
def c9M:Unit:=c9L
def c9N:Unit:=c9M
def c9O:Unit:=c9N
def c9P:Unit:=c9O
def c9Q:Unit:=c9P
def c9R:Unit:=c9Q
def c9S:Unit:=c9R
def c9T:Unit:=c9S
def c9U:Unit:=c9T
def c4w {α:Sort _} (a:α):α:=(fun _:Unit=>a) c9U
theorem b9S {α:Sort _} (a:α):c4w a=a:=rfl
abbrev a0W:=FuncId→List D→Hp→Option (D × Hp)
structure Cx where
 T:Tab
 gl:Nat→Option D
 xt:a0W
def evD (X:Cx) (e:DE):Operand→Option D
 | .tmp t=>lkD e t
 | .const v=>some (b0z v)
 | .global i=>X.gl i
 | .func f=>some (.fn (.func f) [] [])
def b2F (X:Cx) (e:DE):List Operand→Option (List D)
 | []=>some []
 | x::r=>match evD X e x with
  | some d=>match b2F X e r with
   | some ds=>some (d::ds)
   | none=>none
  | none=>none
def gd (g:D) (b:Bool) (x:Option D):Option D:=match g with
 | .bool c=>match c==b with
  | true=>x
  | false=>some .und
 | .und=>some .und
 | _=>none
def gdW (g:D) (b:Bool) (h:Hp) (x:Option (D × Hp)):Option (D × Hp):=match g with
 | .bool c=>match c==b with
  | true=>x
  | false=>some (.und,h)
 | .und=>some (.und,h)
 | _=>none
def frz (n0:Nat) (h:Hp):Nat→D→D
 | 0,d=>d
 | n+1,d=>match d with
  | .msl sz o r k=>match Nat.ble n0 o with
   | true=>match h[o]? with
    | some (.row _ _ rows) => .sl sz false (((rows.drop r).take k).map fun row=>row.map (frz n0 h n))
    | _ => .msl sz o r k
   | false => .msl sz o r k
  | .agg cs => .agg (cs.map (frz n0 h n))
  | .tup cs => .tup (cs.map (frz n0 h n))
  | .sl sz f rows => .sl sz f (rows.map fun row=>row.map (frz n0 h n))
  | d=>d
-- a call that reads live objects as if they were never written a4S
def a7b (h:Hp):Nat→D→D
 | 0,d=>d
 | n+1,d=>match d with
  | .msl sz o r k=>match h[o]? with
   | some (.row _ _ rows) => .sl sz false (((rows.drop r).take k).map fun row=>row.map (a7b h n))
   | _ => .msl sz o r k
  | .agg cs => .agg (cs.map (a7b h n))
  | d=>d
def D.scal1:D→Bool
 | .bool _ | .int _ _ | .str _ | .nilp | .nils | .und=>true
 | _=>false
def D.scal:D→Bool
 | .tup ds=>ds.all D.scal1
 | d=>d.scal1
def a3K (call:a0W) (f:FuncId) (args:List D) (h:Hp):Option (D × Hp):=match call f (args.map (a7b h 3)) (h.map fun _ => .dead) with
 | some (d,_)=>match d.scal with
  | true=>some (d,h)
  | false=>none
 | none=>none
def c2y (call:a0W) (f:FuncId) (args:List D) (h:Hp):Option (D × Hp):=call f (args.map (frz 0 h 3)) (h.map fun _ => .dead)
def a2D (T:Tab) (call:a0W) (m:String) (ds:List D) (h:Hp):Option (D × Hp):=match ds with
 | .iface t d::as=>match b5z T t m with
  | some f=>call f (d::as) h
  | none=>none
 | _=>none
def calls (md:Nat) (call:a0W) (f:FuncId) (args:List D) (h:Hp):Option (D × Hp):=match md with
 | 0=>call f args h
 | 1=>a3K call f args h
 | _=>c2y call f args h
def a3l (T:Tab) (call:a0W) (md:Nat) (o:Op) (ds:List D) (h:Hp):Option (D × Hp):=c4w (match o with
 | .call c=>match c.callee with
  | .value _=>match ds with
   | .fn (.func f) first caps::as=>calls md call f (first++as++caps) h
   | _=>none
  | .invoke _ m=>a2D T call m ds h
  | _=>none
 | _=>none)
def a4H (n0:Nat) (h:Hp):Hp:=h.take n0++(h.drop n0).map fun _ => .dead
def c7L (p:D × Hp):D × Hp:=match p.1 with
 | .msl _ o _ _=>(frz o p.2 3 p.1,a4H o p.2)
 | _=>p
def c7K (n0:Nat) (p:D × Hp):D × Hp:=match p.1 with
 | .msl z o r n=>(frz n0 p.2 3 (.msl z o r n),a4H n0 p.2)
 | _=>p
def c0V (md:Nat) (T:Tab) (h:Hp) (op:Op) (ds:List D):Option (D × Hp):=match md with
 | 2=>a4e T (h.map fun _ => .dead) op (ds.map (frz 0 h 3))
 | 3=>(a4e T h op ds).bind fun p=>some (c7L p)
 | n0+4=>(a4e T h op ds).bind fun p=>some (c7K n0 p)
 | _=>a4e T h op ds
def a4z (o:Option Nat) (l:List Nat):Nat:=match o with
 | some d=>match l.any (Nat.beq d) with
  | true=>1
  | false=>match l.any (Nat.beq (d+1000000)) with
   | true=>2
   | false=>match l.any (Nat.beq (d+2000000)) with
    | true=>3
    | false=>match l.find? (fun e=>Nat.ble 3000000 e&&Nat.beq ((e - 3000000) % 10000) d) with
     | some e=>(e - 3000000) / 10000+4
     | none=>0
 | none=>0
section
variable {R:Type}
def a7x (nt:Nat) (dst:Option Nat) (d:D) (e:DE) (h:Hp) (K:DE→Hp→Option R):Option R:=match dst with
 | none=>K e h
 | some t=>match Nat.blt t nt with
  | true=>K ((t,d)::e) h
  | false=>none
def c4y (op:Op) (ds:List D):Option D:=match op,ds with
 | .move _,[d]=>some d
 | .assign _,[d]=>some d
 | _,_=>none
def opK (X:Cx) (call:a0W) (nt:Nat) (fz bor:List Nat) (l:List Oper) (o:Oper) (e:DE) (h:Hp) (K:DE→Hp→Option R):Option R :=
 match b2F X e o.op.operands.toList with
 | none=>none
 | some ds=>match o.guard with
  | none=>match c4y o.op ds with
   | some d=>a7x nt o.dst d e h K
   | none=>match a0X X.T fz o with
    | .pure=>(a3s X.T o.op ds).bind fun d=>a7x nt o.dst d e h K
    | .read=>(a3W X.T h o.op ds).bind fun d=>a7x nt o.dst d e h K
    | .write=>(c0V (a4z o.dst bor) X.T h o.op ds).bind fun p=>a7x nt o.dst p.1 e p.2 K
    | .call=>(a3l X.T call (a4z o.dst bor) o.op ds h).bind fun p=>a7x nt o.dst p.1 e p.2 K
    | .limbo=>(b5l X.T o.op).bind fun d=>a7x nt o.dst d e h K
  | some (j,b)=>match (l[j]?).bind (·.dst) with
   | none=>none
   | some t=>match lkD e t with
    | none=>none
    | some g=>match a0X X.T fz o with
     | .pure=>(gd g b (a3s X.T o.op ds)).bind fun d=>a7x nt o.dst d e h K
     | .read=>(gd g b (a3W X.T h o.op ds)).bind fun d=>a7x nt o.dst d e h K
     | .write=>(gdW g b h (c0V (a4z o.dst bor) X.T h o.op ds)).bind fun p=>a7x nt o.dst p.1 e p.2 K
     | .call=>(gdW g b h (a3l X.T call (a4z o.dst bor) o.op ds h)).bind fun p=>a7x nt o.dst p.1 e p.2 K
     | .limbo=>none
def c1i (fz:List Nat) (o p:Oper):Option (Nat × Nat × Operand):=match o.op,o.dst,o.guard,p.op,p.dst,p.guard with
 | .alloc e,some d,none,.store e' (.tmp d') x,none,none=>match Nat.beq e e'&&Nat.beq d d'&&fz.any (Nat.beq d)&&(match x with
  | .tmp t => !(Nat.beq t d)
  | _=>true) with
  | true=>some (e,d,x)
  | false=>none
 | _,_,_,_,_,_=>none
def a5x (sz:Nat) (v:D):Option D:=match v.okv&&Nat.beq (a0u v).length sz with
 | true=>some (.fptr (a0u v))
 | false=>none
def a6R (X:Cx) (call:a0W) (nt:Nat) (fz bor:List Nat) (l:List Oper):List Oper→DE→Hp→(DE→Hp→Option R)→Option R
 | [],e,h,K=>K e h
 | [o],e,h,K=>opK X call nt fz bor l o e h K
 | o::p::r,e,h,K=>match c1i fz o p with
  | some (E,d,x)=>match evD X e x,X.T E with
   | some v,some i=>(a5x i.sz v).bind fun u=>a7x nt (some d) u e h fun e' h'=>a6R X call nt fz bor l r e' h' K
   | _,_=>none
  | none=>opK X call nt fz bor l o e h fun e' h'=>a6R X call nt fz bor l (p::r) e' h' K
-- a statement whose order is open
def isW (T:Tab) (fz:List Nat) (o:Oper):Bool:=match a0X T fz o with
 | .write | .call=>true
 | _=>false
def isR (T:Tab) (fz:List Nat) (o:Oper):Bool:=match a0X T fz o with
 | .read=>true
 | _=>false
def a1n (T:Tab) (fz:List Nat) (l:List Oper) (i:Nat):Bool:=match l[i]? with
 | some o=>isW T fz o
 | none=>false
def b6t (X:Cx) (call:a0W) (nt:Nat) (fz bor:List Nat) (l:List Oper):List Oper→DE→Hp→List Hp→(DE→Hp→List Hp→Option R)→Option R
 | [],e,h,hs,K=>K e h hs
 | o::r,e,h,hs,K=>opK X call nt fz bor l o e h fun e' h'=>b6t X call nt fz bor l r e' h' (match isW X.T fz o with
  | true=>hs++[h']
  | false=>hs) K
def a3e (l:List Oper):List Nat:=(Region.before l.toArray).toList
def a2Z (bs:List Nat) (i j:Nat):Bool:=(bs.getD i 0).testBit j
def looks (l:List Oper) (o:Oper):List Nat:=(o.op.operands.toList.filterMap fun | .tmp t=>some t | _=>none)++(match o.guard with
 | some (j,_)=>((l[j]?).bind (·.dst)).toList
 | none=>[])
def a1a (l:List Oper):Nat:=(List.range l.length).foldr (fun k m=>match Nat.beq m (k+1)&&(List.range k).all (fun j=>b0x j (a8R l.toArray k)) with
 | true=>k
 | false=>m) l.length
def b9T (T:Tab) (fz:List Nat) (l:List Oper) (j:Nat):Bool:=match l[j]? with
 | some o=>(match a0X T fz o with
  | .pure=>true
  | _=>false)&&(match o.guard with
  | none=>true
  | some _=>false)&&(match o.dst with
  | some _=>true
  | none=>false)
 | none=>false
def c4S (T:Tab) (fz:List Nat) (l:List Oper):Nat:=(List.range (a1a l)).foldr (fun k m=>match Nat.beq m (k+1)&&(List.range k).all (fun j=>b0x j (a8R l.toArray k)||b9T T fz l j) with
 | true=>k
 | false=>m) (a1a l)
def c6c (fz:List Nat) (l:List Oper):Bool:=(l.take (a1a l)).any fun o=>match o.op with
 | .store _ (.tmp t) _=>fz.any (Nat.beq (t+1000000))
 | _=>false
def c0I (T:Tab) (fz:List Nat) (l:List Oper):Nat:=match c6c fz l with
 | true=>c4S T fz l
 | false=>a1a l
def a3q (m:Nat) (l:List Oper) (j:Nat):Bool:=(List.range (a1a l)).any fun k => !(Nat.blt k m) && !(b0x j (a8R l.toArray k))
def b5B (l:List Oper) (k j:Nat):Bool:=match l[k]?,l[j]? with
 | some o,some p=>(match o.dst with
  | some t => !(b0x t (looks l p))
  | none=>true)
 | _,_=>true
def c4j (m:Nat) (l:List Oper) (j:Nat):Bool:=match l[j]? with
 | some p=>(looks l p).all fun t=>(List.range m).all fun q=>match l[q]? with
  | some p'=>(match p'.dst with
   | some d => !(Nat.beq d t) || !(a3q m l q)
   | none=>true)
  | none=>true
 | none=>true
def b8D (fz:List Nat) (l:List Oper) (k:Nat):Bool:=match l[k]?,l[k+1]? with
 | some o,some p=>(match c1i fz o p with
  | some _=>false
  | none=>true)
 | _,_=>true
def a9t (T:Tab) (fz:List Nat) (m:Nat) (l:List Oper):Bool :=
 ((List.range (a1a l)).all fun k=>Nat.blt k m||(List.range k).all fun j=>b0x j (a8R l.toArray k)||(Nat.blt j m&&b5B l k j)) &&
 ((List.range m).all fun j => !(a3q m l j)||(b9T T fz l j&&c4j m l j)) &&
 ((List.range (a1a l)).all fun k=>Nat.blt k m||b8D fz l k)
def b8k (T:Tab) (fz:List Nat) (nt m:Nat) (l:List Oper):Bool :=
 let bs:=a3e l
 let W:=(List.range m).filter (a1n T fz l)
 Nat.ble m (a1a l)&&Nat.ble (a1a l) l.length&&b8J nt l&&c0M (a1a l) l &&
 ((List.range (a1a l)).all fun i=>match l[i]? with
  | some o=>(looks l o).all fun t=>(List.range m).all fun j=>match l[j]? with
   | some p=>(match p.dst with
    | some d => !(Nat.beq d t)||a2Z bs i j
    | none=>true)
   | none=>true
  | none=>true) &&
 (W.all fun j=>W.all fun i => !(Nat.blt i j)||a2Z bs j i) &&
 (Nat.beq m (a1a l)||a9t T fz m l)
def a8E (T:Tab) (fz:List Nat) (m:Nat) (l:List Oper):List (Nat × Nat) :=
 let bs:=a3e l
 let W:=(List.range m).filter (a1n T fz l)
 (List.range m).flatMap fun i=>match l[i]? with
  | some o=>match isR T fz o with
   | true =>
    let lo:=(W.filter fun w=>a2Z bs i w).length
    let hi:=(W.filter fun w => !(a2Z bs w i)).length
    let own:=(W.filter fun w=>Nat.blt w i).length
    ((List.range (hi+1)).filter fun k=>Nat.ble lo k && !(Nat.beq k own)).map fun k=>(i,k)
   | false=>[]
  | none=>[]
def a4S (X:Cx) (l:List Oper) (o:Oper) (e:DE) (h:Hp):Prop:=match b2F X e o.op.operands.toList,o.dst with
 | some ds,some t=>match o.guard with
  | none=>a3W X.T h o.op ds=lkD e t
  | some (j,b)=>match (l[j]?).bind (·.dst) with
   | none=>False
   | some u=>match lkD e u with
    | none=>False
    | some g=>gd g b (a3W X.T h o.op ds)=lkD e t
 | _,_=>False
open Classical in
noncomputable def chk (p:Prop) (x:Option R):Option R:=if p then x else none
noncomputable def b3H (X:Cx) (l:List Oper) (e:DE) (hs:List Hp):List (Nat × Nat)→Option R→Option R
 | [],x=>x
 | (i,k)::r,x=>match l[i]? with
  | some o=>chk (a4S X l o e (hs.getD k [])) (b3H X l e hs r x)
  | none=>none
def a2x (X:Cx) (fz:List Nat):List Oper→DE→Hp→(DE→Hp→Option R)→Option R
 | [],e,h,K=>K e h
 | o::r,e,h,K=>match a0X X.T fz o,o.op,o.dst with
  | .limbo,.alloc E,some t=>match X.T E with
   | some i=>a2x X fz r ((t,.ptr h.length 0 0)::e) (a0J h E i.sz [i.zero]) K
   | none=>none
  | _,_,_=>a2x X fz r e h K
noncomputable def a7f (X:Cx) (call:a0W) (nt:Nat) (fz bor:List Nat) (m:Nat) (l:List Oper) (e:DE) (h:Hp) (K:DE→Hp→Option R):Option R :=
 match b8k X.T fz nt m l with
 | false=>none
 | true=>b6t X call nt fz bor l (l.take m) e h [h] fun e' h' hs=>b3H X l e' hs (a8E X.T fz m l) (a2x X fz (l.take m) e' h' fun e'' h''=>a6R X call nt fz bor l (l.drop m) e'' h'' K)
end
inductive Ex where
 | nrm | ext (id:Nat) | ret
def a2C:Code→List Nat
 | .region _ ops _=>ops.toList.filterMap (·.dst)
 | .seq a b=>a2C a++a2C b
 | .cond _ a b=>a2C a++a2C b
 | .block _ b=>a2C b
 | .loop b=>a2C b
 | .scope b=>a2C b
 | .rangeFunc _ ps a b=>ps.toList++a2C a++a2C b
 | _=>[]
def a7l:Code→Bool
 | .exit _=>false
 | .ret=>false
 | .seq a b=>a7l a&&a7l b
 | .cond _ a b=>a7l a||a7l b
 | .loop _=>false
 | _=>true
def a3O (id:Nat):Code→Bool
 | .exit i=>Nat.beq i id
 | .seq a b=>a3O id a||a3O id b
 | .cond _ a b=>a3O id a||a3O id b
 | .block _ b=>a3O id b
 | .loop b=>a3O id b
 | .scope b=>a3O id b
 | _=>false
def a3H (keep:List Nat) (c:Code):List Nat:=keep.filter fun t=>b0x t (a2C c)
def b8M (e:DE):List Nat→DE
 | []=>[]
 | t::r=>match lkD e t with
  | some d=>(t,d)::b8M e r
  | none=>b8M e r
def b8L (keep:List Nat) (c:Code) (e:DE):DE:=b8M e (keep.filter fun t => !(b0x t (a2C c)))
def a4t (e:DE):List Nat→List D
 | []=>[]
 | t::r=>(match lkD e t with
  | some d=>d
  | none => .any)::a4t e r
def hdD:List D→D
 | d::_=>d
 | [] => .any
def tlD:List D→List D
 | _::r=>r
 | []=>[]
def a9S:List Nat→List D→DE→DE
 | [],_,e=>e
 | t::ts,ds,e=>(t,hdD ds)::a9S ts (tlD ds) e
def a0Q (id:Nat):Ex→Ex
 | .ext i=>match Nat.beq i id with
  | true => .nrm
  | false => .ext i
 | x=>x
abbrev Out:=Ex × List D × Hp
abbrev a6q:=(List D→Hp→Option Out)→List D→Hp→Option Out
def dIf {R:Type} (c:D) (a b:Option R):Option R:=match c with
 | .bool true=>a
 | .bool false=>b
 | _=>none
def a0R {R:Type} (x:Ex) (n:Option R) (k:Ex→Option R):Option R:=c4w (match x with
 | .nrm=>n
 | x=>k x)
def a1b {R:Type} (x:Ex) (r:Option R):Option R:=c4w (match x with
 | .ext _=>none
 | _=>r)
structure Ann where
 nt:Nat
 keep:List Nat
 fz:List Nat
 bor:List Nat
noncomputable def cK (X:Cx) (call:a0W) (loop:a6q) (A:Ann):Code→DE→Hp→(R:Type)→(Ex→DE→Hp→Option R)→Option R
 | .skip,e,h,R,K=>K .nrm e h
 | .label _,e,h,R,K=>K .nrm e h
 | .ret,e,h,R,K=>K .ret e h
 | .exit i,e,h,R,K=>K (.ext i) e h
 | .region _ ops dr,e,h,R,K=>match dr with
  | false=>a6R X call A.nt A.fz A.bor ops.toList ops.toList e h (K .nrm)
  | true=>a7f X call A.nt A.fz A.bor (c0I X.T A.fz ops.toList) ops.toList e h (K .nrm)
 | .seq a b,e,h,R,K=>cK X call loop A a e h R fun x e' h'=>a0R x (cK X call loop A b e' h' R K) fun x=>K x e' h'
 | .cond c a b,e,h,R,K=>match evD X e c with
  | none=>none
  | some d=>match a7l a&&a7l b with
   | true=>(dIf d (cK X call loop A a e h Out fun x e' h'=>some (x,a4t e' (a3H A.keep (.cond c a b)),h')) (cK X call loop A b e h Out fun x e' h'=>some (x,a4t e' (a3H A.keep (.cond c a b)),h'))).bind fun r =>
     K r.1 (a9S (a3H A.keep (.cond c a b)) r.2.1 (b8L A.keep (.cond c a b) e)) r.2.2
   | false=>dIf d (cK X call loop A a e h R K) (cK X call loop A b e h R K)
 | .block id b,e,h,R,K=>match a3O id b with
  | true=>(cK X call loop A b e h Out fun x e' h'=>some (a0Q id x,a4t e' (a3H A.keep b),h')).bind fun r=>K r.1 (a9S (a3H A.keep b) r.2.1 (b8L A.keep b e)) r.2.2
  | false=>cK X call loop A b e h R fun x e' h'=>K (a0Q id x) e' h'
 | .loop b,e,h,R,K=>(loop (fun ds h'=>cK X call loop A b (a9S (a3H A.keep b) ds (b8L A.keep b e)) h' Out fun x e' h''=>some (x,a4t e' (a3H A.keep b),h'')) (a4t e (a3H A.keep b)) h).bind fun r =>
   K r.1 (a9S (a3H A.keep b) r.2.1 (b8L A.keep b e)) r.2.2
 | _,_,_,_,_=>none
end Go.Pi

/- What code does to data: statements, ways, rounds, calls. No program is named here. -/
import Derived.Test.YtkpnnfhodlanjaaDoorPiN
import Derived.Test.YtkpnnfhodlanjaaDoorEngE
set_option linter.unusedSimpArgs false
set_option linter.unusedVariables false
set_option linter.unnecessarySimpa false
namespace Go.Pi
open Go.Eng
-- steps that make the checker open what stands on this side first
def hc0:Unit:=()
def hc1:Unit:=hc0
def hc2:Unit:=hc1
def hc3:Unit:=hc2
def hc4:Unit:=hc3
def hc5:Unit:=hc4
def hc6:Unit:=hc5
def hc7:Unit:=hc6
def hc8:Unit:=hc7
def hc9:Unit:=hc8
def b8X:Unit:=hc9
def b8Y:Unit:=b8X
def b8Z:Unit:=b8Y
def b9a:Unit:=b8Z
def b9b:Unit:=b9a
def b9c:Unit:=b9b
def b9d:Unit:=b9c
def b9e:Unit:=b9d
def b9f:Unit:=b9e
def b9g:Unit:=b9f
def b9h:Unit:=b9g
def b9i:Unit:=b9h
def b9j:Unit:=b9i
def b9k:Unit:=b9j
def b9l:Unit:=b9k
def b9m:Unit:=b9l
def b9n:Unit:=b9m
def b9o:Unit:=b9n
def b9p:Unit:=b9o
def b9q:Unit:=b9p
def b9r:Unit:=b9q
def b5J {α:Sort _} (a:α):α:=(fun _:Unit=>a) b9r
theorem b2l {α:Sort _} (a:α):b5J a=a:=rfl
abbrev a0F:=FuncId→List D→Hp→Option (D × Hp)
structure Cx where
 T:Tab
 gl:Nat→Option D
 xt:a0F
def evD (X:Cx) (e:DE):Operand→Option D
 | .tmp t=>lkD e t
 | .const v=>some (a6s v)
 | .global i=>X.gl i
 | .func f=>some (.fn (.func f) [] [])
def a7P (X:Cx) (e:DE):List Operand→Option (List D)
 | []=>some []
 | x::r=>match evD X e x with
  | some d=>match a7P X e r with
   | some ds=>some (d::ds)
   | none=>none
  | none=>none
def gd (g:D) (b:Bool) (x:Option D):Option D:=match g with
 | .bool c=>match c==b with
  | true=>x
  | false=>some .und
 | .und=>some .und
 | _=>none
def gdW (g:D) (b:Bool) (h:Hp) (x:Option (D × Hp)):Option (D × Hp):=match g with
 | .bool c=>match c==b with
  | true=>x
  | false=>some (.und,h)
 | .und=>some (.und,h)
 | _=>none
def frz (n0:Nat) (h:Hp):Nat→D→D
 | 0,d=>d
 | n+1,d=>match d with
  | .msl sz o r k=>match Nat.ble n0 o with
   | true=>match h[o]? with
    | some (.row _ _ rows) => .sl sz false (((rows.drop r).take k).map fun row=>row.map (frz n0 h n))
    | _ => .msl sz o r k
   | false => .msl sz o r k
  | .agg cs => .agg (cs.map (frz n0 h n))
  | .tup cs => .tup (cs.map (frz n0 h n))
  | .sl sz f rows => .sl sz f (rows.map fun row=>row.map (frz n0 h n))
  | d=>d
-- a call that reads live objects as if they were never written a2I
def b0Y (h:Hp):Nat→D→D
 | 0,d=>d
 | n+1,d=>match d with
  | .msl sz o r k=>match h[o]? with
   | some (.row _ _ rows) => .sl sz false (((rows.drop r).take k).map fun row=>row.map (b0Y h n))
   | _ => .msl sz o r k
  | .agg cs => .agg (cs.map (b0Y h n))
  | d=>d
def D.scal1:D→Bool
 | .bool _ | .int _ _ | .str _ | .nilp | .nils | .und=>true
 | _=>false
def D.scal:D→Bool
 | .tup ds=>ds.all D.scal1
 | d=>d.scal1
def a3p (call:a0F) (f:FuncId) (args:List D) (h:Hp):Option (D × Hp):=match call f (args.map (b0Y h 3)) (h.map fun _ => .dead) with
 | some (d,_)=>match d.scal with
  | true=>some (d,h)
  | false=>none
 | none=>none
def b3Y (call:a0F) (f:FuncId) (args:List D) (h:Hp):Option (D × Hp):=call f (args.map (frz 0 h 3)) (h.map fun _ => .dead)
def a5u (T:Tab) (call:a0F) (m:String) (ds:List D) (h:Hp):Option (D × Hp):=match ds with
 | .iface t d::as=>match a9l T t m with
  | some f=>call f (d::as) h
  | none=>none
 | _=>none
def calls (md:Nat) (call:a0F) (f:FuncId) (args:List D) (h:Hp):Option (D × Hp):=match md with
 | 0=>call f args h
 | 1=>a3p call f args h
 | _=>b3Y call f args h
def a1N (T:Tab) (call:a0F) (md:Nat) (o:Op) (ds:List D) (h:Hp):Option (D × Hp):=b5J (match o with
 | .call c=>match c.callee with
  | .value _=>match ds with
   | .fn (.func f) first caps::as=>calls md call f (first++as++caps) h
   | _=>none
  | .invoke _ m=>a5u T call m ds h
  | _=>none
 | _=>none)
def a2D (n0:Nat) (h:Hp):Hp:=h.take n0++(h.drop n0).map fun _ => .dead
def b7O (p:D × Hp):D × Hp:=match p.1 with
 | .msl _ o _ _=>(frz o p.2 3 p.1,a2D o p.2)
 | _=>p
def b7N (n0:Nat) (p:D × Hp):D × Hp:=match p.1 with
 | .msl z o r n=>(frz n0 p.2 3 (.msl z o r n),a2D n0 p.2)
 | _=>p
def b2Z (md:Nat) (T:Tab) (h:Hp) (op:Op) (ds:List D):Option (D × Hp):=match md with
 | 2=>a2q T (h.map fun _ => .dead) op (ds.map (frz 0 h 3))
 | 3=>(a2q T h op ds).bind fun p=>some (b7O p)
 | n0+4=>(a2q T h op ds).bind fun p=>some (b7N n0 p)
 | _=>a2q T h op ds
def a2z (o:Option Nat) (l:List Nat):Nat:=match o with
 | some d=>match l.any (Nat.beq d) with
  | true=>1
  | false=>match l.any (Nat.beq (d+1000000)) with
   | true=>2
   | false=>match l.any (Nat.beq (d+2000000)) with
    | true=>3
    | false=>match l.find? (fun e=>Nat.ble 3000000 e&&Nat.beq ((e - 3000000) % 10000) d) with
     | some e=>(e - 3000000) / 10000+4
     | none=>0
 | none=>0
section
variable {R:Type}
def a4g (nt:Nat) (dst:Option Nat) (d:D) (e:DE) (h:Hp) (K:DE→Hp→Option R):Option R:=match dst with
 | none=>K e h
 | some t=>match Nat.blt t nt with
  | true=>K ((t,d)::e) h
  | false=>none
def b5M (op:Op) (ds:List D):Option D:=match op,ds with
 | .move _,[d]=>some d
 | .assign _,[d]=>some d
 | _,_=>none
def opK (X:Cx) (call:a0F) (nt:Nat) (fz bor:List Nat) (l:List Oper) (o:Oper) (e:DE) (h:Hp) (K:DE→Hp→Option R):Option R :=
 match a7P X e o.op.operands.toList with
 | none=>none
 | some ds=>match o.guard with
  | none=>match b5M o.op ds with
   | some d=>a4g nt o.dst d e h K
   | none=>match a0C X.T fz o with
    | .pure=>(a1S X.T o.op ds).bind fun d=>a4g nt o.dst d e h K
    | .read=>(a2j X.T h o.op ds).bind fun d=>a4g nt o.dst d e h K
    | .write=>(b2Z (a2z o.dst bor) X.T h o.op ds).bind fun p=>a4g nt o.dst p.1 e p.2 K
    | .call=>(a1N X.T call (a2z o.dst bor) o.op ds h).bind fun p=>a4g nt o.dst p.1 e p.2 K
    | .limbo=>(a9g X.T o.op).bind fun d=>a4g nt o.dst d e h K
  | some (j,b)=>match (l[j]?).bind (·.dst) with
   | none=>none
   | some t=>match lkD e t with
    | none=>none
    | some g=>match a0C X.T fz o with
     | .pure=>(gd g b (a1S X.T o.op ds)).bind fun d=>a4g nt o.dst d e h K
     | .read=>(gd g b (a2j X.T h o.op ds)).bind fun d=>a4g nt o.dst d e h K
     | .write=>(gdW g b h (b2Z (a2z o.dst bor) X.T h o.op ds)).bind fun p=>a4g nt o.dst p.1 e p.2 K
     | .call=>(gdW g b h (a1N X.T call (a2z o.dst bor) o.op ds h)).bind fun p=>a4g nt o.dst p.1 e p.2 K
     | .limbo=>none
def b3i (fz:List Nat) (o p:Oper):Option (Nat × Nat × Operand):=match o.op,o.dst,o.guard,p.op,p.dst,p.guard with
 | .alloc e,some d,none,.store e' (.tmp d') x,none,none=>match Nat.beq e e'&&Nat.beq d d'&&fz.any (Nat.beq d)&&(match x with
  | .tmp t => !(Nat.beq t d)
  | _=>true) with
  | true=>some (e,d,x)
  | false=>none
 | _,_,_,_,_,_=>none
def a8f (sz:Nat) (v:D):Option D:=match v.okv&&Nat.beq (a0z v).length sz with
 | true=>some (.fptr (a0z v))
 | false=>none
def a3F (X:Cx) (call:a0F) (nt:Nat) (fz bor:List Nat) (l:List Oper):List Oper→DE→Hp→(DE→Hp→Option R)→Option R
 | [],e,h,K=>K e h
 | [o],e,h,K=>opK X call nt fz bor l o e h K
 | o::p::r,e,h,K=>match b3i fz o p with
  | some (E,d,x)=>match evD X e x,X.T E with
   | some v,some i=>(a8f i.sz v).bind fun u=>a4g nt (some d) u e h fun e' h'=>a3F X call nt fz bor l r e' h' K
   | _,_=>none
  | none=>opK X call nt fz bor l o e h fun e' h'=>a3F X call nt fz bor l (p::r) e' h' K
-- a statement whose order is open
def isW (T:Tab) (fz:List Nat) (o:Oper):Bool:=match a0C T fz o with
 | .write | .call=>true
 | _=>false
def isR (T:Tab) (fz:List Nat) (o:Oper):Bool:=match a0C T fz o with
 | .read=>true
 | _=>false
def a0I (T:Tab) (fz:List Nat) (l:List Oper) (i:Nat):Bool:=match l[i]? with
 | some o=>isW T fz o
 | none=>false
def a9X (X:Cx) (call:a0F) (nt:Nat) (fz bor:List Nat) (l:List Oper):List Oper→DE→Hp→List Hp→(DE→Hp→List Hp→Option R)→Option R
 | [],e,h,hs,K=>K e h hs
 | o::r,e,h,hs,K=>opK X call nt fz bor l o e h fun e' h'=>a9X X call nt fz bor l r e' h' (match isW X.T fz o with
  | true=>hs++[h']
  | false=>hs) K
def a1x (l:List Oper):List Nat:=(Region.before l.toArray).toList
def a1t (bs:List Nat) (i j:Nat):Bool:=(bs.getD i 0).testBit j
def looks (l:List Oper) (o:Oper):List Nat:=(o.op.operands.toList.filterMap fun | .tmp t=>some t | _=>none)++(match o.guard with
 | some (j,_)=>((l[j]?).bind (·.dst)).toList
 | none=>[])
def a0D (l:List Oper):Nat:=(List.range l.length).foldr (fun k m=>match Nat.beq m (k+1)&&(List.range k).all (fun j=>a7R j (a7d l.toArray k)) with
 | true=>k
 | false=>m) l.length
def b2m (T:Tab) (fz:List Nat) (l:List Oper) (j:Nat):Bool:=match l[j]? with
 | some o=>(match a0C T fz o with
  | .pure=>true
  | _=>false)&&(match o.guard with
  | none=>true
  | some _=>false)&&(match o.dst with
  | some _=>true
  | none=>false)
 | none=>false
def b5Y (T:Tab) (fz:List Nat) (l:List Oper):Nat :=
 let bs:=a1x l
 (List.range (a0D l)).foldr (fun k m=>match Nat.beq m (k+1)&&(List.range k).all (fun j=>a1t bs k j||b2m T fz l j) with
 | true=>k
 | false=>m) (a0D l)
def b4Q (l:List Oper):Bool:=(List.range (a0D l)).any fun k=>match l[k]? with
 | some o=>(match o.op,o.dst with
  | .assign _,some t=>(List.range k).any fun j=>match l[j]? with
   | some p=>a7R t (looks l p)
   | none=>false
  | _,_=>false)
 | none=>false
def b6K (fz:List Nat) (l:List Oper):Bool:=(l.take (a0D l)).any fun o=>match o.op with
 | .store _ (.tmp t) _=>fz.any (Nat.beq (t+1000000))
 | _=>false
def b2M (T:Tab) (fz:List Nat) (l:List Oper):Nat:=match b6K fz l||b4Q l with
 | true=>b5Y T fz l
 | false=>a0D l
def a1Q (m:Nat) (l:List Oper) (j:Nat):Bool:=(List.range (a0D l)).any fun k => !(Nat.blt k m) && !(a1t (a1x l) k j)
def a9n (l:List Oper) (k j:Nat):Bool:=match l[k]?,l[j]? with
 | some o,some p=>(match o.dst with
  | some t => !(a7R t (looks l p))
  | none=>true)
 | _,_=>true
def b5A (m:Nat) (l:List Oper) (j:Nat):Bool:=match l[j]? with
 | some p=>(looks l p).all fun t=>(List.range m).all fun q=>match l[q]? with
  | some p'=>(match p'.dst with
   | some d => !(Nat.beq d t) || !(a1Q m l q)
   | none=>true)
  | none=>true
 | none=>true
def b1t (fz:List Nat) (l:List Oper) (k:Nat):Bool:=match l[k]?,l[k+1]? with
 | some o,some p=>(match b3i fz o p with
  | some _=>false
  | none=>true)
 | _,_=>true
def a5P (T:Tab) (fz:List Nat) (m:Nat) (l:List Oper):Bool :=
 ((List.range (a0D l)).all fun k=>Nat.blt k m||(List.range k).all fun j=>a7R j (a7d l.toArray k)||(Nat.blt j m&&a9n l k j)) &&
 ((List.range m).all fun j => !(a1Q m l j)||(b2m T fz l j&&b5A m l j)) &&
 ((List.range (a0D l)).all fun k=>Nat.blt k m||b1t fz l k)
def b1k (T:Tab) (fz:List Nat) (nt m:Nat) (l:List Oper):Bool :=
 let bs:=a1x l
 let W:=(List.range m).filter (a0I T fz l)
 Nat.ble m (a0D l)&&Nat.ble (a0D l) l.length&&b1y nt l&&b2O (a0D l) l &&
 ((List.range (a0D l)).all fun i=>match l[i]? with
  | some o=>(looks l o).all fun t=>(List.range m).all fun j=>match l[j]? with
   | some p=>(match p.dst with
    | some d => !(Nat.beq d t)||a1t bs i j
    | none=>true)
   | none=>true
  | none=>true) &&
 (W.all fun j=>W.all fun i => !(Nat.blt i j)||a1t bs j i) &&
 (Nat.beq m (a0D l)||a5P T fz m l)
def a5m (T:Tab) (fz:List Nat) (m:Nat) (l:List Oper):List (Nat × Nat) :=
 let bs:=a1x l
 let W:=(List.range m).filter (a0I T fz l)
 (List.range m).flatMap fun i=>match l[i]? with
  | some o=>match isR T fz o with
   | true =>
    let lo:=(W.filter fun w=>a1t bs i w).length
    let hi:=(W.filter fun w => !(a1t bs w i)).length
    let own:=(W.filter fun w=>Nat.blt w i).length
    ((List.range (hi+1)).filter fun k=>Nat.ble lo k && !(Nat.beq k own)).map fun k=>(i,k)
   | false=>[]
  | none=>[]
def a2I (X:Cx) (l:List Oper) (o:Oper) (e:DE) (h:Hp):Prop:=match a7P X e o.op.operands.toList,o.dst with
 | some ds,some t=>match o.guard with
  | none=>a2j X.T h o.op ds=lkD e t
  | some (j,b)=>match (l[j]?).bind (·.dst) with
   | none=>False
   | some u=>match lkD e u with
    | none=>False
    | some g=>gd g b (a2j X.T h o.op ds)=lkD e t
 | _,_=>False
open Classical in
noncomputable def chk (p:Prop) (x:Option R):Option R:=if p then x else none
noncomputable def a8j (X:Cx) (l:List Oper) (e:DE) (hs:List Hp):List (Nat × Nat)→Option R→Option R
 | [],x=>x
 | (i,k)::r,x=>match l[i]? with
  | some o=>chk (a2I X l o e (hs.getD k [])) (a8j X l e hs r x)
  | none=>none
def a1v (X:Cx) (fz:List Nat):List Oper→DE→Hp→(DE→Hp→Option R)→Option R
 | [],e,h,K=>K e h
 | o::r,e,h,K=>match a0C X.T fz o,o.op,o.dst with
  | .limbo,.alloc E,some t=>match X.T E with
   | some i=>a1v X fz r ((t,.ptr h.length 0 0)::e) (a1p h E i.sz [i.zero]) K
   | none=>none
  | _,_,_=>a1v X fz r e h K
noncomputable def a3O (X:Cx) (call:a0F) (nt:Nat) (fz bor:List Nat) (m:Nat) (l:List Oper) (e:DE) (h:Hp) (K:DE→Hp→Option R):Option R :=
 match b1k X.T fz nt m l with
 | false=>none
 | true=>a9X X call nt fz bor l (l.take m) e h [h] fun e' h' hs=>a8j X l e' hs (a5m X.T fz m l) (a1v X fz (l.take m) e' h' fun e'' h''=>a3F X call nt fz bor l (l.drop m) e'' h'' K)
end
inductive Ex where
 | nrm | ext (id:Nat) | ret
def a1w:Code→List Nat
 | .region _ ops _=>ops.toList.filterMap (·.dst)
 | .seq a b=>a1w a++a1w b
 | .cond _ a b=>a1w a++a1w b
 | .block _ b=>a1w b
 | .loop b=>a1w b
 | .scope b=>a1w b
 | .rangeFunc _ ps a b=>ps.toList++a1w a++a1w b
 | _=>[]
def a3T:Code→Bool
 | .exit _=>false
 | .ret=>false
 | .seq a b=>a3T a&&a3T b
 | .cond _ a b=>a3T a||a3T b
 | .loop _=>false
 | _=>true
def a2f (id:Nat):Code→Bool
 | .exit i=>Nat.beq i id
 | .seq a b=>a2f id a||a2f id b
 | .cond _ a b=>a2f id a||a2f id b
 | .block _ b=>a2f id b
 | .loop b=>a2f id b
 | .scope b=>a2f id b
 | _=>false
def a2c (keep:List Nat) (c:Code):List Nat:=keep.filter fun t=>a7R t (a1w c)
def b1A (e:DE):List Nat→DE
 | []=>[]
 | t::r=>match lkD e t with
  | some d=>(t,d)::b1A e r
  | none=>b1A e r
def b1z (keep:List Nat) (c:Code) (e:DE):DE:=b1A e (keep.filter fun t => !(a7R t (a1w c)))
def a2x (e:DE):List Nat→List D
 | []=>[]
 | t::r=>(match lkD e t with
  | some d=>d
  | none => .any)::a2x e r
def hdD:List D→D
 | d::_=>d
 | [] => .any
def tlD:List D→List D
 | _::r=>r
 | []=>[]
def a6f:List Nat→List D→DE→DE
 | [],_,e=>e
 | t::ts,ds,e=>(t,hdD ds)::a6f ts (tlD ds) e
def a0t (id:Nat):Ex→Ex
 | .ext i=>match Nat.beq i id with
  | true => .nrm
  | false => .ext i
 | x=>x
abbrev Out:=Ex × List D × Hp
abbrev a3n:=(List D→Hp→Option Out)→List D→Hp→Option Out
def dIf {R:Type} (c:D) (a b:Option R):Option R:=match c with
 | .bool true=>a
 | .bool false=>b
 | _=>none
def a0A {R:Type} (x:Ex) (n:Option R) (k:Ex→Option R):Option R:=b5J (match x with
 | .nrm=>n
 | x=>k x)
def a0M {R:Type} (x:Ex) (r:Option R):Option R:=b5J (match x with
 | .ext _=>none
 | _=>r)
structure Ann where
 nt:Nat
 keep:List Nat
 fz:List Nat
 bor:List Nat
noncomputable def cK (X:Cx) (call:a0F) (loop:a3n) (A:Ann):Code→DE→Hp→(R:Type)→(Ex→DE→Hp→Option R)→Option R
 | .skip,e,h,R,K=>K .nrm e h
 | .label _,e,h,R,K=>K .nrm e h
 | .ret,e,h,R,K=>K .ret e h
 | .exit i,e,h,R,K=>K (.ext i) e h
 | .region _ ops dr,e,h,R,K=>match dr with
  | false=>a3F X call A.nt A.fz A.bor ops.toList ops.toList e h (K .nrm)
  | true=>a3O X call A.nt A.fz A.bor (b2M X.T A.fz ops.toList) ops.toList e h (K .nrm)
 | .seq a b,e,h,R,K=>cK X call loop A a e h R fun x e' h'=>a0A x (cK X call loop A b e' h' R K) fun x=>K x e' h'
 | .cond c a b,e,h,R,K=>match evD X e c with
  | none=>none
  | some d=>match a3T a&&a3T b with
   | true=>(dIf d (cK X call loop A a e h Out fun x e' h'=>some (x,a2x e' (a2c A.keep (.cond c a b)),h')) (cK X call loop A b e h Out fun x e' h'=>some (x,a2x e' (a2c A.keep (.cond c a b)),h'))).bind fun r =>
     K r.1 (a6f (a2c A.keep (.cond c a b)) r.2.1 (b1z A.keep (.cond c a b) e)) r.2.2
   | false=>dIf d (cK X call loop A a e h R K) (cK X call loop A b e h R K)
 | .block id b,e,h,R,K=>match a2f id b with
  | true=>(cK X call loop A b e h Out fun x e' h'=>some (a0t id x,a2x e' (a2c A.keep b),h')).bind fun r=>K r.1 (a6f (a2c A.keep b) r.2.1 (b1z A.keep b e)) r.2.2
  | false=>cK X call loop A b e h R fun x e' h'=>K (a0t id x) e' h'
 | .loop b,e,h,R,K=>(loop (fun ds h'=>cK X call loop A b (a6f (a2c A.keep b) ds (b1z A.keep b e)) h' Out fun x e' h''=>some (x,a2x e' (a2c A.keep b),h'')) (a2x e (a2c A.keep b)) h).bind fun r =>
   K r.1 (a6f (a2c A.keep b) r.2.1 (b1z A.keep b e)) r.2.2
 | _,_,_,_,_=>none
end Go.Pi

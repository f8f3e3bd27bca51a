/- What code does to data: statements, ways, rounds, calls. No program is named here. -/
import Derived.Test.YtkpnnfhodlanjaaGreatDoorPiN
import Derived.Test.YtkpnnfhodlanjaaGreatDoorEngE
set_option linter.unusedSimpArgs false
set_option linter.unusedVariables false
set_option linter.unnecessarySimpa false
namespace Go.Pi
open Go.Eng
-- steps that make the checker open what stands on this side first
def hc0:Unit:=()
def hc1:Unit:=hc0
def hc2:Unit:=hc1
def hc3:Unit:=hc2
def hc4:Unit:=hc3
def hc5:Unit:=hc4
def hc6:Unit:=hc5
def hc7:Unit:=hc6
def hc8:Unit:=hc7
def hc9:Unit:=hc8
def c7B:Unit:=hc9
def c7C:Unit:=c7B
def c7D:Unit:=c7C
def c7E:Unit:=c7D
def c7F:Unit:=c7E
def c7G:Unit:=c7F
def c7H:Unit:=c7G
def c7I:Unit:=c7H
def c7J:Unit:=c7I
def c7K:Unit:=c7J
def c7L:Unit:=c7K
def c7M:Unit:=c7L
def c7N:Unit:=c7M
def c7O:Unit:=c7N
def c7P:Unit:=c7O
def c7Q:Unit:=c7P
def c7R:Unit:=c7Q
def c7S:Unit:=c7R
def c7T:Unit:=c7S
def c7U:Unit:=c7T
def c7V:Unit:=c7U
def c1N {α:Sort _} (a:α):α:=(fun _:Unit=>a) c7V
theorem b6K {α:Sort _} (a:α):c1N a=a:=rfl
abbrev a0Z:=FuncId→List D→Hp→Option (D × Hp)
structure Cx where
 T:Tab
 gl:Nat→Option D
 xt:a0Z
def evD (X:Cx) (e:DE):Operand→Option D
 | .tmp t=>lkD e t
 | .const v=>some (a8z v)
 | .global i=>X.gl i
 | .func f=>some (.fn (.func f) [] [])
def b0x (X:Cx) (e:DE):List Operand→Option (List D)
 | []=>some []
 | x::r=>match evD X e x with
  | some d=>match b0x X e r with
   | some ds=>some (d::ds)
   | none=>none
  | none=>none
def gd (g:D) (b:Bool) (x:Option D):Option D:=match g with
 | .bool c=>match c==b with
  | true=>x
  | false=>some .und
 | .und=>some .und
 | _=>none
def gdW (g:D) (b:Bool) (h:Hp) (x:Option (D × Hp)):Option (D × Hp):=match g with
 | .bool c=>match c==b with
  | true=>x
  | false=>some (.und,h)
 | .und=>some (.und,h)
 | _=>none
def frz (n0:Nat) (h:Hp):Nat→D→D
 | 0,d=>d
 | n+1,d=>match d with
  | .msl sz o r k=>match Nat.ble n0 o with
   | true=>match h[o]? with
    | some (.row _ _ rows) => .sl sz false (((rows.drop r).take k).map fun row=>row.map (frz n0 h n))
    | _ => .msl sz o r k
   | false => .msl sz o r k
  | .agg cs => .agg (cs.map (frz n0 h n))
  | .tup cs => .tup (cs.map (frz n0 h n))
  | .sl sz f rows => .sl sz f (rows.map fun row=>row.map (frz n0 h n))
  | d=>d
-- a call that reads live objects as if they were never written a3H
def b4P (h:Hp):Nat→D→D
 | 0,d=>d
 | n+1,d=>match d with
  | .msl sz o r k=>match h[o]? with
   | some (.row _ _ rows) => .sl sz false (((rows.drop r).take k).map fun row=>row.map (b4P h n))
   | _ => .msl sz o r k
  | .agg cs => .agg (cs.map (b4P h n))
  | d=>d
def D.scal1:D→Bool
 | .bool _ | .int _ _ | .str _ | .nilp | .nils | .und=>true
 | _=>false
def D.scal:D→Bool
 | .tup ds=>ds.all D.scal1
 | d=>d.scal1
def a4J (call:a0Z) (f:FuncId) (args:List D) (h:Hp):Option (D × Hp):=match call f (args.map (b4P h 3)) (h.map fun _ => .dead) with
 | some (d,_)=>match d.scal with
  | true=>some (d,h)
  | false=>none
 | none=>none
def b9m (call:a0Z) (f:FuncId) (args:List D) (h:Hp):Option (D × Hp):=call f (args.map (frz 0 h 3)) (h.map fun _ => .dead)
def a7m (T:Tab) (call:a0Z) (m:String) (ds:List D) (h:Hp):Option (D × Hp):=match ds with
 | .iface t d::as=>match b2C T t m with
  | some f=>call f (d::as) h
  | none=>none
 | _=>none
def calls (md:Nat) (call:a0Z) (f:FuncId) (args:List D) (h:Hp):Option (D × Hp):=match md with
 | 0=>call f args h
 | 1=>a4J call f args h
 | _=>b9m call f args h
def a2t (T:Tab) (call:a0Z) (md:Nat) (o:Op) (ds:List D) (h:Hp):Option (D × Hp):=c1N (match o with
 | .call c=>match c.callee with
  | .value _=>match ds with
   | .fn (.func f) first caps::as=>calls md call f (first++as++caps) h
   | _=>none
  | .invoke _ m=>a7m T call m ds h
  | _=>none
 | _=>none)
def a3B (n0:Nat) (h:Hp):Hp:=h.take n0++(h.drop n0).map fun _ => .dead
def c5p (p:D × Hp):D × Hp:=match p.1 with
 | .msl _ o _ _=>(frz o p.2 3 p.1,a3B o p.2)
 | _=>p
def c5o (n0:Nat) (p:D × Hp):D × Hp:=match p.1 with
 | .msl z o r n=>(frz n0 p.2 3 (.msl z o r n),a3B n0 p.2)
 | _=>p
def b7O (md:Nat) (T:Tab) (h:Hp) (op:Op) (ds:List D):Option (D × Hp):=match md with
 | 2=>a3i T (h.map fun _ => .dead) op (ds.map (frz 0 h 3))
 | 3=>(a3i T h op ds).bind fun p=>some (c5p p)
 | n0+4=>(a3i T h op ds).bind fun p=>some (c5o n0 p)
 | _=>a3i T h op ds
def a3x (o:Option Nat) (l:List Nat):Nat:=match o with
 | some d=>match l.any (Nat.beq d) with
  | true=>1
  | false=>match l.any (Nat.beq (d+1000000)) with
   | true=>2
   | false=>match l.any (Nat.beq (d+2000000)) with
    | true=>3
    | false=>match l.find? (fun e=>Nat.ble 3000000 e&&Nat.beq ((e - 3000000) % 10000) d) with
     | some e=>(e - 3000000) / 10000+4
     | none=>0
 | none=>0
section
variable {R:Type}
def a5P (nt:Nat) (dst:Option Nat) (d:D) (e:DE) (h:Hp) (K:DE→Hp→Option R):Option R:=match dst with
 | none=>K e h
 | some t=>match Nat.blt t nt with
  | true=>K ((t,d)::e) h
  | false=>none
def c1Q (op:Op) (ds:List D):Option D:=match op,ds with
 | .move _,[d]=>some d
 | .assign _,[d]=>some d
 | _,_=>none
def opK (X:Cx) (call:a0Z) (nt:Nat) (fz bor:List Nat) (l:List Oper) (o:Oper) (e:DE) (h:Hp) (K:DE→Hp→Option R):Option R :=
 match b0x X e o.op.operands.toList with
 | none=>none
 | some ds=>match o.guard with
  | none=>match c1Q o.op ds with
   | some d=>a5P nt o.dst d e h K
   | none=>match a0W X.T fz o with
    | .pure=>(a2E X.T o.op ds).bind fun d=>a5P nt o.dst d e h K
    | .read=>(a2Z X.T h o.op ds).bind fun d=>a5P nt o.dst d e h K
    | .write=>(b7O (a3x o.dst bor) X.T h o.op ds).bind fun p=>a5P nt o.dst p.1 e p.2 K
    | .call=>(a2t X.T call (a3x o.dst bor) o.op ds h).bind fun p=>a5P nt o.dst p.1 e p.2 K
    | .limbo=>(b2q X.T o.op).bind fun d=>a5P nt o.dst d e h K
  | some (j,b)=>match (l[j]?).bind (·.dst) with
   | none=>none
   | some t=>match lkD e t with
    | none=>none
    | some g=>match a0W X.T fz o with
     | .pure=>(gd g b (a2E X.T o.op ds)).bind fun d=>a5P nt o.dst d e h K
     | .read=>(gd g b (a2Z X.T h o.op ds)).bind fun d=>a5P nt o.dst d e h K
     | .write=>(gdW g b h (b7O (a3x o.dst bor) X.T h o.op ds)).bind fun p=>a5P nt o.dst p.1 e p.2 K
     | .call=>(gdW g b h (a2t X.T call (a3x o.dst bor) o.op ds h)).bind fun p=>a5P nt o.dst p.1 e p.2 K
     | .limbo=>none
def b7W (fz:List Nat) (o p:Oper):Option (Nat × Nat × Operand):=match o.op,o.dst,o.guard,p.op,p.dst,p.guard with
 | .alloc e,some d,none,.store e' (.tmp d') x,none,none=>match Nat.beq e e'&&Nat.beq d d'&&fz.any (Nat.beq d)&&(match x with
  | .tmp t => !(Nat.beq t d)
  | _=>true) with
  | true=>some (e,d,x)
  | false=>none
 | _,_,_,_,_,_=>none
def b0n (sz:Nat) (v:D):Option D:=match v.okv&&Nat.beq (a0A v).length sz with
 | true=>some (.fptr (a0A v))
 | false=>none
def a5i (X:Cx) (call:a0Z) (nt:Nat) (fz bor:List Nat) (l:List Oper):List Oper→DE→Hp→(DE→Hp→Option R)→Option R
 | [],e,h,K=>K e h
 | [o],e,h,K=>opK X call nt fz bor l o e h K
 | o::p::r,e,h,K=>match b7W fz o p with
  | some (E,d,x)=>match evD X e x,X.T E with
   | some v,some i=>(b0n i.sz v).bind fun u=>a5P nt (some d) u e h fun e' h'=>a5i X call nt fz bor l r e' h' K
   | _,_=>none
  | none=>opK X call nt fz bor l o e h fun e' h'=>a5i X call nt fz bor l (p::r) e' h' K
-- a statement whose order is open
def isW (T:Tab) (fz:List Nat) (o:Oper):Bool:=match a0W T fz o with
 | .write | .call=>true
 | _=>false
def isR (T:Tab) (fz:List Nat) (o:Oper):Bool:=match a0W T fz o with
 | .read=>true
 | _=>false
def a1g (T:Tab) (fz:List Nat) (l:List Oper) (i:Nat):Bool:=match l[i]? with
 | some o=>isW T fz o
 | none=>false
def b3u (X:Cx) (call:a0Z) (nt:Nat) (fz bor:List Nat) (l:List Oper):List Oper→DE→Hp→List Hp→(DE→Hp→List Hp→Option R)→Option R
 | [],e,h,hs,K=>K e h hs
 | o::r,e,h,hs,K=>opK X call nt fz bor l o e h fun e' h'=>b3u X call nt fz bor l r e' h' (match isW X.T fz o with
  | true=>hs++[h']
  | false=>hs) K
def a2b (l:List Oper):List Nat:=(Region.before l.toArray).toList
def a1V (bs:List Nat) (i j:Nat):Bool:=(bs.getD i 0).testBit j
def looks (l:List Oper) (o:Oper):List Nat:=(o.op.operands.toList.filterMap fun | .tmp t=>some t | _=>none)++(match o.guard with
 | some (j,_)=>((l[j]?).bind (·.dst)).toList
 | none=>[])
def a0X (l:List Oper):Nat:=(List.range l.length).foldr (fun k m=>match Nat.beq m (k+1)&&(List.range k).all (fun j=>b0C j (a9x l.toArray k)) with
 | true=>k
 | false=>m) l.length
def b6L (T:Tab) (fz:List Nat) (l:List Oper) (j:Nat):Bool:=match l[j]? with
 | some o=>(match a0W T fz o with
  | .pure=>true
  | _=>false)&&(match o.guard with
  | none=>true
  | some _=>false)&&(match o.dst with
  | some _=>true
  | none=>false)
 | none=>false
def c2i (T:Tab) (fz:List Nat) (l:List Oper):Nat :=
 let bs:=a2b l
 (List.range (a0X l)).foldr (fun k m=>match Nat.beq m (k+1)&&(List.range k).all (fun j=>a1V bs k j||b6L T fz l j) with
 | true=>k
 | false=>m) (a0X l)
def c0B (l:List Oper):Bool:=(List.range (a0X l)).any fun k=>match l[k]? with
 | some o=>(match o.op,o.dst with
  | .assign _,some t=>(List.range k).any fun j=>match l[j]? with
   | some p=>b0C t (looks l p)
   | none=>false
  | _,_=>false)
 | none=>false
def c3n (fz:List Nat) (l:List Oper):Bool:=(l.take (a0X l)).any fun o=>match o.op with
 | .store _ (.tmp t) _=>fz.any (Nat.beq (t+1000000))
 | _=>false
def b7z (T:Tab) (fz:List Nat) (l:List Oper):Nat:=match c3n fz l||c0B l with
 | true=>c2i T fz l
 | false=>a0X l
def a2y (m:Nat) (l:List Oper) (j:Nat):Bool:=(List.range (a0X l)).any fun k => !(Nat.blt k m) && !(a1V (a2b l) k j)
def b2E (l:List Oper) (k j:Nat):Bool:=match l[k]?,l[j]? with
 | some o,some p=>(match o.dst with
  | some t => !(b0C t (looks l p))
  | none=>true)
 | _,_=>true
def c1v (m:Nat) (l:List Oper) (j:Nat):Bool:=match l[j]? with
 | some p=>(looks l p).all fun t=>(List.range m).all fun q=>match l[q]? with
  | some p'=>(match p'.dst with
   | some d => !(Nat.beq d t) || !(a2y m l q)
   | none=>true)
  | none=>true
 | none=>true
def b5E (fz:List Nat) (l:List Oper) (k:Nat):Bool:=match l[k]?,l[k+1]? with
 | some o,some p=>(match b7W fz o p with
  | some _=>false
  | none=>true)
 | _,_=>true
def a7O (T:Tab) (fz:List Nat) (m:Nat) (l:List Oper):Bool :=
 ((List.range (a0X l)).all fun k=>Nat.blt k m||(List.range k).all fun j=>b0C j (a9x l.toArray k)||(Nat.blt j m&&b2E l k j)) &&
 ((List.range m).all fun j => !(a2y m l j)||(b6L T fz l j&&c1v m l j)) &&
 ((List.range (a0X l)).all fun k=>Nat.blt k m||b5E fz l k)
def b5q (T:Tab) (fz:List Nat) (nt m:Nat) (l:List Oper):Bool :=
 let bs:=a2b l
 let W:=(List.range m).filter (a1g T fz l)
 Nat.ble m (a0X l)&&Nat.ble (a0X l) l.length&&b5J nt l&&b7B (a0X l) l &&
 ((List.range (a0X l)).all fun i=>match l[i]? with
  | some o=>(looks l o).all fun t=>(List.range m).all fun j=>match l[j]? with
   | some p=>(match p.dst with
    | some d => !(Nat.beq d t)||a1V bs i j
    | none=>true)
   | none=>true
  | none=>true) &&
 (W.all fun j=>W.all fun i => !(Nat.blt i j)||a1V bs j i) &&
 (Nat.beq m (a0X l)||a7O T fz m l)
def a7c (T:Tab) (fz:List Nat) (m:Nat) (l:List Oper):List (Nat × Nat) :=
 let bs:=a2b l
 let W:=(List.range m).filter (a1g T fz l)
 (List.range m).flatMap fun i=>match l[i]? with
  | some o=>match isR T fz o with
   | true =>
    let lo:=(W.filter fun w=>a1V bs i w).length
    let hi:=(W.filter fun w => !(a1V bs w i)).length
    let own:=(W.filter fun w=>Nat.blt w i).length
    ((List.range (hi+1)).filter fun k=>Nat.ble lo k && !(Nat.beq k own)).map fun k=>(i,k)
   | false=>[]
  | none=>[]
def a3H (X:Cx) (l:List Oper) (o:Oper) (e:DE) (h:Hp):Prop:=match b0x X e o.op.operands.toList,o.dst with
 | some ds,some t=>match o.guard with
  | none=>a2Z X.T h o.op ds=lkD e t
  | some (j,b)=>match (l[j]?).bind (·.dst) with
   | none=>False
   | some u=>match lkD e u with
    | none=>False
    | some g=>gd g b (a2Z X.T h o.op ds)=lkD e t
 | _,_=>False
open Classical in
noncomputable def chk (p:Prop) (x:Option R):Option R:=if p then x else none
noncomputable def b1c (X:Cx) (l:List Oper) (e:DE) (hs:List Hp):List (Nat × Nat)→Option R→Option R
 | [],x=>x
 | (i,k)::r,x=>match l[i]? with
  | some o=>chk (a3H X l o e (hs.getD k [])) (b1c X l e hs r x)
  | none=>none
def a1X (X:Cx) (fz:List Nat):List Oper→DE→Hp→(DE→Hp→Option R)→Option R
 | [],e,h,K=>K e h
 | o::r,e,h,K=>match a0W X.T fz o,o.op,o.dst with
  | .limbo,.alloc E,some t=>match X.T E with
   | some i=>a1X X fz r ((t,.ptr h.length 0 0)::e) (a1h h E i.sz [i.zero]) K
   | none=>none
  | _,_,_=>a1X X fz r e h K
noncomputable def a5r (X:Cx) (call:a0Z) (nt:Nat) (fz bor:List Nat) (m:Nat) (l:List Oper) (e:DE) (h:Hp) (K:DE→Hp→Option R):Option R :=
 match b5q X.T fz nt m l with
 | false=>none
 | true=>b3u X call nt fz bor l (l.take m) e h [h] fun e' h' hs=>b1c X l e' hs (a7c X.T fz m l) (a1X X fz (l.take m) e' h' fun e'' h''=>a5i X call nt fz bor l (l.drop m) e'' h'' K)
end
inductive Ex where
 | nrm | ext (id:Nat) | ret
def a1Y:Code→List Nat
 | .region _ ops _=>ops.toList.filterMap (·.dst)
 | .seq a b=>a1Y a++a1Y b
 | .cond _ a b=>a1Y a++a1Y b
 | .block _ b=>a1Y b
 | .loop b=>a1Y b
 | .scope b=>a1Y b
 | .rangeFunc _ ps a b=>ps.toList++a1Y a++a1Y b
 | _=>[]
def a5x:Code→Bool
 | .exit _=>false
 | .ret=>false
 | .seq a b=>a5x a&&a5x b
 | .cond _ a b=>a5x a||a5x b
 | .loop _=>false
 | _=>true
def a2U (id:Nat):Code→Bool
 | .exit i=>Nat.beq i id
 | .seq a b=>a2U id a||a2U id b
 | .cond _ a b=>a2U id a||a2U id b
 | .block _ b=>a2U id b
 | .loop b=>a2U id b
 | .scope b=>a2U id b
 | _=>false
def a2Q (keep:List Nat) (c:Code):List Nat:=keep.filter fun t=>b0C t (a1Y c)
def b5L (e:DE):List Nat→DE
 | []=>[]
 | t::r=>match lkD e t with
  | some d=>(t,d)::b5L e r
  | none=>b5L e r
def b5K (keep:List Nat) (c:Code) (e:DE):DE:=b5L e (keep.filter fun t => !(b0C t (a1Y c)))
def a3q (e:DE):List Nat→List D
 | []=>[]
 | t::r=>(match lkD e t with
  | some d=>d
  | none => .any)::a3q e r
def hdD:List D→D
 | d::_=>d
 | [] => .any
def tlD:List D→List D
 | _::r=>r
 | []=>[]
def a8g:List Nat→List D→DE→DE
 | [],_,e=>e
 | t::ts,ds,e=>(t,hdD ds)::a8g ts (tlD ds) e
def a0w (id:Nat):Ex→Ex
 | .ext i=>match Nat.beq i id with
  | true => .nrm
  | false => .ext i
 | x=>x
abbrev Out:=Ex × List D × Hp
abbrev a4H:=(List D→Hp→Option Out)→List D→Hp→Option Out
def dIf {R:Type} (c:D) (a b:Option R):Option R:=match c with
 | .bool true=>a
 | .bool false=>b
 | _=>none
def a0y {R:Type} (x:Ex) (n:Option R) (k:Ex→Option R):Option R:=c1N (match x with
 | .nrm=>n
 | x=>k x)
def a0M {R:Type} (x:Ex) (r:Option R):Option R:=c1N (match x with
 | .ext _=>none
 | _=>r)
structure Ann where
 nt:Nat
 keep:List Nat
 fz:List Nat
 bor:List Nat
noncomputable def cK (X:Cx) (call:a0Z) (loop:a4H) (A:Ann):Code→DE→Hp→(R:Type)→(Ex→DE→Hp→Option R)→Option R
 | .skip,e,h,R,K=>K .nrm e h
 | .label _,e,h,R,K=>K .nrm e h
 | .ret,e,h,R,K=>K .ret e h
 | .exit i,e,h,R,K=>K (.ext i) e h
 | .region _ ops dr,e,h,R,K=>match dr with
  | false=>a5i X call A.nt A.fz A.bor ops.toList ops.toList e h (K .nrm)
  | true=>a5r X call A.nt A.fz A.bor (b7z X.T A.fz ops.toList) ops.toList e h (K .nrm)
 | .seq a b,e,h,R,K=>cK X call loop A a e h R fun x e' h'=>a0y x (cK X call loop A b e' h' R K) fun x=>K x e' h'
 | .cond c a b,e,h,R,K=>match evD X e c with
  | none=>none
  | some d=>match a5x a&&a5x b with
   | true=>(dIf d (cK X call loop A a e h Out fun x e' h'=>some (x,a3q e' (a2Q A.keep (.cond c a b)),h')) (cK X call loop A b e h Out fun x e' h'=>some (x,a3q e' (a2Q A.keep (.cond c a b)),h'))).bind fun r =>
     K r.1 (a8g (a2Q A.keep (.cond c a b)) r.2.1 (b5K A.keep (.cond c a b) e)) r.2.2
   | false=>dIf d (cK X call loop A a e h R K) (cK X call loop A b e h R K)
 | .block id b,e,h,R,K=>match a2U id b with
  | true=>(cK X call loop A b e h Out fun x e' h'=>some (a0w id x,a3q e' (a2Q A.keep b),h')).bind fun r=>K r.1 (a8g (a2Q A.keep b) r.2.1 (b5K A.keep b e)) r.2.2
  | false=>cK X call loop A b e h R fun x e' h'=>K (a0w id x) e' h'
 | .loop b,e,h,R,K=>(loop (fun ds h'=>cK X call loop A b (a8g (a2Q A.keep b) ds (b5K A.keep b e)) h' Out fun x e' h''=>some (x,a3q e' (a2Q A.keep b),h'')) (a3q e (a2Q A.keep b)) h).bind fun r =>
   K r.1 (a8g (a2Q A.keep b) r.2.1 (b5K A.keep b e)) r.2.2
 | _,_,_,_,_=>none
end Go.Pi

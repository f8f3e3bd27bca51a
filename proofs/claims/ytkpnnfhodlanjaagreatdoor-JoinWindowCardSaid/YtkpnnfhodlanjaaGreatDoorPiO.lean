/- What code does to data: statements, ways, rounds, calls. No program is named here. -/
import Derived.Test.YtkpnnfhodlanjaaGreatDoorPiN
import Derived.Test.YtkpnnfhodlanjaaGreatDoorEngE
set_option linter.unusedSimpArgs false
set_option linter.unusedVariables false
set_option linter.unnecessarySimpa false
namespace Go.Pi
open Go.Eng
-- steps that make the checker open what stands on this side first
def hc0:Unit:=()
def hc1:Unit:=hc0
def hc2:Unit:=hc1
def hc3:Unit:=hc2
def hc4:Unit:=hc3
def hc5:Unit:=hc4
def hc6:Unit:=hc5
def hc7:Unit:=hc6
def hc8:Unit:=hc7
def hc9:Unit:=hc8
def c7q:Unit:=hc9
def c7r:Unit:=c7q
def c7s:Unit:=c7r
def c7t:Unit:=c7s
def c7u:Unit:=c7t
def c7v:Unit:=c7u
def c7w:Unit:=c7v
def c7x:Unit:=c7w
def c7y:Unit:=c7x
def c7z:Unit:=c7y
def c7A:Unit:=c7z
def c7B:Unit:=c7A
def c7C:Unit:=c7B
def c7D:Unit:=c7C
def c7E:Unit:=c7D
def c7F:Unit:=c7E
def c7G:Unit:=c7F
def c7H:Unit:=c7G
def c7I:Unit:=c7H
def c7J:Unit:=c7I
def c7K:Unit:=c7J
def c1H {α:Sort _} (a:α):α:=(fun _:Unit=>a) c7K
theorem b6G {α:Sort _} (a:α):c1H a=a:=rfl
abbrev a1a:=FuncId→List D→Hp→Option (D × Hp)
structure Cx where
 T:Tab
 gl:Nat→Option D
 xt:a1a
def evD (X:Cx) (e:DE):Operand→Option D
 | .tmp t=>lkD e t
 | .const v=>some (a8t v)
 | .global i=>X.gl i
 | .func f=>some (.fn (.func f) [] [])
def b0q (X:Cx) (e:DE):List Operand→Option (List D)
 | []=>some []
 | x::r=>match evD X e x with
  | some d=>match b0q X e r with
   | some ds=>some (d::ds)
   | none=>none
  | none=>none
def gd (g:D) (b:Bool) (x:Option D):Option D:=match g with
 | .bool c=>match c==b with
  | true=>x
  | false=>some .und
 | .und=>some .und
 | _=>none
def gdW (g:D) (b:Bool) (h:Hp) (x:Option (D × Hp)):Option (D × Hp):=match g with
 | .bool c=>match c==b with
  | true=>x
  | false=>some (.und,h)
 | .und=>some (.und,h)
 | _=>none
def frz (n0:Nat) (h:Hp):Nat→D→D
 | 0,d=>d
 | n+1,d=>match d with
  | .msl sz o r k=>match Nat.ble n0 o with
   | true=>match h[o]? with
    | some (.row _ _ rows) => .sl sz false (((rows.drop r).take k).map fun row=>row.map (frz n0 h n))
    | _ => .msl sz o r k
   | false => .msl sz o r k
  | .agg cs => .agg (cs.map (frz n0 h n))
  | .tup cs => .tup (cs.map (frz n0 h n))
  | .sl sz f rows => .sl sz f (rows.map fun row=>row.map (frz n0 h n))
  | d=>d
-- a call that reads live objects as if they were never written a3E
def b4K (h:Hp):Nat→D→D
 | 0,d=>d
 | n+1,d=>match d with
  | .msl sz o r k=>match h[o]? with
   | some (.row _ _ rows) => .sl sz false (((rows.drop r).take k).map fun row=>row.map (b4K h n))
   | _ => .msl sz o r k
  | .agg cs => .agg (cs.map (b4K h n))
  | d=>d
def D.scal1:D→Bool
 | .bool _ | .int _ _ | .str _ | .nilp | .nils | .und=>true
 | _=>false
def D.scal:D→Bool
 | .tup ds=>ds.all D.scal1
 | d=>d.scal1
def a4F (call:a1a) (f:FuncId) (args:List D) (h:Hp):Option (D × Hp):=match call f (args.map (b4K h 3)) (h.map fun _ => .dead) with
 | some (d,_)=>match d.scal with
  | true=>some (d,h)
  | false=>none
 | none=>none
def b9j (call:a1a) (f:FuncId) (args:List D) (h:Hp):Option (D × Hp):=call f (args.map (frz 0 h 3)) (h.map fun _ => .dead)
def a7h (T:Tab) (call:a1a) (m:String) (ds:List D) (h:Hp):Option (D × Hp):=match ds with
 | .iface t d::as=>match b2t T t m with
  | some f=>call f (d::as) h
  | none=>none
 | _=>none
def calls (md:Nat) (call:a1a) (f:FuncId) (args:List D) (h:Hp):Option (D × Hp):=match md with
 | 0=>call f args h
 | 1=>a4F call f args h
 | _=>b9j call f args h
def a2s (T:Tab) (call:a1a) (md:Nat) (o:Op) (ds:List D) (h:Hp):Option (D × Hp):=c1H (match o with
 | .call c=>match c.callee with
  | .value _=>match ds with
   | .fn (.func f) first caps::as=>calls md call f (first++as++caps) h
   | _=>none
  | .invoke _ m=>a7h T call m ds h
  | _=>none
 | _=>none)
def a3y (n0:Nat) (h:Hp):Hp:=h.take n0++(h.drop n0).map fun _ => .dead
def c5g (p:D × Hp):D × Hp:=match p.1 with
 | .msl _ o _ _=>(frz o p.2 3 p.1,a3y o p.2)
 | _=>p
def c5f (n0:Nat) (p:D × Hp):D × Hp:=match p.1 with
 | .msl z o r n=>(frz n0 p.2 3 (.msl z o r n),a3y n0 p.2)
 | _=>p
def b7K (md:Nat) (T:Tab) (h:Hp) (op:Op) (ds:List D):Option (D × Hp):=match md with
 | 2=>a3g T (h.map fun _ => .dead) op (ds.map (frz 0 h 3))
 | 3=>(a3g T h op ds).bind fun p=>some (c5g p)
 | n0+4=>(a3g T h op ds).bind fun p=>some (c5f n0 p)
 | _=>a3g T h op ds
def a3u (o:Option Nat) (l:List Nat):Nat:=match o with
 | some d=>match l.any (Nat.beq d) with
  | true=>1
  | false=>match l.any (Nat.beq (d+1000000)) with
   | true=>2
   | false=>match l.any (Nat.beq (d+2000000)) with
    | true=>3
    | false=>match l.find? (fun e=>Nat.ble 3000000 e&&Nat.beq ((e - 3000000) % 10000) d) with
     | some e=>(e - 3000000) / 10000+4
     | none=>0
 | none=>0
section
variable {R:Type}
def a5M (nt:Nat) (dst:Option Nat) (d:D) (e:DE) (h:Hp) (K:DE→Hp→Option R):Option R:=match dst with
 | none=>K e h
 | some t=>match Nat.blt t nt with
  | true=>K ((t,d)::e) h
  | false=>none
def c1K (op:Op) (ds:List D):Option D:=match op,ds with
 | .move _,[d]=>some d
 | .assign _,[d]=>some d
 | _,_=>none
def opK (X:Cx) (call:a1a) (nt:Nat) (fz bor:List Nat) (l:List Oper) (o:Oper) (e:DE) (h:Hp) (K:DE→Hp→Option R):Option R :=
 match b0q X e o.op.operands.toList with
 | none=>none
 | some ds=>match o.guard with
  | none=>match c1K o.op ds with
   | some d=>a5M nt o.dst d e h K
   | none=>match a0V X.T fz o with
    | .pure=>(a2B X.T o.op ds).bind fun d=>a5M nt o.dst d e h K
    | .read=>(a2Y X.T h o.op ds).bind fun d=>a5M nt o.dst d e h K
    | .write=>(b7K (a3u o.dst bor) X.T h o.op ds).bind fun p=>a5M nt o.dst p.1 e p.2 K
    | .call=>(a2s X.T call (a3u o.dst bor) o.op ds h).bind fun p=>a5M nt o.dst p.1 e p.2 K
    | .limbo=>(b2h X.T o.op).bind fun d=>a5M nt o.dst d e h K
  | some (j,b)=>match (l[j]?).bind (·.dst) with
   | none=>none
   | some t=>match lkD e t with
    | none=>none
    | some g=>match a0V X.T fz o with
     | .pure=>(gd g b (a2B X.T o.op ds)).bind fun d=>a5M nt o.dst d e h K
     | .read=>(gd g b (a2Y X.T h o.op ds)).bind fun d=>a5M nt o.dst d e h K
     | .write=>(gdW g b h (b7K (a3u o.dst bor) X.T h o.op ds)).bind fun p=>a5M nt o.dst p.1 e p.2 K
     | .call=>(gdW g b h (a2s X.T call (a3u o.dst bor) o.op ds h)).bind fun p=>a5M nt o.dst p.1 e p.2 K
     | .limbo=>none
def b7T (fz:List Nat) (o p:Oper):Option (Nat × Nat × Operand):=match o.op,o.dst,o.guard,p.op,p.dst,p.guard with
 | .alloc e,some d,none,.store e' (.tmp d') x,none,none=>match Nat.beq e e'&&Nat.beq d d'&&fz.any (Nat.beq d)&&(match x with
  | .tmp t => !(Nat.beq t d)
  | _=>true) with
  | true=>some (e,d,x)
  | false=>none
 | _,_,_,_,_,_=>none
def b0g (sz:Nat) (v:D):Option D:=match v.okv&&Nat.beq (a0A v).length sz with
 | true=>some (.fptr (a0A v))
 | false=>none
def a5f (X:Cx) (call:a1a) (nt:Nat) (fz bor:List Nat) (l:List Oper):List Oper→DE→Hp→(DE→Hp→Option R)→Option R
 | [],e,h,K=>K e h
 | [o],e,h,K=>opK X call nt fz bor l o e h K
 | o::p::r,e,h,K=>match b7T fz o p with
  | some (E,d,x)=>match evD X e x,X.T E with
   | some v,some i=>(b0g i.sz v).bind fun u=>a5M nt (some d) u e h fun e' h'=>a5f X call nt fz bor l r e' h' K
   | _,_=>none
  | none=>opK X call nt fz bor l o e h fun e' h'=>a5f X call nt fz bor l (p::r) e' h' K
-- a statement whose order is open
def isW (T:Tab) (fz:List Nat) (o:Oper):Bool:=match a0V T fz o with
 | .write | .call=>true
 | _=>false
def isR (T:Tab) (fz:List Nat) (o:Oper):Bool:=match a0V T fz o with
 | .read=>true
 | _=>false
def a1g (T:Tab) (fz:List Nat) (l:List Oper) (i:Nat):Bool:=match l[i]? with
 | some o=>isW T fz o
 | none=>false
def b3m (X:Cx) (call:a1a) (nt:Nat) (fz bor:List Nat) (l:List Oper):List Oper→DE→Hp→List Hp→(DE→Hp→List Hp→Option R)→Option R
 | [],e,h,hs,K=>K e h hs
 | o::r,e,h,hs,K=>opK X call nt fz bor l o e h fun e' h'=>b3m X call nt fz bor l r e' h' (match isW X.T fz o with
  | true=>hs++[h']
  | false=>hs) K
def a2a (l:List Oper):List Nat:=(Region.before l.toArray).toList
def a1T (bs:List Nat) (i j:Nat):Bool:=(bs.getD i 0).testBit j
def looks (l:List Oper) (o:Oper):List Nat:=(o.op.operands.toList.filterMap fun | .tmp t=>some t | _=>none)++(match o.guard with
 | some (j,_)=>((l[j]?).bind (·.dst)).toList
 | none=>[])
def a0W (l:List Oper):Nat:=(List.range l.length).foldr (fun k m=>match Nat.beq m (k+1)&&(List.range k).all (fun j=>b0u j (a9s l.toArray k)) with
 | true=>k
 | false=>m) l.length
def b6H (T:Tab) (fz:List Nat) (l:List Oper) (j:Nat):Bool:=match l[j]? with
 | some o=>(match a0V T fz o with
  | .pure=>true
  | _=>false)&&(match o.guard with
  | none=>true
  | some _=>false)&&(match o.dst with
  | some _=>true
  | none=>false)
 | none=>false
def c2c (T:Tab) (fz:List Nat) (l:List Oper):Nat :=
 let bs:=a2a l
 (List.range (a0W l)).foldr (fun k m=>match Nat.beq m (k+1)&&(List.range k).all (fun j=>a1T bs k j||b6H T fz l j) with
 | true=>k
 | false=>m) (a0W l)
def c0x (l:List Oper):Bool:=(List.range (a0W l)).any fun k=>match l[k]? with
 | some o=>(match o.op,o.dst with
  | .assign _,some t=>(List.range k).any fun j=>match l[j]? with
   | some p=>b0u t (looks l p)
   | none=>false
  | _,_=>false)
 | none=>false
def c3h (fz:List Nat) (l:List Oper):Bool:=(l.take (a0W l)).any fun o=>match o.op with
 | .store _ (.tmp t) _=>fz.any (Nat.beq (t+1000000))
 | _=>false
def b7w (T:Tab) (fz:List Nat) (l:List Oper):Nat:=match c3h fz l||c0x l with
 | true=>c2c T fz l
 | false=>a0W l
def a2v (m:Nat) (l:List Oper) (j:Nat):Bool:=(List.range (a0W l)).any fun k => !(Nat.blt k m) && !(a1T (a2a l) k j)
def b2v (l:List Oper) (k j:Nat):Bool:=match l[k]?,l[j]? with
 | some o,some p=>(match o.dst with
  | some t => !(b0u t (looks l p))
  | none=>true)
 | _,_=>true
def c1p (m:Nat) (l:List Oper) (j:Nat):Bool:=match l[j]? with
 | some p=>(looks l p).all fun t=>(List.range m).all fun q=>match l[q]? with
  | some p'=>(match p'.dst with
   | some d => !(Nat.beq d t) || !(a2v m l q)
   | none=>true)
  | none=>true
 | none=>true
def b5z (fz:List Nat) (l:List Oper) (k:Nat):Bool:=match l[k]?,l[k+1]? with
 | some o,some p=>(match b7T fz o p with
  | some _=>false
  | none=>true)
 | _,_=>true
def a7I (T:Tab) (fz:List Nat) (m:Nat) (l:List Oper):Bool :=
 ((List.range (a0W l)).all fun k=>Nat.blt k m||(List.range k).all fun j=>b0u j (a9s l.toArray k)||(Nat.blt j m&&b2v l k j)) &&
 ((List.range m).all fun j => !(a2v m l j)||(b6H T fz l j&&c1p m l j)) &&
 ((List.range (a0W l)).all fun k=>Nat.blt k m||b5z fz l k)
def b5m (T:Tab) (fz:List Nat) (nt m:Nat) (l:List Oper):Bool :=
 let bs:=a2a l
 let W:=(List.range m).filter (a1g T fz l)
 Nat.ble m (a0W l)&&Nat.ble (a0W l) l.length&&b5E nt l&&b7y (a0W l) l &&
 ((List.range (a0W l)).all fun i=>match l[i]? with
  | some o=>(looks l o).all fun t=>(List.range m).all fun j=>match l[j]? with
   | some p=>(match p.dst with
    | some d => !(Nat.beq d t)||a1T bs i j
    | none=>true)
   | none=>true
  | none=>true) &&
 (W.all fun j=>W.all fun i => !(Nat.blt i j)||a1T bs j i) &&
 (Nat.beq m (a0W l)||a7I T fz m l)
def a6X (T:Tab) (fz:List Nat) (m:Nat) (l:List Oper):List (Nat × Nat) :=
 let bs:=a2a l
 let W:=(List.range m).filter (a1g T fz l)
 (List.range m).flatMap fun i=>match l[i]? with
  | some o=>match isR T fz o with
   | true =>
    let lo:=(W.filter fun w=>a1T bs i w).length
    let hi:=(W.filter fun w => !(a1T bs w i)).length
    let own:=(W.filter fun w=>Nat.blt w i).length
    ((List.range (hi+1)).filter fun k=>Nat.ble lo k && !(Nat.beq k own)).map fun k=>(i,k)
   | false=>[]
  | none=>[]
def a3E (X:Cx) (l:List Oper) (o:Oper) (e:DE) (h:Hp):Prop:=match b0q X e o.op.operands.toList,o.dst with
 | some ds,some t=>match o.guard with
  | none=>a2Y X.T h o.op ds=lkD e t
  | some (j,b)=>match (l[j]?).bind (·.dst) with
   | none=>False
   | some u=>match lkD e u with
    | none=>False
    | some g=>gd g b (a2Y X.T h o.op ds)=lkD e t
 | _,_=>False
open Classical in
noncomputable def chk (p:Prop) (x:Option R):Option R:=if p then x else none
noncomputable def b0S (X:Cx) (l:List Oper) (e:DE) (hs:List Hp):List (Nat × Nat)→Option R→Option R
 | [],x=>x
 | (i,k)::r,x=>match l[i]? with
  | some o=>chk (a3E X l o e (hs.getD k [])) (b0S X l e hs r x)
  | none=>none
def a1V (X:Cx) (fz:List Nat):List Oper→DE→Hp→(DE→Hp→Option R)→Option R
 | [],e,h,K=>K e h
 | o::r,e,h,K=>match a0V X.T fz o,o.op,o.dst with
  | .limbo,.alloc E,some t=>match X.T E with
   | some i=>a1V X fz r ((t,.ptr h.length 0 0)::e) (a1h h E i.sz [i.zero]) K
   | none=>none
  | _,_,_=>a1V X fz r e h K
noncomputable def a5o (X:Cx) (call:a1a) (nt:Nat) (fz bor:List Nat) (m:Nat) (l:List Oper) (e:DE) (h:Hp) (K:DE→Hp→Option R):Option R :=
 match b5m X.T fz nt m l with
 | false=>none
 | true=>b3m X call nt fz bor l (l.take m) e h [h] fun e' h' hs=>b0S X l e' hs (a6X X.T fz m l) (a1V X fz (l.take m) e' h' fun e'' h''=>a5f X call nt fz bor l (l.drop m) e'' h'' K)
end
inductive Ex where
 | nrm | ext (id:Nat) | ret
def a1X:Code→List Nat
 | .region _ ops _=>ops.toList.filterMap (·.dst)
 | .seq a b=>a1X a++a1X b
 | .cond _ a b=>a1X a++a1X b
 | .block _ b=>a1X b
 | .loop b=>a1X b
 | .scope b=>a1X b
 | .rangeFunc _ ps a b=>ps.toList++a1X a++a1X b
 | _=>[]
def a5u:Code→Bool
 | .exit _=>false
 | .ret=>false
 | .seq a b=>a5u a&&a5u b
 | .cond _ a b=>a5u a||a5u b
 | .loop _=>false
 | _=>true
def a2T (id:Nat):Code→Bool
 | .exit i=>Nat.beq i id
 | .seq a b=>a2T id a||a2T id b
 | .cond _ a b=>a2T id a||a2T id b
 | .block _ b=>a2T id b
 | .loop b=>a2T id b
 | .scope b=>a2T id b
 | _=>false
def a2N (keep:List Nat) (c:Code):List Nat:=keep.filter fun t=>b0u t (a1X c)
def b5G (e:DE):List Nat→DE
 | []=>[]
 | t::r=>match lkD e t with
  | some d=>(t,d)::b5G e r
  | none=>b5G e r
def b5F (keep:List Nat) (c:Code) (e:DE):DE:=b5G e (keep.filter fun t => !(b0u t (a1X c)))
def a3n (e:DE):List Nat→List D
 | []=>[]
 | t::r=>(match lkD e t with
  | some d=>d
  | none => .any)::a3n e r
def hdD:List D→D
 | d::_=>d
 | [] => .any
def tlD:List D→List D
 | _::r=>r
 | []=>[]
def a8a:List Nat→List D→DE→DE
 | [],_,e=>e
 | t::ts,ds,e=>(t,hdD ds)::a8a ts (tlD ds) e
def a0w (id:Nat):Ex→Ex
 | .ext i=>match Nat.beq i id with
  | true => .nrm
  | false => .ext i
 | x=>x
abbrev Out:=Ex × List D × Hp
abbrev a4D:=(List D→Hp→Option Out)→List D→Hp→Option Out
def dIf {R:Type} (c:D) (a b:Option R):Option R:=match c with
 | .bool true=>a
 | .bool false=>b
 | _=>none
def a0x {R:Type} (x:Ex) (n:Option R) (k:Ex→Option R):Option R:=c1H (match x with
 | .nrm=>n
 | x=>k x)
def a0L {R:Type} (x:Ex) (r:Option R):Option R:=c1H (match x with
 | .ext _=>none
 | _=>r)
structure Ann where
 nt:Nat
 keep:List Nat
 fz:List Nat
 bor:List Nat
noncomputable def cK (X:Cx) (call:a1a) (loop:a4D) (A:Ann):Code→DE→Hp→(R:Type)→(Ex→DE→Hp→Option R)→Option R
 | .skip,e,h,R,K=>K .nrm e h
 | .label _,e,h,R,K=>K .nrm e h
 | .ret,e,h,R,K=>K .ret e h
 | .exit i,e,h,R,K=>K (.ext i) e h
 | .region _ ops dr,e,h,R,K=>match dr with
  | false=>a5f X call A.nt A.fz A.bor ops.toList ops.toList e h (K .nrm)
  | true=>a5o X call A.nt A.fz A.bor (b7w X.T A.fz ops.toList) ops.toList e h (K .nrm)
 | .seq a b,e,h,R,K=>cK X call loop A a e h R fun x e' h'=>a0x x (cK X call loop A b e' h' R K) fun x=>K x e' h'
 | .cond c a b,e,h,R,K=>match evD X e c with
  | none=>none
  | some d=>match a5u a&&a5u b with
   | true=>(dIf d (cK X call loop A a e h Out fun x e' h'=>some (x,a3n e' (a2N A.keep (.cond c a b)),h')) (cK X call loop A b e h Out fun x e' h'=>some (x,a3n e' (a2N A.keep (.cond c a b)),h'))).bind fun r =>
     K r.1 (a8a (a2N A.keep (.cond c a b)) r.2.1 (b5F A.keep (.cond c a b) e)) r.2.2
   | false=>dIf d (cK X call loop A a e h R K) (cK X call loop A b e h R K)
 | .block id b,e,h,R,K=>match a2T id b with
  | true=>(cK X call loop A b e h Out fun x e' h'=>some (a0w id x,a3n e' (a2N A.keep b),h')).bind fun r=>K r.1 (a8a (a2N A.keep b) r.2.1 (b5F A.keep b e)) r.2.2
  | false=>cK X call loop A b e h R fun x e' h'=>K (a0w id x) e' h'
 | .loop b,e,h,R,K=>(loop (fun ds h'=>cK X call loop A b (a8a (a2N A.keep b) ds (b5F A.keep b e)) h' Out fun x e' h''=>some (x,a3n e' (a2N A.keep b),h'')) (a3n e (a2N A.keep b)) h).bind fun r =>
   K r.1 (a8a (a2N A.keep b) r.2.1 (b5F A.keep b e)) r.2.2
 | _,_,_,_,_=>none
end Go.Pi

/- What each operation does to data. No program is named here. -/
import Derived.Test.YtkpnnfhodlanjaaGreatDoorPiA
set_option linter.unusedSimpArgs false
set_option linter.unusedVariables false
set_option linter.unnecessarySimpa false
namespace Go.Pi
open Go.Eng
inductive TD where
 | bool | int (k:IntKind) | str | ptr (e:Nat) | sl (e:Nat) | arr (n e:Nat) | st (fs:List (Nat × Nat × Nat)) | fn | ifc | oth
structure TI where
 td:TD
 sz:Nat
 by_:Nat
 zero:List D
 ms:List (String × Option Nat)
def lkM:List (String × Option Nat)→String→Option Nat
 | [],_=>none
 | (k,f)::r,m=>match k==m with
  | true=>f
  | false=>lkM r m
def TI.isAgg (i:TI):Bool:=match i.td with
 | .st _ | .arr _ _=>true
 | _=>false
abbrev Tab:=Nat→Option TI
def a0A:D→List D
 | .agg cs=>cs
 | d=>[d]
def D.okv:D→Bool
 | .agg _=>true
 | d=>d.one
def a7s (i:TI) (cs:List D):Option D:=match i.isAgg with
 | true=>match Nat.ble i.sz cs.length with
  | true=>some (.agg (cs.take i.sz))
  | false=>none
 | false=>cs.head?
def spl (cs:List D) (off:Nat) (vs:List D):List D:=cs.take off++vs++cs.drop (off+vs.length)
def a0K:D→D→D→Option D
 | .bool true,a,_=>some a
 | .bool false,_,b=>some b
 | _,_,_=>none
def b2C (T:Tab) (t:Nat) (m:String):Option Nat:=match T t with
 | some i=>lkM i.ms m
 | none=>none
def a0R (T:Tab):D→Option D
 | .ptr o i f=>some (.ptr o i f)
 | .fptr cs=>some (.fptr cs)
 | .fn (.func f) a b=>some (.fn (.func f) a b)
 | .fn (.method m) [.iface t d] []=>match b2C T t m with
  | some _=>some (.fn (.method m) [.iface t d] [])
  | none=>none
 | .iface t d=>some (.iface t d)
 | _=>none
def a1o (op:BinOp) (k:IntKind) (a b:Int):Option D:=match op with
 | .add=>some (.int k (k.wrap (a+b)))
 | .sub=>some (.int k (k.wrap (a - b)))
 | .mul=>some (.int k (k.wrap (a*b)))
 | .quo=>if b=0 then none else some (.int k (k.wrap (a.tdiv b)))
 | .rem=>if b=0 then none else some (.int k (a.tmod b))
 | .and=>some (.int k (k.wrap (BitVec.ofInt k.bits a &&& BitVec.ofInt k.bits b).toNat))
 | .or=>some (.int k (k.wrap (BitVec.ofInt k.bits a ||| BitVec.ofInt k.bits b).toNat))
 | .xor=>some (.int k (k.wrap (BitVec.ofInt k.bits a ^^^ BitVec.ofInt k.bits b).toNat))
 | .andNot=>some (.int k (k.wrap (BitVec.ofInt k.bits a &&& ~~~(BitVec.ofInt k.bits b)).toNat))
 | .eql=>some (.bool (a==b))
 | .neq=>some (.bool (a != b))
 | .lss=>some (.bool (decide (a<b)))
 | .leq=>some (.bool (decide (a≤b)))
 | .gtr=>some (.bool (decide (a>b)))
 | .geq=>some (.bool (decide (a≥b)))
 | _=>none
def a4c (op:BinOp) (a b:List UInt8):Option D:=match op with
 | .add=>if a.length+b.length≤9223372036854775807 then some (.str (a++b)) else none
 | .eql=>some (.bool (a==b))
 | .neq=>some (.bool (!(a==b)))
 | .lss=>some (.bool (Op.bytesLess a b))
 | .leq=>some (.bool (Op.bytesLess a b||a==b))
 | .gtr=>some (.bool (!(Op.bytesLess a b||a==b)))
 | .geq=>some (.bool (!(Op.bytesLess a b)))
 | _=>none
def c8J:D→D→Option Bool
 | .bool a,.bool b=>some (a==b)
 | .int k a,.int k' b=>if k=k' then some (a==b) else none
 | .str a,.str b=>some (a==b)
 | _,_=>none
def b9p (T:Tab) (xs ys:List D):List (Nat × Nat × Nat)→Option Bool
 | []=>some true
 | (t,off,_)::r=>match b9p T xs ys r,T t with
  | some q,some i=>match i.td,xs[off]?,ys[off]? with
   | .bool,some (.bool a),some (.bool b)=>some (a==b&&q)
   | .int _,some (.int k a),some (.int k' b)=>if k=k' then some (a==b&&q) else none
   | .str,some (.str a),some (.str b)=>some (a==b&&q)
   | _,_,_=>none
  | _,_=>none
def b7S (T:Tab) (tx:Nat) (x y:D):Option Bool:=match T tx with
 | some i=>match i.td,x,y with
  | .bool,.bool a,.bool b=>some (a==b)
  | .st fs,.agg xs,.agg ys=>b9p T xs ys fs
  | .ptr _,.nilp,.nilp=>some true
  | .ptr _,.nilp,.ptr _ _ _=>some false
  | .ptr _,.nilp,.fptr _=>some false
  | .ptr _,.ptr _ _ _,.nilp=>some false
  | .ptr _,.fptr _,.nilp=>some false
  | .sl _,.nils,.nils=>some true
  | .sl _,.nils,.sl _ _ _=>some false
  | .sl _,.nils,.msl _ _ _ _=>some false
  | .sl _,.sl _ _ _,.nils=>some false
  | .sl _,.msl _ _ _ _,.nils=>some false
  | .fn,.nilf,.nilf=>some true
  | .fn,.nilf,.fn _ _ _=>some false
  | .fn,.fn _ _ _,.nilf=>some false
  | _,_,_=>none
 | none=>none
def a0f (T:Tab) (op:BinOp) (tx:Nat) (x y:D):Option D:=match x,y with
 | .int k a,.int k' b=>match op with
  | .shl=>if b<0 then none else some (.int k (k.wrap (a*2 ^ (min b.toNat k.bits))))
  | .shr=>if b<0 then none else some (.int k (a.fdiv (2 ^ (min b.toNat k.bits))))
  | op=>if k=k' then a1o op k a b else none
 | .str a,.str b=>a4c op a b
 | x,y=>match op with
  | .eql=>(b7S T tx x y).bind fun b=>some (.bool b)
  | .neq=>(b7S T tx x y).bind fun b=>some (.bool (!b))
  | _=>none
def dUn (op:UnOp) (x:D):Option D:=match op,x with
 | .not,.bool b=>some (.bool (!b))
 | .neg,.int k n=>some (.int k (k.wrap (0 - n)))
 | .xor,.int k n=>some (.int k (k.wrap (BitVec.ofInt k.bits (if k.signed then -1 else k.max) ^^^ BitVec.ofInt k.bits n).toNat))
 | _,_=>none
def a2e (T:Tab) (s t:Nat) (x:D):Option D:=match T s,T t with
 | some i,some j=>match j.td,x with
  | .int k,.int _ n=>some (.int k (k.wrap n))
  | .str,.str s=>match i.td with
   | .str=>some (.str s)
   | _=>none
  | _,_=>none
 | _,_=>none
def a9u (T:Tab) (t f:Nat):Option (Nat × TI):=match T t with
 | some i=>match i.td with
  | .st fs=>match fs[f]? with
   | some (u,off,_)=>match T u with
    | some j=>some (off,j)
    | none=>none
   | none=>none
  | _=>none
 | none=>none
def a0b (T:Tab) (t f:Nat) (x:D):Option D:=match a9u T t f with
 | some (off,j)=>match Nat.blt 0 j.sz,x with
  | true,.fptr cs=>match Nat.blt off cs.length with
   | true=>some (.fptr (cs.drop off))
   | false=>none
  | true,.ptr o i k=>some (.ptr o i (k+off))
  | _,_=>none
 | none=>none
def a6A (T:Tab) (t f:Nat) (x:D):Option D:=match a9u T t f with
 | some (off,j)=>match x with
  | .agg cs=>a7s j (cs.drop off)
  | _=>none
 | none=>none
def b0p (T:Tab) (t:Nat):Option (TI × Option Nat):=match T t with
 | some i=>match i.td with
  | .sl e=>match T e with
   | some j=>some (j,none)
   | none=>none
  | .arr n e=>match T e with
   | some j=>some (j,some n)
   | none=>none
  | _=>none
 | none=>none
def a0a (T:Tab) (t:Nat) (x y:D):Option D:=match b0p T t,y with
 | some (j,none),.int _ i=>match x with
  | .sl sz _ rows=>if sz=j.sz∧0≤i then match rows[i.toNat]? with
   | some row=>some (.fptr row)
   | none=>none
   else none
  | .msl sz o r n=>if sz=j.sz∧0≤i∧i<n then some (.ptr o (r+i.toNat) 0) else none
  | _=>none
 | some (j,some n),.int _ i=>if 0≤i∧i<n∧0<j.sz then match x with
  | .fptr cs=>if i.toNat*j.sz<cs.length then some (.fptr (cs.drop (i.toNat*j.sz))) else none
  | .ptr o k f=>some (.ptr o k (f+i.toNat*j.sz))
  | _=>none
  else none
 | _,_=>none
def a2N (T:Tab) (t:Nat) (x y:D):Option D:=match x,y with
 | .str s,.int _ i=>match T t with
  | some ti=>match ti.td with
   | .str=>if 0≤i then match s[i.toNat]? with
    | some c=>some (.int .u8 c.toNat)
    | none=>none
    else none
   | _=>none
  | none=>none
 | .agg cs,.int _ i=>match b0p T t with
  | some (j,some n)=>if 0≤i∧i<n then a7s j (cs.drop (i.toNat*j.sz)) else none
  | _=>none
 | _,_=>none
def a1t (T:Tab) (t:Nat) (x:D) (lo hi mx:Option Int):Option D:=match T t with
 | some ti=>match ti.td,x with
  | .str,.str s =>
   let h:=hi.getD s.length
   let l:=lo.getD 0
   if mx=none∧0≤l∧l≤h∧h≤s.length then some (.str ((s.take h.toNat).drop l.toNat)) else none
  | .sl e,x=>match T e with
   | some j=>match x with
    | .nils=>if lo.getD 0=0∧hi.getD 0=0∧mx.getD 0=0 then some .nils else none
    | .sl sz full rows =>
     let h:=hi.getD rows.length
     let l:=lo.getD 0
     if sz=j.sz∧0≤l∧l≤h then match mx with
      | none=>if h≤rows.length then some (.sl sz (full&&decide (h=rows.length)) ((rows.take h.toNat).drop l.toNat)) else none
      | some m=>if h≤m∧m≤rows.length then some (.sl sz (decide (h=m)) ((rows.take h.toNat).drop l.toNat)) else none
     else none
    | .msl sz o r n =>
     let h:=hi.getD n
     let l:=lo.getD 0
     if sz=j.sz∧0<j.sz∧0≤l∧l≤h∧h≤n then match mx with
      | none=>if l<h∨l=0 then some (.msl sz o (r+l.toNat) (h - l).toNat) else some (.sl sz false [])
      | some m=>if l=0∧h=0∧m=0 then some (.sl sz true []) else none
     else none
    | _=>none
   | none=>none
  | _,_=>none
 | none=>none
def a1S:D→Option Int
 | .int _ n=>some n
 | _=>none
def a0E (T:Tab) (t:Nat) (l h m:Bool) (ds:List D):Option D:=match l,h,m,ds with
 | false,false,false,[x]=>a1t T t x none none none
 | true,false,false,[x,a]=>(a1S a).bind fun a=>a1t T t x (some a) none none
 | false,true,false,[x,a]=>(a1S a).bind fun a=>a1t T t x none (some a) none
 | true,true,false,[x,a,b]=>(a1S a).bind fun a=>(a1S b).bind fun b=>a1t T t x (some a) (some b) none
 | false,true,true,[x,a,b]=>(a1S a).bind fun a=>(a1S b).bind fun b=>a1t T t x none (some a) (some b)
 | true,true,true,[x,a,b,c]=>(a1S a).bind fun a=>(a1S b).bind fun b=>(a1S c).bind fun c=>a1t T t x (some a) (some b) (some c)
 | _,_,_,_=>none
def a0r (i:Nat):D→Option D
 | .tup ds=>ds[i]?
 | _=>none
def a4t (fs:List (Nat × Nat × Nat)):List D→List Nat→List D→Option (List D)
 | cs,[],[]=>some cs
 | cs,i::is,d::ds=>match fs[i]? with
  | some (_,off,sz)=>match Nat.beq (a0A d).length sz&&Nat.ble (off+sz) cs.length&&d.okv with
   | true=>a4t fs (spl cs off (a0A d)) is ds
   | false=>none
  | none=>none
 | _,_,_=>none
def a0N (T:Tab) (t:Nat) (is:List Nat) (ds:List D):Option D:=match T t with
 | some i=>match i.td with
  | .st fs=>(a4t fs i.zero is ds).bind fun cs=>some (.agg cs)
  | .arr n e=>match T e with
   | some j=>(a4t ((List.range n).map fun k=>(e,k*j.sz,j.sz)) i.zero is ds).bind fun cs=>some (.agg cs)
   | none=>none
  | _=>none
 | none=>none
def a8m (sz:Nat):Nat→List Nat→List D→Option (List (List D))
 | _,[],[]=>some []
 | k,i::is,d::ds=>match Nat.beq i k&&Nat.beq (a0A d).length sz&&d.okv with
  | true=>match a8m sz (k+1) is ds with
   | some r=>some (a0A d::r)
   | none=>none
  | false=>none
 | _,_,_=>none
def a2d (T:Tab) (t n:Nat) (is:List Nat) (ds:List D):Option (Nat × Nat × List (List D)):=match T t with
 | some i=>match i.td with
  | .sl e=>match T e with
   | some j=>match Nat.blt 0 j.sz&&Nat.ble (n*j.sz) 16777216&&Nat.beq is.length n with
    | true=>match a8m j.sz 0 is ds with
     | some rows=>some (e,j.sz,rows)
     | none=>none
    | false=>none
   | none=>none
  | _=>none
 | none=>none
def b7T:D→Option D
 | .str s=>some (.int .i64 s.length)
 | .nils=>some (.int .i64 0)
 | .sl _ _ rows=>some (.int .i64 rows.length)
 | .msl _ _ _ n=>some (.int .i64 n)
 | _=>none
def c2k:D→Option D
 | .nils=>some (.int .i64 0)
 | .sl _ true rows=>some (.int .i64 rows.length)
 | _=>none
def a0B (T:Tab) (t:Nat) (x:D):Option D:=match T t with
 | some i=>match i.td,x with
  | .str,.str s=>b7T (.str s)
  | .sl _,.nils=>b7T .nils
  | .sl _,.sl a b c=>b7T (.sl a b c)
  | .sl _,.msl a b c d=>b7T (.msl a b c d)
  | _,_=>none
 | none=>none
def b9o (T:Tab) (t:Nat) (x:D):Option D:=match T t with
 | some i=>match i.td with
  | .sl _=>c2k x
  | _=>none
 | none=>none
def b5o:D→D→Option D
 | .int k a,.int _ b=>some (.int k (if b<a then b else a))
 | _,_=>none
def c2m:D→D→Option D
 | .int k a,.int _ b=>some (.int k (if b>a then b else a))
 | _,_=>none
def a2E (T:Tab) (op:Op) (ds:List D):Option D:=match op with
 | .move _ | .assign _=>match ds with | [d]=>some d | _=>none
 | .pick _ _ _=>match ds with | [c,a,b]=>a0K c a b | _=>none
 | .nilCheck _=>match ds with | [d]=>a0R T d | _=>none
 | .binOp op tx _ _ _=>match ds with | [x,y]=>a0f T op tx x y | _=>none
 | .unOp op _ _=>match ds with | [x]=>dUn op x | _=>none
 | .convert s t _=>match ds with | [x]=>a2e T s t x | _=>none
 | .makeFunc f a b=>some (.fn f (ds.take a.size) (ds.drop a.size))
 | .slice t _ l h m=>a0E T t l.isSome h.isSome m.isSome ds
 | .fieldAddr t _ f=>match ds with | [x]=>a0b T t f x | _=>none
 | .field t _ f=>match ds with | [x]=>a6A T t f x | _=>none
 | .indexAddr t _ _=>match ds with | [x,y]=>a0a T t x y | _=>none
 | .index t _ _=>match ds with | [x,y]=>a2N T t x y | _=>none
 | .extract _ i=>match ds with | [x]=>a0r i x | _=>none
 | .build t ps=>a0N T t (ps.toList.map (·.1)) ds
 | .makeInterface t _=>match ds,T t with
  | [x],some i=>(match i.td with
   | .ptr _=>some (.iface t x)
   | _=>none)
  | _,_=>none
 | .alloc e=>match T e with | some i=>some (.fptr i.zero) | none=>none
 | .box _ _=>match ds with | [x]=>if x.okv then some (.fptr (a0A x)) else none | _=>none
 | .buildSlice t n ps=>(a2d T t n (ps.toList.map (·.1)) ds).bind fun (_,sz,rows)=>some (.sl sz true rows)
 | .call c=>match c.callee with
  | .builtin .len=>match ds,c.argTypes[0]? with | [x],some t=>a0B T t x | _,_=>none
  | .builtin .cap=>match ds,c.argTypes[0]? with | [x],some t=>b9o T t x | _,_=>none
  | .builtin .min=>match ds with | [x,y]=>b5o x y | _=>none
  | .builtin .max=>match ds with | [x,y]=>c2m x y | _=>none
  | _=>none
 | _=>none
def Hp.row (h:Hp) (o i:Nat):Option (List D):=match h[o]? with
 | some (.row _ _ rows)=>rows[i]?
 | _=>none
def a0c (T:Tab) (h:Hp) (t:Nat) (p:D):Option D:=match T t with
 | some i=>match p with
  | .fptr cs=>a7s i cs
  | .ptr o k off=>match h.row o k with
   | some row=>a7s i (row.drop off)
   | none=>none
  | _=>none
 | none=>none
def a1b (h:Hp) (sz:Nat):D→Option (List (List D))
 | .nils=>some []
 | .sl z _ rows=>if z=sz then some rows else none
 | .msl z o r n=>if z=sz then match h[o]? with
  | some (.row _ _ rows)=>some ((rows.drop r).take n)
  | _=>none
  else none
 | _=>none
def a4k:List (List D)→Option (List UInt8)
 | []=>some []
 | [.int .u8 n]::r=>match a4k r with
  | some s=>some (UInt8.ofNat n.toNat::s)
  | none=>none
 | _=>none
def a3u (h:Hp) (x:D):Option D:=match a1b h 1 x with
 | some rows=>match a4k rows with
  | some s=>some (.str s)
  | none=>none
 | none=>none
def a2Z (T:Tab) (h:Hp) (op:Op) (ds:List D):Option D:=match op with
 | .load t _=>match ds with | [p]=>a0c T h t p | _=>none
 | .convert s t _=>match T s,T t with
  | some i,some j=>match i.td,j.td with
   | .sl e,.str=>match T e with
    | some k=>match k.td with
     | .int .u8=>match ds with | [x]=>a3u h x | _=>none
     | _=>none
    | none=>none
   | _,_=>none
  | _,_=>none
 | _=>none
def a1h (h:Hp) (T sz:Nat) (rows:List (List D)):Hp:=h++[.row T sz rows]
def a0p (T:Tab) (h:Hp) (t:Nat) (p v:D):Option Hp:=match T t,p with
 | some i,.ptr o k off=>match h[o]? with
  | some (.row U sz rows)=>match rows[k]? with
   | some row=>match Nat.beq (a0A v).length i.sz&&Nat.ble (off+i.sz) row.length&&v.okv with
    | true=>some (h.set o (.row U sz (rows.set k (spl row off (a0A v)))))
    | false=>none
   | none=>none
  | _=>none
 | _,_=>none
def a1E (s:List UInt8):List (List D):=s.map fun c=>[.int .u8 c.toNat]
def lim (n by_:Nat):Bool:=Nat.ble (n*by_) 140737488355328&&Nat.ble n 9223372036854775807
def b5p (h:Hp) (u j:TI) (y:D):Option (List (List D)):=match u.td with
 | .str=>match j.td,y with
  | .int .u8,.str s=>if j.sz=1 then some (a1E s) else none
  | _,_=>none
 | .sl _=>a1b h j.sz y
 | .int _=>match y with
  | .int .i64 n=>if 0≤n∧lim n.toNat j.by_=true then some (List.replicate n.toNat j.zero) else none
  | _=>none
 | _=>none
def a0D (T:Tab) (h:Hp) (t u:Nat) (x y:D):Option (D × Hp):=match T t,T u with
 | some i, some iu=>match i.td with
  | .sl e => match T e with
   | some j=>match Nat.blt 0 j.sz,b5p h iu j y with
    | true,some []=>match x with
     | .nils=>some (.nils,h)
     | .sl a b c=>some (.sl a b c,h)
     | .msl a b c f=>some (.msl a b c f,h)
     | _=>none
    | true, some ys=>match x with
     | .nils=>if lim ys.length j.by_=true then some (.msl j.sz h.length 0 ys.length,a1h h e j.sz ys) else none
     | .sl sz true rows=>if sz=j.sz∧lim (rows.length+ys.length) j.by_=true then some (.msl j.sz h.length 0 (rows.length+ys.length),a1h h e j.sz (rows++ys)) else none
     | .msl sz o 0 n=>match h[o]? with
      | some (.row U z rows)=>if sz=j.sz∧z=sz∧U=e∧n≤rows.length∧lim (n+ys.length) j.by_=true then
        (if n=rows.length then some (.msl j.sz h.length 0 (n+ys.length),a1h (h.set o .dead) e j.sz (rows++ys))
        else if n+ys.length≤rows.length then some (.msl sz o 0 (n+ys.length),h.set o (.row U z (rows.take n++ys++rows.drop (n+ys.length)))) else none)
       else none
      | _=>none
     | _=>none
    | _,_=>none
   | none=>none
  | _=>none
 | _,_=>none
def b5F (i:TI):Bool:=match i.td with
 | .int _=>false
 | _=>true
def b6p (T:Tab) (h:Hp) (t u:Nat) (x y:D):Option (D × Hp):=match T t,T u with
 | some i, some iu=>match i.td,b5F iu with
  | .sl e,true=>match T e with
   | some j=>match Nat.blt 0 j.sz,b5p h iu j y with
    | true,some ys=>match x with
     | .nils=>some (.int .i64 0,h)
     | .msl sz o r n=>match h[o]? with
      | some (.row U z rows)=>if sz=j.sz∧z=sz then some (.int .i64 (min ys.length n:Nat),h.set o (.row U z (rows.take r++ys.take n++rows.drop (r+min ys.length n)))) else none
      | _=>none
     | _=>none
    | _,_=>none
   | none=>none
  | _,_=>none
 | _,_=>none
def b6q (T:Tab) (h:Hp) (t:Nat) (n c:D):Option (D × Hp):=match T t,n,c with
 | some i,.int .i64 n,.int .i64 c=>match i.td with
  | .sl e=>match T e with
   | some j=>if 0≤n∧n≤c∧lim c.toNat j.by_=true∧0<j.sz then some (.msl j.sz h.length 0 n.toNat,a1h h e j.sz (List.replicate n.toNat j.zero)) else none
   | none=>none
  | _=>none
 | _,_,_=>none
def b1h (T:Tab) (h:Hp) (t:Nat) (x:D):Option (D × Hp):=match T t with
 | some i=>match i.td with
  | .sl e=>match T e with
   | some j=>match Nat.blt 0 j.sz,x with
    | true,.nils=>some (.tup [],h)
    | true,.sl _ _ []=>some (.tup [],h)
    | true,.msl _ _ _ 0=>some (.tup [],h)
    | true,.msl sz o r n=>match h[o]? with
     | some (.row U z rows)=>if sz=j.sz∧z=sz then some (.tup [],h.set o (.row U z (rows.take r++List.replicate n j.zero++rows.drop (r+n)))) else none
     | _=>none
    | _,_=>none
   | none=>none
  | _=>none
 | none=>none
def c2l (T:Tab) (h:Hp) (t:Nat) (l hh:Bool) (ds:List D):Option (D × Hp):=match a0E T t l hh true ds with
 | some d=>some (d,h)
 | none=>match l,hh,ds with
  | false,true,[.msl sz o 0 n,.int _ a,.int _ b]=>match h[o]?,T t with
   | some (.row U z rows),some i=>match i.td with
    | .sl e=>match T e with
     | some j=>if sz=j.sz∧z=sz∧a=b∧0≤a∧a≤n∧n≤rows.length then some (.sl sz true (rows.take a.toNat),h.set o .dead) else none
     | none=>none
    | _=>none
   | _,_=>none
  | _,_,_=>none
def b6r (T:Tab) (h:Hp) (s t:Nat) (x:D):Option (D × Hp):=match T t with
 | some j=>match j.td,x with
  | .sl e,.msl 1 o r n=>match T e,h[o]? with
   | some k,some (.row _ 1 _)=>match k.td with
    | .int .u8=>if s=t then some (.msl 1 o r n,h) else none
    | _=>none
   | _,_=>none
  | _,_=>none
 | none=>none
def a3i (T:Tab) (h:Hp) (op:Op) (ds:List D):Option (D × Hp):=match op with
 | .store t _ _=>match ds with | [p,v]=>(a0p T h t p v).bind fun h'=>some (.und,h') | _=>none
 | .alloc e=>match T e with | some i=>if 0<i.sz then some (.ptr h.length 0 0,a1h h e i.sz [i.zero]) else none | none=>none
 | .box e _=>match T e,ds with | some i,[x]=>if x.okv=true∧(a0A x).length=i.sz∧0<i.sz then some (.ptr h.length 0 0,a1h h e i.sz [a0A x]) else none | _,_=>none
 | .buildSlice t n ps=>(a2d T t n (ps.toList.map (·.1)) ds).bind fun (e,sz,rows)=>some (.msl sz h.length 0 rows.length,a1h h e sz rows)
 | .makeSlice t _ _=>match ds with | [n,c]=>b6q T h t n c | _=>none
 | .slice t _ lo hi (some _)=>c2l T h t lo.isSome hi.isSome ds
 | .convert s t _=>match T s,T t,ds with
  | some i,some j,[x]=>match i.td,j.td with
   | .str,.sl e=>match T e with
    | some k=>match k.td with
     | .int .u8=>match x with
      | .str s=>if lim s.length 1=true then some (.msl 1 h.length 0 s.length,a1h h e 1 (a1E s)) else none
      | _=>none
     | _=>none
    | none=>none
   | .sl _,.sl _=>b6r T h s t x
   | _,_=>none
  | _,_,_=>none
 | .call c=>match c.callee with
  | .builtin .append=>match ds,c.argTypes.toList with | [x,y],[t,u]=>a0D T h t u x y | _,_=>none
  | .builtin .copy=>match ds,c.argTypes.toList with | [x,y],[t,u]=>b6p T h t u x y | _,_=>none
  | .builtin .clear=>match ds,c.argTypes.toList with | [x],[t]=>b1h T h t x | _,_=>none
  | _=>none
 | _=>none
def b2q (T:Tab) (op:Op):Option D:=match op with
 | .alloc e=>match T e with
  | some i=>match Nat.blt 0 i.sz with
   | true=>some .any
   | false=>none
  | none=>none
 | _=>none
inductive Kind where
 | pure | read | write | call | limbo
def a0W (T:Tab) (fz:List Nat) (o:Oper):Kind:=match o.op with
 | .load _ _ => .read
 | .convert s t _=>match T s,T t with
  | some i,some j=>match i.td,j.td with
   | .sl _,.str => .read
   | .str,.sl _ => .write
   | .sl _,.sl _ => .write
   | _,_ => .pure
  | _,_ => .pure
 | .store _ _ _ | .makeSlice _ _ _ => .write
 | .slice _ _ _ _ (some _)=>match o.dst with
  | some d=>if fz.any (Nat.beq d) then .pure else .write
  | none => .write
 | .alloc _=>match o.dst with
  | some d=>if fz.any (Nat.beq d) then .pure else if fz.any (Nat.beq (d+1000000)) then .limbo else .write
  | none => .write
 | .box _ _ | .buildSlice _ _ _=>match o.dst with
  | some d=>if fz.any (Nat.beq d) then .pure else .write
  | none => .write
 | .call c=>match c.callee with
  | .builtin .append | .builtin .copy | .builtin .clear => .write
  | .builtin _ => .pure
  | _ => .call
 | _ => .pure
end Go.Pi

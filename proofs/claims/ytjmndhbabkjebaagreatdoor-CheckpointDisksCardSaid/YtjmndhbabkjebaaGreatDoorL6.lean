/- Laws, on plain data, about functions that the statement reaches. -/
import Derived.Test.YtjmndhbabkjebaaGreatDoorL5
set_option linter.unusedSimpArgs false
set_option linter.unusedVariables false
set_option linter.unnecessarySimpa false
set_option maxRecDepth 100000
namespace Go.Proofs.YtjmndhbabkjebaaGreatDoor
open Go.Eng Go.Pi
open Option (bind_some)
theorem d3f (j:List Int) (n:Int) (ms:List FM) (its:List It) (dj dm dq:D) (h:Hp) (hj:SlOf 1 byr j dj) (hjl:j.length≤1000000000) (hm:SlOf 2 mkr ms dm) (hq:SlOf 11 itr its dq) (hl:ms.length≤1000000) (hT:(its.map a2M).flatten.length≤700000000) (hb:∀ i∈its,(a1t i).length≤800000000) (hck:∀ i∈its,∀ g,R a5C [.agg (itr i)] g=some (.int .i64 (itE i),g)) :
  ∃ d',R b1l [dj,.agg (svr n dm dq)] h=some (.tup [d',.int .i64 (stE n ms its)],h)∧SlOf 1 byr (if stE n ms its=0 then j++b0y n ms its else []) d':=by
 obtain ⟨d1,e1,h1⟩:=d3e n ms its dm dq h hm hq (by omega) hT hb hck
 have hel:=a5n n ms its
 rw [d0N]
 simp only [c6e,a1G,bs,svl,e1,a0E,d6Z,d7a,a0w]
 by_cases hc:stE n ms its=0
 case neg =>
  have hcc:decide (stE n ms its≠0)=true:=decide_eq_true hc
  refine ⟨.nils,?_,by rw [if_neg hc];exact .nils _ _⟩
  simp only [hcc,a0c,if_true,a0Z]
  exact a1a (by simp) (.tup _ fun d hd=>by simp at hd;rcases hd with rfl | rfl <;> constructor) (Nat.le_refl _) fun _ _=>rfl
 have hcc:decide (stE n ms its≠0)=false:=decide_eq_false (by rw [hc];simp [-bind_some])
 rw [if_pos hc] at h1 ⊢
 rw [hc] at hcc ⊢
 suffices Wp ((a0B tab h a0J a0J .nils dj).bind fun p17=>(a0B tab p17.2 a0J a0J p17.1 d1).bind fun p19=>scope h p19.2 (a0l [p19.1,.int .i64 0])) (fun p=>p.2=h∧∃ d',p.1 = .tup [d',.int .i64 0]∧SlOf 1 byr (j++b0y n ms its) d') by
  obtain ⟨⟨x,h'⟩,h1,rfl,d',rfl,h2⟩:=this
  refine ⟨d',?_,h2⟩
  simp only [hcc,a0c,d6X,if_false]
  exact h1
 refine b1V (n0:=h.length) (rows:=[]) (Nat.le_refl _) (.nils _ _ _ _) (a3k _ hj) (by simp only [d7c,d7p];omega) fun x4 g4 o4 l4 k4 _ _=>?_
 rw [List.nil_append] at o4
 simp only [bs]
 refine b1V (n0:=h.length) l4 o4 (a3k _ h1) (by simp only [d7c];omega) fun x5 g5 o5 l5 k5 _ _=>?_
 rw [← d7d] at o5
 simp only [bs,a0Z]
 have hso:=a2w (n0:=h.length) (n:=2) o5 (Nat.le_refl _) (fun a _=>a4i _ g5 2 a)
 rw [a1a (d' := .tup [frz h.length g5 3 x5,.int .i64 0]) (by simp) (by
  refine .tup _ fun d hd=>?_
  simp at hd
  rcases hd with rfl | rfl
  ·exact a1q hso fun a _=>a6b _ a
  ·constructor) (by omega) (fun q hq=>by rw [k5 q hq,k4 q hq])]
 exact .some ⟨rfl,_,rfl,hso⟩
theorem d3h (l:List Int) (da db:D) (h:Hp) (ha:SlOf 1 rkr l da) (hb:SlOf 1 rkr l db) (hl:l.length≤9000000000000000000):R b1m [da,db] h=some (.bool true,h):=by
 apply Wp.val
 rw [d0Q]
 simp only [c6h,bs,a0w,ne_eq,not_true,decide_false,d6X,if_false,a4C ha,a4C hb,a0c,d6W]
 refine Wp.loop (fun n ds g=>g=h∧∃ x y z,∃ i:Nat,ds=[x,.int .i64 i,y,z]∧n+i=l.length)
  (fun r=>r.1 = .ext 0∧r.2.2=h) l.length ⟨rfl,_,_,_,0,rfl,rfl⟩ ?_ ?_
 ·rintro n ds g ⟨rfl,x,y,z,i,rfl,hi⟩
  simp only [b3x,a0f,a0o,bs,d6W,a4C ha,a0k]
  refine Wp.dif ?_ ?_
  ·intro h0
   have h0:i<l.length:=dl_ h0
   have hg:l[i]?=some l[i]:=d7m h0
   generalize l[i]=u at hg
   have ia:a0d tab a3a da (.int .i64 i)=some (.fptr (rkr u)):=by rw [a8a ha];simp [-bind_some, hg]
   have ib:a0d tab a3a db (.int .i64 i)=some (.fptr (rkr u)):=by rw [a8a hb];simp [-bind_some, hg]
   have hw:=wi_ i (by omega)
   simp only [ia,ib,a7i,a0w,ne_eq,not_true,decide_false,bs,a0c,d6X,if_false,a0t,hw]
   exact .some (.inl ⟨rfl,n - 1,by omega,rfl,_,_,_,i+1,rfl,by omega⟩)
  ·intro _
   exact .some (.inr ⟨by simp,rfl,rfl⟩)
 ·rintro ⟨ex,ds,g⟩ ⟨q1,q2⟩
  simp only at q1 q2
  subst q1;subst q2
  simp only [a0s,a0r,bs,a0i]
  exact .some rfl
noncomputable def enN (l:List Int):List Int:=(a8E (l.length+1) l 0).map (·.2)
theorem b4W:∀ (f:Nat) (l:List Int) (a:Int),12*(a8E f l a).length≤l.length
 | 0,l,a=>by simp [-bind_some, a8E]
 | f+1,l,a=>by
  unfold a8E
  by_cases h:(a2d l).1=0
  ·obtain ⟨z1,z2⟩:=a6f h
   have:=b4W f (l.drop (a2d l).2.1.toNat) (a+(a2d l).2.1)
   rw [if_pos h]
   simp only [d7o,d7q] at this ⊢
   omega
  ·rw [if_neg h];simp [-bind_some]
theorem c3W (l:List Int) (d:D) (h:Hp) (hd:SlOf 1 byr l d) (hl:l.length≤600000000) (hu:∀ z∈l,U8 z):∃ x,R a7g [d] h=some (x,h)∧SlOf 1 rkr (enN l) x:=by
 suffices Wp (R a7g [d] h) (fun p=>p.2=h∧SlOf 1 rkr (enN l) p.1) by
  obtain ⟨⟨x,h'⟩,h1,rfl,h2⟩:=this
  exact ⟨x,h1,h2⟩
 rw [d0P]
 simp only [c6g,bs,d6W]
 refine Wp.loop (fun k ds g=>∃ out a3 a4 a5 a6,∃ at_:Nat,∃ E:List Int,ds=[.nils,out,.int .i64 at_,a3,a4,a5,a6]∧at_≤l.length∧k=l.length - at_∧h.length≤g.length∧(∀ q,q<h.length→g[q]?=h[q]?)∧Own g h.length ty3 1 (E.map rkr) out∧12*E.length≤at_∧∃ f,l.length - at_<f∧E++(a8E f (l.drop at_) at_).map (·.2)=enN l)
  (fun r=>h.length≤r.2.2.length∧(∀ q,q<h.length→r.2.2[q]?=h[q]?)∧∃ out,Own r.2.2 h.length ty3 1 ((enN l).map rkr) out∧((r.1 = .ext 0∧nth 1 r.2.1=out)∨(r.1 = .ret∧nth 0 r.2.1=out))) l.length ⟨.nils,_,_,_,_,0,[],rfl,by omega,by omega,Nat.le_refl _,fun _ _=>rfl,.nils _ _ _ _,by simp,l.length+1,by omega,rfl⟩ ?_ ?_
 ·rintro k ds g ⟨out,a3,a4,a5,a6,at_,E,rfl,ha,rfl,hg,lo,ow,hE,f,hf,hrec⟩
  simp only [b3w,a0f,a0o,bs,d6W,a1P hd,a0k]
  obtain ⟨f',rfl⟩:∃ f',f=f'+1:=⟨f - 1,by omega⟩
  by_cases h0:at_<l.length
  ·have h0':decide ((at_:Int)<(l.length:Int))=true:=decide_eq_true (by omega)
   obtain ⟨dl,el,sl⟩:=b6e hd (k := .i64) (n:=(at_:Int)) (by omega) (by omega)
   rw [d7g] at sl
   obtain ⟨dm,dq,its,e51,om,oq,oe⟩:=c8d (l.drop at_) dl g sl (by simp;omega) (fun z hz=>hu z (List.mem_of_mem_drop hz))
   have bxA:a3o 3 (.agg (svr (a2d (l.drop at_)).2.2.1 dm dq))=some (.fptr (svr (a2d (l.drop at_)).2.2.1 dm dq)):=a1Q 3 _ rfl
   simp only [h0',a0c,if_true,el,e51,bs,a0E,d6Z,d7a,bxA,a0w]
   unfold a8E at hrec
   by_cases hz:(a2d (l.drop at_)).1=0
   ·obtain ⟨z1,z2⟩:=a6f hz
    rw [d7q] at z2
    have hz':decide ((a2d (l.drop at_)).1≠0)=false:=decide_eq_false (by rw [hz];simp [-bind_some])
    rw [if_pos hz] at hrec
    have hw:IntKind.wrap .i64 ((at_:Int)+(a2d (l.drop at_)).2.1)=((at_+(a2d (l.drop at_)).2.1.toNat:Nat):Int):=by rw [wrap_i64 (by omega) (by omega)];omega
    simp only [hz',a0c,d6X,if_false,a0t,hw,bs,c1o]
    refine c8q (ys:=[rkr ((at_+(a2d (l.drop at_)).2.1.toNat:Nat):Int)]) (n0:=h.length) hg ow (a1l _ _ _ _) (by simp;omega) fun out' g' ow' l' k' _ _=>?_
    simp only [bs]
    refine .some (.inl ⟨rfl,l.length - (at_+(a2d (l.drop at_)).2.1.toNat),by omega,out',_,_,_,_,at_+(a2d (l.drop at_)).2.1.toNat,E++[((at_+(a2d (l.drop at_)).2.1.toNat:Nat):Int)],rfl,by omega,rfl,Nat.le_trans hg l',fun q hq=>by rw [k' q hq];exact lo q hq,by rw [d7d];exact ow',by simp;omega,f',by omega,?_⟩)
    rw [← hrec,List.drop_drop]
    have:(at_:Int)+(a2d (l.drop at_)).2.1=((at_+(a2d (l.drop at_)).2.1.toNat:Nat):Int):=by omega
    rw [this]
    simp [-bind_some]
   ·have hz':decide ((a2d (l.drop at_)).1≠0)=true:=decide_eq_true hz
    rw [if_neg hz] at hrec
    simp only [d7f,List.append_nil] at hrec
    simp only [hz',a0c,if_true]
    exact .some (.inr ⟨by simp,hg,lo,out,by rw [← hrec];exact ow,.inr ⟨rfl,rfl⟩⟩)
  ·have h0':decide ((at_:Int)<(l.length:Int))=false:=decide_eq_false (by omega)
   have hdr:l.drop at_=[]:=List.drop_of_length_le (by omega)
   rw [hdr] at hrec
   unfold a8E at hrec
   rw [if_neg (by rw [b3R];decide)] at hrec
   simp only [d7f,List.append_nil] at hrec
   simp only [h0',a0c,d6X,if_false]
   exact .some (.inr ⟨by simp,hg,lo,out,by rw [← hrec];exact ow,.inl ⟨rfl,rfl⟩⟩)
 ·rintro ⟨ex,ds,g⟩ ⟨hg,lo,out,ow,hc⟩
  simp only at hg lo ow
  have hso:=a2w (n0:=h.length) (n:=3) ow (Nat.le_refl _) (fun a _=>b8K _ g 3 a)
  have hsc:scope h g out=some (frz h.length g 4 out,h):=a1a rfl (a1q hso fun a _ d hd=>by
   simp only [rkr,List.mem_singleton] at hd
   subst hd
   exact .int _ _) hg lo
  rcases hc with ⟨rfl,h1⟩ | ⟨rfl,h1⟩
  ·simp only at h1
   simp only [a0s,a0r,bs,a0f,a0o,h1,a0i,hsc]
   exact .some ⟨rfl,hso⟩
  ·simp only at h1
   simp only [a1K,a1J,a1E,bs,a0f,a0o,h1,a0i,hsc]
   exact .some ⟨rfl,hso⟩
noncomputable def rN (l:List Int):List ((Int × List FM × List RI) × Int):=a8E (l.length+1) l 0
theorem b3T (l:List Int):enN l=(rN l).map (·.2):=rfl
def laN (xs:List ((Int × List FM × List RI) × Int)):(Int × List FM × List RI) × Int:=xs.getLast?.getD ((0,[],[]),0)
theorem a9f:∀ {rs:List (List D × Int)} {xs:List ((Int × List FM × List RI) × Int)},RecsOf rs xs→(rs=[]∧xs=[])∨∃ r x,rs.getLast?=some r∧xs.getLast?=some x∧c6l r x
 | _,_,.nil => .inl ⟨rfl,rfl⟩
 | _,_,.cons (r:=r) (x:=x) (rs:=rs) (xs:=xs) a b=>by
  right
  rcases a9f b with ⟨rfl,rfl⟩ | ⟨r',x',h1,h2,h3⟩
  ·exact ⟨r,x,rfl,rfl,a⟩
  ·refine ⟨r',x',?_,?_,h3⟩
   ·cases rs with
    | nil=>simp at h1
    | cons y u=>rw [List.getLast?_cons_cons,h1]
   ·cases xs with
    | nil=>simp at h2
    | cons y u=>rw [List.getLast?_cons_cons,h2]
theorem a9e:∀ {rs:List (List D × Int)} {xs:List ((Int × List FM × List RI) × Int)},RecsOf rs xs→rs.map (fun r=>[D.int .i64 r.2])=(xs.map (·.2)).map rkr
 | _,_,.nil=>rfl
 | _,_,.cons a b=>by
  obtain ⟨dm,dq,its,rfl,w⟩:=a
  simp only [d7e,a9e b]
  rfl
theorem d3E (l:List Int) (d:D) (h:Hp) (hd:SlOf 1 byr l d) (hl:l.length≤600000000) (hu:∀ z∈l,U8 z) :
  ∃ dm dq its,R1 a7d [d] h=some (.tup [.agg (svr (laN (rN l)).1.1 dm dq),.int .i64 (laN (rN l)).2],h)∧SlOf 2 mkr (laN (rN l)).1.2.1 dm∧SlOf 11 itr its dq∧its.map a1Y=(laN (rN l)).1.2.2:=by
 obtain ⟨rs,e,hrs⟩:=a9R hd (by omega) hu
 rw [c8u,b6I,e]
 simp only [bs]
 have hrs:RecsOf rs (rN l):=hrs
 rcases a9f hrs with ⟨h1,h2⟩ | ⟨r,x,h1,h2,dm,dq,its,rfl,h3⟩
 ·rw [h1,h2]
  exact ⟨.nils,.nils,[],rfl,.nils _ _,.nils _ _,rfl⟩
 ·refine ⟨dm,dq,its,?_,?_⟩
  ·unfold b1w laN
   rw [h1,h2]
   rfl
  ·unfold laN
   rw [h2]
   exact h3
theorem c8t (l:List Int) (d:D) (h:Hp) (hd:SlOf 1 byr l d) (hl:l.length≤600000000) (hu:∀ z∈l,U8 z) :
  ∃ x,R1 a7W [d] h=some (x,h)∧SlOf 1 rkr (enN l) x:=by
 obtain ⟨rs,e,hrs⟩:=a9R hd (by omega) hu
 have hrs:RecsOf rs (rN l):=hrs
 rw [d3G,b9W,e]
 simp only [bs]
 refine ⟨_,rfl,?_⟩
 have h2:=a9e hrs
 rw [← b3T] at h2
 by_cases hz:rs=[]
 ·rw [if_pos hz]
  rw [hz] at h2
  have h0:enN l=[]:=by simpa using h2.symm
  rw [h0]
  exact .nils _ _
 ·rw [if_neg hz,h2]
  exact .mk _ _ _ _
theorem b8E (l:List Int):∀ (f a k:Nat) (x:(Int × List FM × List RI) × Int),a≤l.length→(a8E f (l.drop a) a)[k]?=some x→∃ b:Nat,(if k=0 then (a:Int) else (((a8E f (l.drop a) a)[k - 1]?).map (·.2)).getD 0)=b∧b≤l.length∧(a2d (l.drop b)).2.2=x.1∧(b:Int)≤x.2∧x.2≤l.length∧(a:Int)≤x.2
 | 0,a,k,x,ha,h=>by simp [-bind_some, a8E] at h
 | f+1,a,k,x,ha,h=>by
  unfold a8E at h ⊢
  by_cases hz:(a2d (l.drop a)).1=0
  ·obtain ⟨z1,z2⟩:=a6f hz
   rw [d7q] at z2
   rw [if_pos hz] at h ⊢
   cases k with
   | zero =>
    simp only [d6Z,Option.some.injEq] at h
    subst h
    exact ⟨a,rfl,ha,rfl,by simp only;omega,by simp only;omega,by simp only;omega⟩
   | succ k =>
    rw [d7a,List.drop_drop] at h
    have e1:(a:Int)+(a2d (l.drop a)).2.1=((a+(a2d (l.drop a)).2.1.toNat:Nat):Int):=by omega
    rw [e1] at h
    obtain ⟨b,h1,h2,h3,h4,h5,h6⟩:=b8E l f (a+(a2d (l.drop a)).2.1.toNat) k x (by omega) h
    refine ⟨b,?_,h2,h3,h4,h5,by omega⟩
    rw [if_neg (by omega),Nat.add_sub_cancel,e1,List.drop_drop]
    cases k with
    | zero =>
     rw [if_pos rfl] at h1
     rw [d6Z]
     exact h1
    | succ k =>
     rw [if_neg (by omega),Nat.add_sub_cancel] at h1
     rw [d7a]
     exact h1
  ·rw [if_neg hz] at h
   simp at h
theorem c3N {l:List Int} {k:Nat} {x:(Int × List FM × List RI) × Int} (h:(rN l)[k]?=some x):∃ b:Nat,(if k=0 then (0:Int) else ((enN l)[k - 1]?).getD 0)=b∧b≤l.length∧(a2d (l.drop b)).2.2=x.1∧(b:Int)≤x.2∧x.2≤l.length∧0≤x.2:=by
 have h0:(a8E (l.length+1) (l.drop 0) ((0:Nat):Int))[k]?=some x:=h
 obtain ⟨b,h1,h2⟩:=b8E l (l.length+1) 0 k x (by omega) h0
 refine ⟨b,?_,h2⟩
 rw [← h1]
 by_cases hk:k=0
 ·rw [if_pos hk,if_pos hk];rfl
 ·rw [if_neg hk,if_neg hk,b3T,d7k]
  rfl
theorem b4U (l:List Int):12*(rN l).length≤l.length:=b4W _ _ _
theorem a7P (l:List Int):(enN l).length=(rN l).length:=by rw [b3T];simp [-bind_some]
theorem b6U (l:List Int) (k:Nat):(enN l)[k]?=((rN l)[k]?).map (·.2):=by rw [b3T,d7k]
theorem d3g (l:List Int) (d:D) (h:Hp) (hd:SlOf 1 byr l d) (hl:l.length≤600000000) (hu:∀ z∈l,U8 z) :
  ∃ dm dq its,R a8W [d] h=some (.tup [.agg (svr (laN (rN l)).1.1 dm dq),.int .i64 (laN (rN l)).2],h)∧SlOf 2 mkr (laN (rN l)).1.2.1 dm∧SlOf 11 itr its dq∧its.map a1Y=(laN (rN l)).1.2.2:=by
 suffices Wp (R a8W [d] h) (fun p=>∃ dm dq its,p=(.tup [.agg (svr (laN (rN l)).1.1 dm dq),.int .i64 (laN (rN l)).2],h)∧SlOf 2 mkr (laN (rN l)).1.2.1 dm∧SlOf 11 itr its dq∧its.map a1Y=(laN (rN l)).1.2.2) by
  obtain ⟨p,h1,dm,dq,its,rfl,h2⟩:=this
  exact ⟨dm,dq,its,h1,h2⟩
 have r0:(a0I h a0g 3 [[.int .i64 0,.nils,.nils]])[h.length]?=some (.row a0g 3 [svr 0 .nils .nils]):=a1h _ _ _ _
 have l0:(a0I h a0g 3 [[.int .i64 0,.nils,.nils]]).length=h.length+1:=a2D _ _ _ _
 have k0:∀ q,q<h.length→(a0I h a0g 3 [[.int .i64 0,.nils,.nils]])[q]?=h[q]?:=fun q hq=>a0Y _ _ _ _ hq
 rw [d0O]
 simp only [c6f,bs,d6W,b2b]
 generalize a0I h a0g 3 [[.int .i64 0,.nils,.nils]]=g0 at *
 obtain ⟨x,ex,hx⟩:=c3W l d g0 hd hl hu
 have hlen:=a7P l
 have hrl:=b4U l
 have fin:∀ (a e:Int) (ms:List FM) (dm dq:D) (its:List It),SlOf 2 mkr ms dm→SlOf 11 itr its dq→laN (rN l)=((a,ms,its.map a1Y),e)→Wp ((a0h tab g0 a0g (.ptr h.length 0 0) (.agg (svr a dm dq))).bind fun h'=>(a0b tab h' a0g (.ptr h.length 0 0)).bind fun d0=>scope h h' (a0l [d0,.int .i64 e])) (fun p=>∃ dm dq its,p=(.tup [.agg (svr (laN (rN l)).1.1 dm dq),.int .i64 (laN (rN l)).2],h)∧SlOf 2 mkr (laN (rN l)).1.2.1 dm∧SlOf 11 itr its dq∧its.map a1Y=(laN (rN l)).1.2.2):=by
  intro a e ms dm dq its om oq hla
  refine a4v (kk:=0) (off:=0) (row:=svr 0 .nils .nils) (v := .agg (svr a dm dq)) r0 (by rfl) (by rfl) (by exact Nat.le_refl _) (by rcases om with ⟨rfl,_⟩ | ⟨_,rfl⟩ <;> rcases oq with ⟨rfl,_⟩ | ⟨_,rfl⟩ <;> rfl) fun g9 p9 s9=>?_
  have p9:g9[h.length]?=some (.row a0g 3 [svr a dm dq]):=p9
  have ld9:a0b tab g9 a0g (.ptr h.length 0 0)=some (.agg (svr a dm dq)):=by rw [a3C,a0O p9];rfl
  have fM:frz h.length g9 2 dm=dm:=a2F (n:=1) om fun a _=>a6Q _ g9 1 a
  have fQ:frz h.length g9 2 dq=dq:=a2F (n:=1) oq fun a _=>a4V _ g9 0 a
  simp only [ld9,bs,a0Z]
  rw [a1a (d' := .tup [.agg (svr a dm dq),.int .i64 e]) (by
   show D.tup [D.agg [_,frz h.length g9 2 dm,frz h.length g9 2 dq],_]=_
   rw [fM,fQ];rfl) (by
   refine .tup _ fun d hd=>?_
   simp at hd
   rcases hd with rfl | rfl
   ·refine .agg _ fun d hd=>?_
    simp [-bind_some, svr] at hd
    rcases hd with rfl | rfl | rfl
    ·constructor
    ·exact a1q om fun a _=>a9c _ a
    ·exact a1q oq fun a _=>a6M _ a
   ·constructor) (by rw [s9.1];omega) (fun q hq=>by rw [s9.2 q (by omega)];exact k0 q hq)]
  rw [hla]
  exact .some ⟨dm,dq,its,rfl,om,oq,rfl⟩
 simp only [ex,bs,a4C hx,a0S,a0u]
 by_cases h0:(enN l).length=0
 ·have h0':decide (((enN l).length:Int)=0)=true:=decide_eq_true (by omega)
  have hnil:rN l=[]:=List.eq_nil_of_length_eq_zero (by omega)
  simp only [h0',a0c,if_true]
  exact fin 0 0 [] .nils .nils [] (.nils _ _) (.nils _ _) (by rw [hnil];rfl)
 have h0':decide (((enN l).length:Int)=0)=false:=decide_eq_false (by omega)
 obtain ⟨y,hy⟩:∃ y,(rN l)[(enN l).length - 1]?=some y:=⟨_,d7m (by omega)⟩
 obtain ⟨b,hb,hbl,hdec,hby,hyl,hy0⟩:=c3N hy
 have hla:laN (rN l)=y:=by
  unfold laN
  rw [List.getLast?_eq_getElem?,← hlen,hy]
  rfl
 have hwl:IntKind.wrap .i64 (((enN l).length:Int) - 1)=(((enN l).length - 1:Nat):Int):=by rw [wrap_i64 (by omega) (by omega)];omega
 have hey:(enN l)[(enN l).length - 1]?=some y.2:=by rw [b6U,hy];rfl
 have ixl:a0d tab a3a x (.int .i64 (((enN l).length - 1:Nat):Int))=some (.fptr (rkr y.2)):=by
  rw [a8a hx,if_pos (by omega),d7g,hey];rfl
 obtain ⟨dl,el,sl⟩:=b6e hd (k := .i64) (n:=(b:Int)) (by omega) (by omega)
 rw [d7g] at sl
 obtain ⟨dm,dq,its,e51,om,oq,oe⟩:=c8d (l.drop b) dl g0 sl (by simp;omega) (fun z hz=>hu z (List.mem_of_mem_drop hz))
 have bxA:a3o 3 (.agg (svr (a2d (l.drop b)).2.2.1 dm dq))=some (.fptr (svr (a2d (l.drop b)).2.2.1 dm dq)):=a1Q 3 _ rfl
 have rest:=fin (a2d (l.drop b)).2.2.1 y.2 _ dm dq its om oq (by rw [hla,oe,hdec])
 simp only [h0',a0c,d6X,if_false]
 by_cases h1:(enN l).length>1
 ·have h1':decide (((enN l).length:Int)>1)=true:=decide_eq_true (by omega)
  have hw2:IntKind.wrap .i64 (((enN l).length:Int) - 2)=(((enN l).length - 2:Nat):Int):=by rw [wrap_i64 (by omega) (by omega)];omega
  rw [if_neg (by omega)] at hb
  have hk:(enN l).length - 1 - 1=(enN l).length - 2:=by omega
  rw [hk] at hb
  obtain ⟨v,hv⟩:∃ v,(enN l)[(enN l).length - 2]?=some v:=⟨_,d7m (by omega)⟩
  rw [hv] at hb
  have hb:v=b:=hb
  have ix2:a0d tab a3a x (.int .i64 (((enN l).length - 2:Nat):Int))=some (.fptr (rkr b)):=by
   rw [a8a hx,if_pos (by omega),d7g,hv,hb];rfl
  simp only [h1',a0c,if_true,a0z,hw2,bs,ix2,a7i,a0r,a0f,el,e51,a0E,d6Z,d7a,bxA,svl,a4C hx,hwl,ixl,a1D]
  exact rest
 ·have h1':decide (((enN l).length:Int)>1)=false:=decide_eq_false (by omega)
  rw [if_pos (by omega)] at hb
  have hb0:b=0:=by omega
  subst hb0
  have el:a0A tab a0J true false false [d,.int .i64 0]=some dl:=el
  simp only [h1',a0c,d6X,if_false,bs,a0r,a0f,el,e51,a0E,d6Z,d7a,bxA,svl,a4C hx,a0z,hwl,ixl,a7i,a1D]
  exact rest
theorem c0m {l:List Int} {k:Nat} (hk:k<(enN l).length):∃ b:Nat,(enN l)[k]?=some (b:Int)∧b≤l.length∧((k=0→True)∧(0<k→∃ c:Nat,(enN l)[k - 1]?=some (c:Int)∧c≤b)):=by
 obtain ⟨y,hy⟩:∃ y,(rN l)[k]?=some y:=⟨_,d7m (by rw [← a7P];exact hk)⟩
 obtain ⟨b,hb,hbl,_,hby,hyl,hy0⟩:=c3N hy
 refine ⟨y.2.toNat,by rw [b6U,hy];show some y.2=_;congr 1;omega,by omega,fun _=>trivial,fun h0=>?_⟩
 rw [if_neg (by omega)] at hb
 obtain ⟨v,hv⟩:∃ v,(enN l)[k - 1]?=some v:=⟨_,d7m (by omega)⟩
 rw [hv] at hb
 have hb:v=b:=hb
 exact ⟨b,by rw [hv,hb],by omega⟩
theorem b2k {l:List Int}:∀ (d i:Nat),i+d<(enN l).length→∃ b c:Nat,(enN l)[i]?=some (b:Int)∧(enN l)[i+d]?=some (c:Int)∧b≤c∧c≤l.length
 | 0,i,h=>by
  obtain ⟨b,h1,h2,_⟩:=c0m h
  exact ⟨b,b,h1,h1,Nat.le_refl _,h2⟩
 | d+1,i,h=>by
  obtain ⟨b,c,h1,h2,h3,h4⟩:=b2k (l:=l) d i (by omega)
  obtain ⟨e,g1,g2,_,g3⟩:=c0m (l:=l) (k:=i+(d+1)) h
  obtain ⟨f,g4,g5⟩:=g3 (by omega)
  have:i+(d+1) - 1=i+d:=by omega
  rw [this,h2] at g4
  injection g4 with g4
  exact ⟨b,e,h1,g1,by omega,g2⟩
noncomputable def trN (l:List Int) (K:Int):List Int:=if K<1∨(enN l).length=0 then [] else (l.take (((enN l)[(enN l).length - 1]?).getD 0).toNat).drop (if K<(enN l).length then (((enN l)[(enN l).length - K.toNat - 1]?).getD 0).toNat else 0)
theorem b5h {l:List Int} {d:D} (h:Hp) (hd:SlOf 1 byr l d) (hl:l.length≤600000000) {a b:Nat} (hab:a≤b) (hb:b≤l.length) {X:List Int} (hX:X=(l.take b).drop a):Wp ((a0A tab a0J true true false [d,.int .i64 a,.int .i64 b]).bind fun t37=>(a0B tab h a0J a0J .nils t37).bind fun p38=>scope h p38.2 (a0l [p38.1])) (fun p=>p.2=h∧SlOf 1 byr X p.1):=by
 obtain ⟨d2,e2,s2⟩:=a4N hd a b hab hb
 rw [← hX] at s2
 have hXl:X.length≤l.length:=by rw [hX,d7q,d7r];omega
 simp only [e2,bs]
 refine b1V (n0:=h.length) (rows:=[]) (Nat.le_refl _) (.nils _ _ _ _) (a3k _ s2) (by simp only [d7c,d7p];omega) fun x4 g4 o4 l4 k4 _ _=>?_
 rw [List.nil_append] at o4
 simp only [bs,a0i]
 have hso:=a2w (n0:=h.length) (n:=3) o4 (Nat.le_refl _) (fun a _=>a4i _ g4 3 a)
 rw [a1a (d':=frz h.length g4 4 x4) rfl (a1q hso fun a _=>a6b _ a) l4 fun q hq=>k4 q hq]
 exact .some ⟨rfl,hso⟩
theorem d3F (l:List Int) (d:D) (K:Int) (h:Hp) (hd:SlOf 1 byr l d) (hl:l.length≤600000000) (hu:∀ z∈l,U8 z):∃ d',R1 b4r [d,.int .i64 K] h=some (d',h)∧SlOf 1 byr (trN l K) d':=by
 suffices Wp (R1 b4r [d,.int .i64 K] h) (fun p=>p.2=h∧SlOf 1 byr (trN l K) p.1) by
  obtain ⟨⟨x,h'⟩,h1,rfl,h2⟩:=this
  exact ⟨x,h1,h2⟩
 obtain ⟨x,ex,hx⟩:=c8t l d h hd hl hu
 have hrl:=b4U l
 have hlen:=a7P l
 have hnil:∀ {β:Type},trN l K=[]→Wp (scope h h (a0l [.nils])) (fun p=>p.2=h∧SlOf 1 byr (trN l K) p.1):=fun he=>by
  rw [a0i,a1a (d' := .nils) rfl .nils (Nat.le_refl _) fun _ _=>rfl,he]
  exact .some ⟨rfl,.nils _ _⟩
 rw [d0v]
 simp only [c5M,ex,bs,a0k,d6W]
 by_cases hk:K<1
 ·have hk':decide (K<1)=true:=decide_eq_true hk
  simp only [hk',a0p,a1k,reduceCtorEq,d6Y,if_false,bs,a0e,if_true,a0c]
  exact hnil (β:=Unit) (by unfold trN;rw [if_pos (.inl hk)])
 have hk':decide (K<1)=false:=decide_eq_false hk
 simp only [hk',a0p,if_true,bs,a4C hx,a0S,a0e,d6X,if_false]
 by_cases h0:(enN l).length=0
 ·have h0':decide (((enN l).length:Int)=0)=true:=decide_eq_true (by omega)
  simp only [h0',a0c,if_true]
  exact hnil (β:=Unit) (by unfold trN;rw [if_pos (.inr h0)])
 have h0':decide (((enN l).length:Int)=0)=false:=decide_eq_false (by omega)
 have htr:trN l K=(l.take (((enN l)[(enN l).length - 1]?).getD 0).toNat).drop (if K<(enN l).length then (((enN l)[(enN l).length - K.toNat - 1]?).getD 0).toNat else 0):=by unfold trN;rw [if_neg (fun hh=>hh.elim hk h0)]
 have hw1:IntKind.wrap .i64 (((enN l).length:Int) - 1)=(((enN l).length - 1:Nat):Int):=by rw [wrap_i64 (by omega) (by omega)];omega
 simp only [h0',a0c,d6X,if_false]
 by_cases hc:K<(enN l).length
 ·have hc':decide (K<((enN l).length:Int))=true:=decide_eq_true hc
  have hw2:IntKind.wrap .i64 (((enN l).length:Int) - K)=(((enN l).length - K.toNat:Nat):Int):=by rw [wrap_i64 (by omega) (by omega)];omega
  have hw3:IntKind.wrap .i64 ((((enN l).length - K.toNat:Nat):Int) - 1)=(((enN l).length - K.toNat - 1:Nat):Int):=by rw [wrap_i64 (by omega) (by omega)];omega
  obtain ⟨b,c,g1,g2,g3,g4⟩:=b2k (l:=l) K.toNat ((enN l).length - K.toNat - 1) (by omega)
  have hi:(enN l).length - K.toNat - 1+K.toNat=(enN l).length - 1:=by omega
  rw [hi] at g2
  have i1:a0d tab a3a x (.int .i64 (((enN l).length - K.toNat - 1:Nat):Int))=some (.fptr (rkr b)):=by rw [a8a hx,if_pos (by omega),d7g,g1];rfl
  have i2:a0d tab a3a x (.int .i64 (((enN l).length - 1:Nat):Int))=some (.fptr (rkr c)):=by rw [a8a hx,if_pos (by omega),d7g,g2];rfl
  simp only [a0k,hc',a0c,if_true,a0z,hw1,hw2,hw3,bs,i1,i2,a7i,a0r,a0f,a4C hx]
  exact b5h (X:=trN l K) h hd hl g3 g4 (by rw [htr,if_pos hc,g1,g2];simp [-bind_some])
 ·have hc':decide (K<((enN l).length:Int))=false:=decide_eq_false hc
  obtain ⟨c,g2,g4,_⟩:=c0m (l:=l) (k:=(enN l).length - 1) (by omega)
  have i2:a0d tab a3a x (.int .i64 (((enN l).length - 1:Nat):Int))=some (.fptr (rkr c)):=by rw [a8a hx,if_pos (by omega),d7g,g2];rfl
  simp only [a0k,hc',a0c,d6X,if_false,a0z,hw1,bs,i2,a7i,a0r,a0f,a4C hx]
  exact b5h (X:=trN l K) (a:=0) h hd hl (Nat.zero_le _) g4 (by rw [htr,if_neg hc,g2];simp [-bind_some])
theorem d3i (l:List Int) (d:D) (K:Int) (h:Hp) (hd:SlOf 1 byr l d) (hl:l.length≤600000000) (hu:∀ z∈l,U8 z):∃ d',R a8X [d,.int .i64 K] h=some (d',h)∧SlOf 1 byr (trN l K) d':=by
 suffices Wp (R a8X [d,.int .i64 K] h) (fun p=>p.2=h∧SlOf 1 byr (trN l K) p.1) by
  obtain ⟨⟨x,h'⟩,h1,rfl,h2⟩:=this
  exact ⟨x,h1,h2⟩
 obtain ⟨x,ex,hx⟩:=c3W l d h hd hl hu
 have hrl:=b4U l
 have hlen:=a7P l
 have hnil:∀ {β:Type},trN l K=[]→Wp (scope h h (a0l [.nils])) (fun p=>p.2=h∧SlOf 1 byr (trN l K) p.1):=fun he=>by
  rw [a0i,a1a (d' := .nils) rfl .nils (Nat.le_refl _) fun _ _=>rfl,he]
  exact .some ⟨rfl,.nils _ _⟩
 rw [d0R]
 simp only [c6i,ex,bs,a0k,d6W]
 by_cases hk:K<1
 ·have hk':decide (K<1)=true:=decide_eq_true hk
  simp only [hk',a0p,a1k,reduceCtorEq,d6Y,if_false,bs,a0e,if_true,a0c]
  exact hnil (β:=Unit) (by unfold trN;rw [if_pos (.inl hk)])
 have hk':decide (K<1)=false:=decide_eq_false hk
 simp only [hk',a0p,if_true,bs,a4C hx,a0S,a0e,d6X,if_false]
 by_cases h0:(enN l).length=0
 ·have h0':decide (((enN l).length:Int)=0)=true:=decide_eq_true (by omega)
  simp only [h0',a0c,if_true]
  exact hnil (β:=Unit) (by unfold trN;rw [if_pos (.inr h0)])
 have h0':decide (((enN l).length:Int)=0)=false:=decide_eq_false (by omega)
 have htr:trN l K=(l.take (((enN l)[(enN l).length - 1]?).getD 0).toNat).drop (if K<(enN l).length then (((enN l)[(enN l).length - K.toNat - 1]?).getD 0).toNat else 0):=by unfold trN;rw [if_neg (fun hh=>hh.elim hk h0)]
 have hw1:IntKind.wrap .i64 (((enN l).length:Int) - 1)=(((enN l).length - 1:Nat):Int):=by rw [wrap_i64 (by omega) (by omega)];omega
 simp only [h0',a0c,d6X,if_false]
 by_cases hc:K<(enN l).length
 ·have hc':decide (K<((enN l).length:Int))=true:=decide_eq_true hc
  have hw2:IntKind.wrap .i64 (((enN l).length:Int) - K)=(((enN l).length - K.toNat:Nat):Int):=by rw [wrap_i64 (by omega) (by omega)];omega
  have hw3:IntKind.wrap .i64 ((((enN l).length - K.toNat:Nat):Int) - 1)=(((enN l).length - K.toNat - 1:Nat):Int):=by rw [wrap_i64 (by omega) (by omega)];omega
  obtain ⟨b,c,g1,g2,g3,g4⟩:=b2k (l:=l) K.toNat ((enN l).length - K.toNat - 1) (by omega)
  have hi:(enN l).length - K.toNat - 1+K.toNat=(enN l).length - 1:=by omega
  rw [hi] at g2
  have i1:a0d tab a3a x (.int .i64 (((enN l).length - K.toNat - 1:Nat):Int))=some (.fptr (rkr b)):=by rw [a8a hx,if_pos (by omega),d7g,g1];rfl
  have i2:a0d tab a3a x (.int .i64 (((enN l).length - 1:Nat):Int))=some (.fptr (rkr c)):=by rw [a8a hx,if_pos (by omega),d7g,g2];rfl
  simp only [a0k,hc',a0c,if_true,a0z,hw1,hw2,hw3,bs,i1,i2,a7i,a0r,a0f,a4C hx]
  exact b5h (X:=trN l K) h hd hl g3 g4 (by rw [htr,if_pos hc,g1,g2];simp [-bind_some])
 ·have hc':decide (K<((enN l).length:Int))=false:=decide_eq_false hc
  obtain ⟨c,g2,g4,_⟩:=c0m (l:=l) (k:=(enN l).length - 1) (by omega)
  have i2:a0d tab a3a x (.int .i64 (((enN l).length - 1:Nat):Int))=some (.fptr (rkr c)):=by rw [a8a hx,if_pos (by omega),d7g,g2];rfl
  simp only [a0k,hc',a0c,d6X,if_false,a0z,hw1,bs,i2,a7i,a0r,a0f,a4C hx]
  exact b5h (X:=trN l K) (a:=0) h hd hl (Nat.zero_le _) g4 (by rw [htr,if_neg hc,g2];simp [-bind_some])
theorem c2K {l:List Int} {d:D} (hd:SlOf 1 byr l d) (hl:l.length≤600000000) (hu:∀ z∈l,U8 z) (Ks:List Int) (hK:Ks.length≤1000) (a b c:D) {g:Hp} {β:Type} {K:Out→Option β} {Q:β→Prop}
  (k:∀ ds,Wp (K (.ext 4,.bool false::ds,g)) Q) :
  Wp ((a0N (a9H d (.sl 1 true (Ks.map rkr)) (.int .i64 Ks.length)) [.bool false,a,.int .i64 0,b,c] g).bind K) Q:=by
 have hs:SlOf 1 rkr Ks (.sl 1 true (Ks.map rkr)) := .mk _ _ _ _
 refine Wp.loop (fun n ds g'=>g'=g∧∃ x y z,∃ i:Nat,ds=[.bool false,x,.int .i64 i,y,z]∧n+i=Ks.length)
  (fun r=>r.1 = .ext 4∧r.2.2=g∧∃ ds,r.2.1 = .bool false::ds) Ks.length ⟨rfl,_,_,_,0,rfl,rfl⟩ ?_ ?_
 ·rintro n ds g' ⟨rfl,x,y,z,i,rfl,hi⟩
  simp only [a9H,a0f,a0o,bs,d6W,a0k]
  refine Wp.dif ?_ ?_
  ·intro h0
   have h0:i<Ks.length:=dl_ h0
   have hg:Ks[i]?=some Ks[i]:=d7m h0
   generalize Ks[i]=u at hg
   have ia:a0d tab a3a (.sl 1 true (Ks.map rkr)) (.int .i64 i)=some (.fptr (rkr u)):=by rw [a8a hs];simp [-bind_some, hg]
   have hw:=wi_ i (by omega)
   obtain ⟨d1,e1,o1⟩:=d3F l d u g' hd hl hu
   obtain ⟨d2,e2,o2⟩:=d3i l d u g' hd hl hu
   simp only [ia,a7i,bs,e1,a3O o1,c3M,e2,a3O o2,a1X,beq_self_eq_true,d7h,a1D,a0c,d6X,if_false,a0t,hw]
   exact .some (.inl ⟨rfl,n - 1,by omega,rfl,_,_,_,i+1,rfl,by omega⟩)
  ·intro _
   exact .some (.inr ⟨by simp,rfl,rfl,_,rfl⟩)
 ·rintro ⟨ex,ds,g'⟩ ⟨rfl,rfl,ds',rfl⟩
  exact k ds'
theorem c8h {n:Int} {ms:List FM} {k:Nat} (h:stC n ms k=0):ms.length≤1000∧k≤1000:=by
 unfold stC at h
 by_cases h1:n<0
 ·rw [if_pos h1] at h;cases h
 by_cases h2:a6X ms=false
 ·rw [if_neg h1,if_pos h2] at h;cases h
 by_cases h3:a6x ms=true
 ·rw [if_neg h1,if_neg h2,if_pos h3] at h;cases h
 by_cases h4:1000<ms.length∨1000<k
 ·rw [if_neg h1,if_neg h2,if_neg h3,if_pos h4] at h;cases h
 omega
theorem c2F (l:List Int):(a2d l).2.2.2.1.length≤1000∧(a2d l).2.2.2.2.length≤1000:=by
 unfold a2d
 by_cases h1:l.length<8
 ·rw [if_pos h1];simp [-bind_some]
 by_cases h2:l.take 4≠magS
 ·rw [if_neg h1,if_pos h2];simp [-bind_some]
 by_cases h3:l.length<12+dN l
 ·rw [if_neg h1,if_neg h2,if_pos h3];simp [-bind_some]
 by_cases h4:a2z (l.take (8+dN l))≠num ((l.drop (8+dN l)).take 4)
 ·rw [if_neg h1,if_neg h2,if_neg h3,if_pos h4];simp [-bind_some]
 by_cases h5:b3M l
 ·rw [if_neg h1,if_neg h2,if_neg h3,if_neg h4,if_pos h5];simp [-bind_some]
 ·rw [if_neg h1,if_neg h2,if_neg h3,if_neg h4,if_neg h5]
  have:stC (dA l).1 (dM l).1 (dQ l).1.length=0:=Classical.byContradiction fun h=>h5 (.inr (.inr h))
  exact c8h this
theorem c7i (l:List Int):(laN (rN l)).1.2.1.length≤1000∧(laN (rN l)).1.2.2.length≤1000:=by
 unfold laN
 cases h:(rN l).getLast? with
 | none=>simp [-bind_some]
 | some x =>
  rw [List.getLast?_eq_getElem?] at h
  obtain ⟨b,_,_,h2,_⟩:=c3N h
  simp only [Option.getD_some]
  rw [← h2]
  exact c2F _
theorem OkI.nm {i:It} (h:OkI i):NmB i.e:=fun p hp=>by
 have:=(h.r.fs p hp).1
 omega
theorem c2J (xs:List D) (hx4:xs.length=4) (all:∀ x∈xs,∃ l,SlOf 1 byr l x∧l.length≤600000000∧∀ z∈l,U8 z) (G:Hp) (o:Nat) (pG:G[o]?=some (.row a0J 1 (xs.map fun x=>[x]))) (p79:D × Hp) (hp:p79.1 = .msl 1 o 0 4) (keep:Int) (ds:List D) (h9:nth 9 ds = .int .i64 0) (h00:nth 0 ds = .bool false)
  {β:Type} {K:Out→Option β} {Q:β→Prop} (k:∀ ds',Wp (K (.ext 2,ds',G)) Q):Wp ((a0N (a9G (.int .i64 keep) p79 (.int .i64 (4:Nat))) ds G).bind K) Q:=by
 refine Wp.loop (fun m ds g=>g=G∧nth 0 ds = .bool false∧∃ n:Nat,nth 9 ds = .int .i64 (n:Nat)∧m+n=4) (fun r=>r.1 = .ext 2∧r.2.2=G) 4 ⟨rfl,h00,0,h9,rfl⟩ ?_ ?_
 ·rintro m ds g ⟨rfl,hb,n,hn,hm⟩
  simp only [a9G,hn,hb,bs,d6W,a0k]
  refine Wp.dif ?_ ?_
  ·intro h0
   have h0:n<4:=by
    have:(n:Int)<((4:Nat):Int):=by simpa using h0
    omega
   obtain ⟨q,hq⟩:∃ q,xs[n]?=some q:=⟨xs[n]'(by omega),d7m (by omega)⟩
   have hw:=wi_ n (by omega)
   have hix:a0d tab a5i (.msl 1 o 0 4) (.int .i64 n)=some (.ptr o n 0):=by rw [c3j,if_pos (by omega)];simp [-bind_some]
   have hld:a0b tab g a0J (.ptr o n 0)=some q:=by rw [b7O,a0O pG,d7k,hq];rfl
   obtain ⟨l,hsl,hll,hlu⟩:=all q (d7l hq)
   obtain ⟨dm,dq,its,e1,om,oq,oe⟩:=d3E l q g hsl hll hlu
   obtain ⟨dm2,dq2,its2,e2,om2,oq2,oe2⟩:=d3g l q g hsl hll hlu
   obtain ⟨x3,e3,o3⟩:=c8t l q g hsl hll hlu
   obtain ⟨x4,e4,o4⟩:=c3W l q g hsl hll hlu
   have hrl:=b4U l
   have hlen:=a7P l
   have hle:=c7i l
   have hi1:its.length=(laN (rN l)).1.2.2.length:=by have:=congrArg List.length oe;simpa using this
   have e5:=d2X (laN (rN l)).1.1 (laN (rN l)).1.2.1 its its2 dm dm2 dq dq2 g om om2 oq oq2 (oe.trans oe2.symm) (by omega) (by omega)
   have e6:=d3h (enN l) x3 x4 g o3 o4 (by omega)
   obtain ⟨v,e7,v0,v1⟩:=d2z keep 5 g (by omega) (by omega)
   have bxA:a3o 3 (.agg (svr (laN (rN l)).1.1 dm dq))=some (.fptr (svr (laN (rN l)).1.1 dm dq)):=a1Q 3 _ rfl
   have bxB:a3o 3 (.agg (svr (laN (rN l)).1.1 dm2 dq2))=some (.fptr (svr (laN (rN l)).1.1 dm2 dq2)):=a1Q 3 _ rfl
   have hlit:a0W tab a3a 2 [0,1] [.int .i64 keep,.int .i64 v]=some (.sl 1 true ([keep,v].map rkr)):=id rfl
   have hll2:a0y tab a3a (.sl 1 true ([keep,v].map rkr))=some (.int .i64 ([keep,v].length:Nat)):=id rfl
   simp only [hp,hix,hld,e1,bs,a0E,d6Z,d7a,bxA,c3J,e2,bxB,e3,c3K,e4,a0w,ne_eq,not_true,decide_false,a0p,a1f,if_true,svl,c3H,e5,a1y,d7h,a0e,d6X,if_false,c3L,e6,a0c,c3E,e7,hlit,hll2]
   refine c2K hsl hll hlu [keep,v] (by simp) _ _ _ fun ds'=>?_
   simp only [bs,a0s,a2n,a0r,a0f,a0o,a0t,hw]
   exact .some (.inl ⟨rfl,m - 1,by omega,rfl,rfl,n+1,rfl,by omega⟩)
  ·intro h0
   exact .some (.inr ⟨by simp,rfl,rfl⟩)
 ·rintro ⟨ex,ds,g⟩ ⟨r1,r2⟩
  simp only at r1 r2
  subst r1;subst r2
  exact k _
structure DkQ (g0 g:Hp) (ss:List SvD) (d:D):Prop where
 s:Sm g0 0 g
 ok:∀ s∈ss,OkS s
 d:SlOf 1 byr (a2U ss) d
 dl:(a2U ss).length≤61000*ss.length
theorem c3p (zs:List Int) (d:D) (rs:List Int) (dr:D) (keep cut:Int) (hd:a4J .u8 zs d) (hz:∀ z∈zs,0≤z∧z<256) (hzl:zs.length≤9223372036854775807) (hr:a4J .u8 rs dr) (hrz:∀ z∈rs,0≤z∧z<256) (hc0:0≤cut) (hc1:cut<256):∃ h',R1 b4v [d,dr,.int .i64 keep,.int .u8 cut] []=some (.bool true,h'):=by
 suffices Wp (R1 b4v [d,dr,.int .i64 keep,.int .u8 cut] []) (fun p=>p.1 = .bool true) by
  obtain ⟨⟨x,h'⟩,h1,rfl⟩:=this
  exact ⟨h',h1⟩
 have hsc:∀ g':Hp,scope [] g' (.bool true)=some (.bool true,[]):=fun g'=>a1a (by simp) (.bool _) (by simp) (fun q hq=>by cases hq)
 have hrs:=c0s hr
 obtain ⟨g0,e0,c0,l0,_⟩:=m10 zs d 240 [] hd (by omega) (by omega) hz hzl
 have l0:g0.length=1:=l0
 have e0:R c2U [d,.int .i64 240] []=some (.ptr 0 0 0,g0):=e0
 have S0:=Sm.refl c0
 obtain ⟨v,g1,e1,c1,s1,v0,v1⟩:=m39 c0 4 (by omega) (by omega)
 have e1:R a4T [.ptr 0 0 0,.int .i64 4] g0=some (.int .i64 v,g1):=e1
 have S1:Sm g0 0 g1:=S0.next c1 s1
 obtain ⟨N,rfl⟩:∃ N:Nat,v=N:=⟨v.toNat,by omega⟩
 rw [d0K]
 simp only [c6b,d2V,bs,a1y,d7h,a0c,d6X,if_false,a1P hrs,a0u,d6W]
 by_cases hl:200<rs.length
 ·have hl':decide ((rs.length:Int)>200)=true:=decide_eq_true (by omega)
  simp only [hl',a0c,if_true,a0i,hsc]
  exact .some rfl
 have hl':decide ((rs.length:Int)>200)=false:=decide_eq_false (by omega)
 simp only [hl',a0c,d6X,if_false,d2k,e0,bs,d2u,e1]
 refine Wp.loop (fun r ds g=>∃ ss d a3 a4 a5 a6 a7 a8 a9,ds=[.bool false,d,.int .i64 (r:Nat),a3,a4,a5,a6,a7,a8,a9]∧r+ss.length=N∧DkQ g0 g ss d)
  (fun q=>q.1 = .ext 0∧∃ ss d,nth 0 q.2.1 = .bool false∧nth 1 q.2.1=d∧ss.length=N∧DkQ g0 q.2.2 ss d) N ⟨[],.nils,_,_,_,_,_,_,_,rfl,by simp,S1,fun s hs=>by simp at hs,.nils _ _,by simp [-bind_some, a2U]⟩ ?_ ?_
 ·rintro r ds g ⟨ss,d,a3,a4,a5,a6,a7,a8,a9,rfl,hr,P⟩
  by_cases h0:r=0
  ·subst h0
   simp only [a9F,a0f,a0o,bs,d6W,a0u,show decide (((0:Nat):Int)>0)=false by decide,a0c,d6X,if_false]
   exact .some (.inr ⟨by simp,rfl,ss,d,rfl,rfl,by omega,P⟩)
  ·have hgt:decide ((r:Int)>0)=true:=decide_eq_true (by omega)
   obtain ⟨n,ms,its,dm,dq,g2,e2,hm,hq,n0,n1,ha,hok,hil,c2,s2⟩:=d2c P.s.cd
   have S2:Sm g0 0 g2:=P.s.next c2 s2
   obtain ⟨ok,hle⟩:=a9W n0 n1 ha hok hil
   have hdl:=P.dl
   have hssl:ss.length≤3:=by omega
   have hmul:61000*ss.length≤61000*3:=Nat.mul_le_mul_left _ hssl
   obtain ⟨d2,e3,o3⟩:=b0s ok (by omega) g2 P.d (by omega) hm hq
   have e3:R1 a6t [d,.agg (svr n dm dq)] g2=some (.tup [d2,.int .i64 0],g2):=e3
   have hol:=ok.le
   have hil2:=b1s hok
   have hmu2:its.length*20008≤3*20008:=Nat.mul_le_mul_right _ hil
   obtain ⟨d4,e4,o4⟩:=d3f (a2U ss) n ms its d dm dq g2 P.d (by omega) hm hq (by have:=hol.1;simp only at this;omega) (by omega) (fun i hi=>by have:=(hok i hi).b;omega) (fun i hi g=>b8P i g (hok i hi).nm)
   have hst:stE n ms its=0:=ok.e
   rw [hst] at e4
   rw [if_pos hst] at o4
   have o4:SlOf 1 byr (a2U ss++a4h (n,ms,its)) d4:=o4
   have hfl:a2U (ss++[(n,ms,its)])=a2U ss++a4h (n,ms,its):=by simp [-bind_some, a2U]
   rw [← hfl] at o3 o4
   have hlen2:(a2U (ss++[(n,ms,its)])).length=(a2U ss).length+(a4h (n,ms,its)).length:=by rw [hfl,d7b]
   have bxA:a3o 3 (.agg (svr n dm dq))=some (.fptr (svr n dm dq)):=a1Q 3 _ rfl
   have hr1:IntKind.wrap .i64 ((r:Int) - 1)=((r - 1:Nat):Int):=by rw [wrap_i64 (by omega) (by omega)];omega
   have e2:R a7c [.ptr 0 0 0] g=some (.agg (svr n dm dq),g2):=e2
   simp only [a9F,a0f,a0o,bs,d6W,a0u,hgt,a0c,if_true,c3F,e2,bxA,svl,e3,a0E,d6Z,d7a,c3I,e4,a0w,show decide ((0:Int)≠0)=false by decide,a0p,a3O o3,a3O o4,a1X,beq_self_eq_true,d7h,a0e,d6X,if_false,a0z,hr1]
   refine .some (.inl ⟨rfl,r - 1,by omega,ss++[(n,ms,its)],d4,_,_,_,_,_,_,_,rfl,by simp;omega,S2,fun s hs=>?_,o4,by simp only [d7b,d7o,d7p,hlen2];omega⟩)
   rcases d7t.1 hs with hs | hs
   ·exact P.ok s hs
   ·simp at hs;subst hs;exact ok
 ·rintro ⟨ex,ds,g⟩ ⟨rfl,ss,d,hb,hd',hN',P⟩
  simp only at hb hd' P
  have hdl:=P.dl
  have hmul:61000*ss.length≤61000*3:=Nat.mul_le_mul_left _ (by omega)
  obtain ⟨c,rfl⟩:∃ c:Nat,cut=c:=⟨cut.toNat,by omega⟩
  have hfu:=b3Y ss
  have hLl:(a2U ss).length≤183000:=by omega
  have hPd:=P.d
  generalize a2U ss=L at *
  have w1:IntKind.wrap .i64 (c:Int)=c:=wrap_i64 (by omega) (by omega)
  have hcl:c*L.length≤255*L.length:=Nat.mul_le_mul_right _ (by omega)
  have w2:IntKind.wrap .i64 ((c:Int)*(L.length:Int))=((c*L.length:Nat):Int):=by
   rw [← Int.natCast_mul]
   exact wrap_i64 (by omega) (by omega)
  have w3:((c*L.length:Nat):Int).tdiv 256=((c*L.length / 256:Nat):Int):=rfl
  have w4:IntKind.wrap .i64 (((c*L.length / 256:Nat):Int))=((c*L.length / 256:Nat):Int):=wrap_i64 (by omega) (by omega)
  obtain ⟨t77,e77,o77⟩:=a8F hPd (k := .i64) (n:=((c*L.length / 256:Nat):Int)) (by omega) (by omega)
  simp only [a0s,a0r,bs,a0f,a0o,hb,hd',d6W]
  refine b1V (n0:=g.length) (rows:=[]) (Nat.le_refl _) (.nils _ _ _ _) (a3k _ hPd) (by simp only [d7c,d7p];omega) fun x4 g4 o4 l4 k4 _ _=>?_
  rw [List.nil_append] at o4
  simp only [bs]
  refine b1V (n0:=g.length) l4 o4 (a3k _ hrs) (by simp only [d7c];omega) fun x5 g5 o5 l5 k5 _ _=>?_
  rw [← d7d] at o5
  simp only [bs,c6A,w1,a1P hPd,a2x,w2,a9O,show ¬ (256:Int)=0 by omega,if_false,w3,w4,e77]
  have fz:∀ (l:List Int),∀ a∈l,∀ d∈byr a,frz 0 g5 2 d=d:=fun l a _ d hd=>by
   simp only [byr,List.mem_singleton] at hd;subst hd;exact b2x _ _ _ _ _
  have f0:SlOf 1 byr L (frz 0 g5 3 d):=by rw [a2F hPd (fz L)];exact hPd
  have f1:SlOf 1 byr (L++rs) (frz 0 g5 3 x5):=a2w (n0:=0) (o5.from (Nat.zero_le _)) (Nat.le_refl _) (fz _)
  have f2:SlOf 1 byr (L.take (c*L.length / 256)) (frz 0 g5 3 t77):=by rw [a2F o77 (fz _)];exact o77
  have f3:SlOf 1 byr rs (frz 0 g5 3 dr):=by rw [a2F hrs (fz rs)];exact hrs
  generalize frz 0 g5 3 d=y0 at *
  generalize frz 0 g5 3 x5=y1 at *
  generalize frz 0 g5 3 t77=y2 at *
  generalize frz 0 g5 3 dr=y3 at *
  rw [b6w _ y0 y1 y2 y3 (a1x f0) (a1x f1) (a1x f2) (a1x f3)]
  have all:∀ x∈[y0,y1,y2,y3],∃ l,SlOf 1 byr l x∧l.length≤600000000∧∀ z∈l,U8 z:=fun x hx=>by
   simp only [d7s,List.not_mem_nil,or_false] at hx
   rcases hx with rfl | rfl | rfl | rfl
   ·exact ⟨_,f0,by omega,hfu⟩
   ·refine ⟨_,f1,by rw [d7b];omega,fun z hz=>?_⟩
    rcases d7t.1 hz with hz | hz
    ·exact hfu z hz
    ·exact hrz z hz
   ·exact ⟨_,f2,by rw [d7r];omega,fun z hz=>hfu z (List.mem_of_mem_take hz)⟩
   ·exact ⟨_,f3,by omega,hrz⟩
  generalize g5.map (fun _=>Ob.dead)=gd
  have pG:(a0I gd a0J 1 [[y0],[y1],[y2],[y3]])[gd.length]?=some (.row a0J 1 ([y0,y1,y2,y3].map fun x=>[x])):=a1h _ _ _ _
  have hP:((D.msl 1 gd.length 0 4,a0I gd a0J 1 [[y0],[y1],[y2],[y3]]):D × Hp).1 = .msl 1 gd.length 0 4:=rfl
  simp only [bs,c0z]
  refine c2J [y0,y1,y2,y3] rfl all _ gd.length pG _ hP keep _ rfl rfl fun ds'=>?_
  simp only [bs,a0s,a0r,a0i,hsc]
  exact .some rfl
theorem c0y (zs:List Int) (d:D) (rs:List Int) (dr:D) (keep cut:Int) (hd:a4J .u8 zs d) (hz:∀ z∈zs,0≤z∧z<256) (hzl:zs.length≤9223372036854775807) (hr:a4J .u8 rs dr) (hrz:∀ z∈rs,0≤z∧z<256) (hc:(Lit.int .u8 cut).wf=true):∃ h',R1 b4v [d,dr,.int .i64 keep,.int .u8 cut] []=some (.bool true,h'):=by
 have h2:0≤cut∧cut<256:=by
  simp only [Lit.wf,Bool.and_eq_true,decide_eq_true_eq] at hc
  have h1:IntKind.min .u8=0:=rfl
  have h2:IntKind.max .u8=255:=rfl
  omega
 exact c3p zs d rs dr keep cut hd hz hzl hr hrz h2.1 h2.2
end Go.Proofs.YtjmndhbabkjebaaGreatDoor

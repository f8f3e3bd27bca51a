/- The walks of slices.Insert, printed. -/
import Derived.Test.YtehgglgadbmecaaGreatDoorIC
import Derived.Test.YtehgglgadbmecaaGreatDoorChecked
import Derived.WalkKit
import Derived.Lib.Walk
import Derived.Lib.SliceRun
import Derived.Lib.JoinLaws
import Derived.Laws.IdiomCopy
import Derived.Shelf.RegionOpenPlain
import Derived.KernelRfl
set_option linter.unusedVariables false
set_option linter.unusedSimpArgs false
namespace Go.Proofs.YtehgglgadbmecaaGreatDoor
open Go.Eng Go.Pi Go.RowKit Go.Lib
set_option maxHeartbeats 4000000 in
set_option maxRecDepth 100000 in
theorem b5d (base:Option Addr) (vb vo vc n c:Nat) (w w1:World) (u:Value) (hnc:n≤c)
  (hap:∀ ty,(Builtin.append_ #[33,33] ty #[.slice base n c,.slice (some ⟨vb,vo,none⟩) 1 vc]).run Tryz.prog w = .ok u w1) :
  Calls Tryz.prog 49 #[.slice base n c,.int .i64 n,.slice (some ⟨vb,vo,none⟩) 1 vc] w fun e w'=>e = .returned u∧w'=w1:=by
 have mixed:Tryz.prog.follows .mixedOrders=true:=by kernel_rfl
 go_enter Tryz.func49,Tryz.ntmps49
 go_wp2_with (at_builtin;refine Lib.wpList_append_run _ rfl _ _ 33 33 rfl _ _ rfl rfl _ _ (hap _) ?_)
 all_goals (go_ret;exact ⟨rfl,rfl⟩)
set_option maxHeartbeats 4000000 in
set_option maxRecDepth 100000 in
theorem b2L (b n c i vb vo vc nb G:Nat) (w w1 w2 w3:World) (hi:i<n) (hnc:n≤c) (hroom:c<n+1) (hc63:c≤9223372036854775807) (hG:n+1≤G) (hG63:G≤9223372036854775807)
  (hap:∀ ty,(Builtin.append_ #[33,3] ty #[.slice (some ⟨b,0,none⟩) i c,.int .i64 (n+1 - i:Nat)]).run Tryz.prog w = .ok (.slice (some ⟨nb,0,none⟩) (n+1) G) w1)
  (hcp1:∀ ty,(Builtin.copy_ #[33,33] ty #[.slice (some ⟨nb,i*3,none⟩) (n+1 - i) (G - i),.slice (some ⟨vb,vo,none⟩) 1 vc]).run Tryz.prog w1 = .ok (goInt 1) w2)
  (hcp2:∀ ty,(Builtin.copy_ #[33,33] ty #[.slice (some ⟨nb,(i+1)*3,none⟩) (n - i) (G - (i+1)),.slice (some ⟨b,i*3,none⟩) (n - i) (c - i)]).run Tryz.prog w2.drew = .ok (goInt (n - i:Nat)) w3) :
  Calls Tryz.prog 49 #[.slice (some ⟨b,0,none⟩) n c,.int .i64 i,.slice (some ⟨vb,vo,none⟩) 1 vc] w fun e w'=>e = .returned (.slice (some ⟨nb,0,none⟩) (n+1) G)∧w'=w3:=by
 have hz2:¬ ((i:Int)=(n:Int)):=by omega
 have hz3:(c:Int)<(n:Int)+1:=by omega
 have hin:i≤n:=by omega
 have hb4:¬ (c=i):=by omega
 have hi63:n+1≤9223372036854775807:=by omega
 have hGi:¬ (G=i):=by omega
 have hGi1:¬ (G=i+1):=by omega
 have hw1:IntKind.i64.wrap ((i:Int)+1)=(i:Int)+1:=by rw [IntKind.wrap_i64];omega
 have hw2:IntKind.i64.wrap ((n:Int)+1)=(n:Int)+1:=by rw [IntKind.wrap_i64];omega
 have hw3:IntKind.i64.wrap ((n:Int)+1 - (i:Int))=(n:Int)+1 - (i:Int):=by rw [IntKind.wrap_i64];omega
 have hkk:(n:Int)+1 - (i:Int)=((n+1 - i:Nat):Int):=by omega
 rw [← hkk] at hap
 have hb1:(0:Int)≤(i:Int)+1:=by omega
 have htn:((i:Int)+1).toNat=i+1:=by omega
 have hb3:(i:Int)≤(n:Int):=by omega
 have hni:n+1 - (i+1)=n - i:=by omega
 clear hkk
 have mixed:Tryz.prog.follows .mixedOrders=true:=by kernel_rfl
 go_enter Tryz.func49,Tryz.ntmps49
 go_wp2_with (first
  | (at_builtin;refine Lib.wpList_append_run _ rfl _ _ 33 3 rfl _ _ rfl rfl _ _ (hap _) ?_)
  | (at_builtin;refine wpList_cpy _ rfl _ _ 33 33 rfl _ _ rfl rfl (hcp1 _) ?_))
 go_region_law_o (refine b0K rfl _ _ 33 33 rfl _ _ (by simp [Act.eval,Act.put]) (by simp [Act.eval,Act.put]) (hcp2 _) ?_)
 go_wp2
 go_ret
 exact ⟨rfl,rfl⟩
set_option maxHeartbeats 4000000 in
set_option maxRecDepth 100000 in
theorem b2M (b n c i vb vo vc:Nat) (w w1 w2:World) (hi:i<n) (hroom:n+1≤c) (hc63:c≤9223372036854775807)
  (hov:∀ lb cb,(callFunc 66 #[.slice (some ⟨vb,vo,none⟩) 1 vc,.slice (some ⟨b,(i+1)*3,none⟩) lb cb]).run Tryz.prog w = .ok (.value (.bool false)) w)
  (hcp1:∀ ty,(Builtin.copy_ #[33,33] ty #[.slice (some ⟨b,(i+1)*3,none⟩) (n - i) (c - (i+1)),.slice (some ⟨b,i*3,none⟩) (n+1 - i) (c - i)]).run Tryz.prog w.drew = .ok (goInt (n - i:Nat)) w1)
  (hcp2:∀ ty,(Builtin.copy_ #[33,33] ty #[.slice (some ⟨b,i*3,none⟩) (n+1 - i) (c - i),.slice (some ⟨vb,vo,none⟩) 1 vc]).run Tryz.prog w1 = .ok (goInt 1) w2) :
  Calls Tryz.prog 49 #[.slice (some ⟨b,0,none⟩) n c,.int .i64 i,.slice (some ⟨vb,vo,none⟩) 1 vc] w fun e w'=>e = .returned (.slice (some ⟨b,0,none⟩) (n+1) c)∧w'=w2:=by
 have hz2:¬ ((i:Int)=(n:Int)):=by omega
 have hin:i≤n:=by omega
 have hb2:¬ (c=i+1):=by omega
 have hb4:¬ (c=i):=by omega
 have hw1:IntKind.i64.wrap ((i:Int)+1)=(i:Int)+1:=by rw [IntKind.wrap_i64];omega
 have hw2:IntKind.i64.wrap ((n:Int)+1)=(n:Int)+1:=by rw [IntKind.wrap_i64];omega
 have hb1:(0:Int)≤(i:Int)+1:=by omega
 have htn:((i:Int)+1).toNat=i+1:=by omega
 have htn2:((n:Int)+1).toNat=n+1:=by omega
 have hb3:(i:Int)≤(n:Int)+1:=by omega
 have hni:n+1 - (i+1)=n - i:=by omega
 have mixed:Tryz.prog.follows .mixedOrders=true:=by kernel_rfl
 go_enter Tryz.func49,Tryz.ntmps49
 go_wp2_with (simp only [hov])
 go_region_law_o (refine b0K rfl _ _ 33 33 rfl _ _ (by simp [Act.eval,Act.put]) (by simp [Act.eval,Act.put]) (hcp1 _) ?_)
 go_wp2_with (at_builtin;refine wpList_cpy _ rfl _ _ 33 33 rfl _ _ rfl rfl (hcp2 _) ?_)
 go_ret
 exact ⟨rfl,rfl⟩
theorem c0D:InsWalk Tryz.prog 49 33 3 66 3:=⟨b5d,b2L,b2M⟩
theorem c4m (vs:Array Value) (w:World):(callFunc 66 vs).run Tryz.prog w=((Extern.SlicesOverlaps.overlaps #[33,33] #[4] vs).run Tryz.prog w).andThen fun v w' => .ok (.value v) w' :=
 run_callFunc_extern Tryz.func66 (by kernel_rfl) (by kernel_rfl) (by kernel_rfl) (e:=Extern.SlicesOverlaps.overlaps #[33,33] #[4]) (by kernel_rfl) vs w
end Go.Proofs.YtehgglgadbmecaaGreatDoor

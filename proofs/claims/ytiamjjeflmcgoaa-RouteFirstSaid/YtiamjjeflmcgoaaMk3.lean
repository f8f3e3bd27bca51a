/- Walks of the functions that draw rules of routing. -/
import Derived.Test.YtiamjjeflmcgoaaMk2
set_option linter.unusedSimpArgs false
set_option linter.unusedVariables false
namespace Go.Proofs.Ytiamjjeflmcgoaa
open Go.Eng
/-- A rule of routing. -/
structure RouteD where
  name : ByteArray
  field : ByteArray
  value : ByteArray
  stream : ByteArray
  prio : Int
  drop : Bool
abbrev rouC : RouteD → List Value := fun r => [.string r.name, .string r.field, .string r.value, .string r.stream, .int .i64 r.prio, .bool r.drop]
/-- What the drawn rules have. -/
def RouOK (r : RouteD) : Prop := r.name.size = 2 ∧ (1 ≤ r.stream.size ∧ r.stream.size ≤ 5) ∧ 0 ≤ r.prio ∧ r.prio < 10

set_option maxHeartbeats 1000000 in
theorem routes_m {g : Gw} {pc : Nat} (hC : Cods 80 g pc) :
    CallsV Try.prog 11 [.pointer (some ⟨pc, 0, none⟩)].toArray g.w (Ret (· = pc) g fun v g' => Cods 80 g' pc ∧ ∃ a n c rs, v = .slice a n c ∧ FSf g' a n c 6 rouC rs ∧ Own g' g.w.heap.size a n c 6 34 ∧ n ≤ 3 ∧ ∀ r ∈ rs, RouOK r) := by
  refine enter Try.func11 rfl Try.ntmps11 rfl ?_
  have hE := Ev.refl (· = pc) g
  have hpc := hC.lt
  refine c_seq ?_
  refine c_region ?_
  refine l_y (y_assign rfl) rfl rfl rfl ?_
  refine l_nil ?_
  refine p_then ?_
  refine c_seq ?_
  refine c_region ?_
  refine l_y (y_assign rfl) rfl rfl rfl ?_
  refine l_nil ?_
  refine p_then ?_
  refine c_seq ?_
  refine c_seq ?_
  refine c_region ?_
  refine l_y (y_move rfl) rfl rfl rfl ?_
  refine l_call (e_call Try.call39 rfl (next_m _ hC)) rfl rfl rfl ?_
  rintro _ _ ⟨g1, rfl, hv, ⟨hC, r7, rfl, hr7, hq7, _⟩⟩
  replace hE := hE.trans hv
  clear hv
  replace hq7 := hq7 (by omega)
  refine l_y (y_assign rfl) rfl rfl rfl ?_
  refine l_nil ?_
  refine p_then ?_
  refine c_block ?_
  refine c_loop (γ := Int × Option Addr × Nat × Nat × List RouteD) (fun x w => ∃ gg : Gw, gg.w = w ∧ Ev (· = pc) g gg ∧ Cods 80 gg pc ∧ 0 ≤ x.1 ∧ (x.2.2.1 : Int) + x.1 ≤ 3 ∧ FSf gg x.2.1 x.2.2.1 x.2.2.2.1 6 rouC x.2.2.2.2 ∧ Own gg g.w.heap.size x.2.1 x.2.2.1 x.2.2.2.1 6 34 ∧ ∀ r ∈ x.2.2.2.2, RouOK r) (fun x => [(4, .int .i64 x.1), (3, .slice x.2.1 x.2.2.1 x.2.2.2.1)] ++ _) (fun x => x.1.toNat) (r7, none, 0, 0, []) ⟨g1, rfl, hE, hC, by dsimp only; omega, by dsimp only; omega, FSf.nil _ _ _ _ _ (fun _ => rfl) (Nat.zero_le _), Own.nil _ _ _ _, fun r hr => by cases hr⟩ (Sub.backN 0 rfl (Sub.cons rfl (Sub.cons rfl (Sub.nil))) rfl) ?_
  rintro ⟨n, a, m, cp, rs⟩ _ ⟨g2, rfl, hE, hC, hn0, hnm, ho, hown, hok⟩
  try dsimp only
  try dsimp only at hn0
  try dsimp only at hnm
  try dsimp only at ho
  try dsimp only at hown
  try dsimp only at hok
  refine c_seq ?_
  refine c_seq ?_
  refine c_region ?_
  refine l_y (y_move rfl) rfl rfl rfl ?_
  refine l_y (y_gtr rfl rfl) rfl rfl rfl ?_
  refine l_nil ?_
  refine p_then ?_
  refine c_cond rfl (fun hc0 => ?_) (fun hc0 => ?_)
  · try simp only [decide_eq_true_eq, decide_eq_false_iff_not, Bool.not_eq_true', Bool.not_eq_false', Bool.not_true, Bool.not_false, beq_iff_eq, bne_iff_ne, ne_eq, beq_eq_false_iff_ne, bne_eq_false_iff_eq, Decidable.not_not, Int.not_lt, Int.not_le] at hc0
    refine c_skip ?_
    refine p_then ?_
    refine c_seq ?_
    refine c_block ?_
    refine c_seq ?_
    have hown_lt := Own.blk_lt hown
    have h5_E := hE
    refine c_ogt (Ev (· = pc)) (Ev.pre _) (Ev.draw0 _ _) (fun g => Cods 80 g pc) [fEq (.slice a m cp), fEq (.int .i64 (m : Int)), fEq (.int .i64 (48 + (m : Int))), fun v _ => ∃ r : Int, v = .int .u8 r, fun v g => ∃ (b : Nat) (r : Int), v = .slice (some ⟨b, 0, none⟩) 1 1 ∧ FSl g (some ⟨b, 0, none⟩) 1 1 1 [.int .u8 r], fStr (fun s => s.size = 1), fStr (fun s => s.size = 2), fEq (.pointer (some ⟨pc, 0, none⟩)), fSf 4 1 strC [⟨#[108, 101, 118, 101, 108]⟩, ⟨#[117, 115, 101, 114]⟩, ⟨#[]⟩, ⟨#[105, 100]⟩], fStr (fun s => s ∈ [⟨#[108, 101, 118, 101, 108]⟩, ⟨#[117, 115, 101, 114]⟩, ⟨#[]⟩, ⟨#[105, 100]⟩]), fEq (.pointer (some ⟨pc, 0, none⟩)), fSf 4 1 strC [⟨#[105, 110, 102, 111]⟩, ⟨#[119, 97, 114, 110]⟩, ⟨#[97, 110, 110]⟩, ⟨#[55]⟩], fStr (fun s => s ∈ [⟨#[105, 110, 102, 111]⟩, ⟨#[119, 97, 114, 110]⟩, ⟨#[97, 110, 110]⟩, ⟨#[55]⟩]), fEq (.pointer (some ⟨pc, 0, none⟩)), fSf 3 1 strC [⟨#[109, 97, 105, 110]⟩, ⟨#[97, 117, 100, 105, 116]⟩, ⟨#[120, 45, 49]⟩], fStr (fun s => s ∈ [⟨#[109, 97, 105, 110]⟩, ⟨#[97, 117, 100, 105, 116]⟩, ⟨#[120, 45, 49]⟩]), fEq (.pointer (some ⟨pc, 0, none⟩)), fInt (fun r => 0 ≤ r ∧ r < 10), fEq (.pointer (some ⟨pc, 0, none⟩)), fInt (fun r => 0 ≤ r ∧ r < 3), fun v _ => ∃ b : Bool, v = .bool b, fun v g => ∃ r : RouteD, v = .agg (rouC r).toArray ∧ RouOK r, fNew g2.w.heap.size 34 [.string ⟨#[]⟩, .string ⟨#[]⟩, .string ⟨#[]⟩, .string ⟨#[]⟩, .int .i64 0, .bool false]] 23 Try.mixo (by kernel_rfl) (by kernel_rfl) (by kernel_rfl) rfl (hC.ev (Gw.draw_ev _) nno) (stabs_spec ⟨fEq.stab, fEq.stab, fEq.stab, (fun _ _ _ h _ _ => h), (fun _ _ _ ⟨b, r, h1, h2⟩ he _ => ⟨b, r, h1, h2.ev he⟩), fStr.stab, fStr.stab, fEq.stab, fSf.stab, fStr.stab, fEq.stab, fSf.stab, fStr.stab, fEq.stab, fSf.stab, fStr.stab, fEq.stab, fInt.stab, fEq.stab, fInt.stab, (fun _ _ _ h _ _ => h), (fun _ _ _ h _ _ => h), (fNew.stab (fun b hb hh => by have := hE.size; omega)), trivial⟩) ?_ ?_
    · refine ⟨⟨rfl, fun g hv hJ => ?_⟩, ⟨rfl, fun g hv hJ => ?_⟩, ⟨rfl, fun g hv hJ => ?_⟩, ⟨rfl, fun g hv hJ => ?_⟩, ⟨rfl, fun g hv hJ => ?_⟩, ⟨rfl, fun g hv hJ => ?_⟩, ⟨rfl, fun g hv hJ => ?_⟩, ⟨rfl, fun g hv hJ => ?_⟩, ⟨rfl, fun g hv hJ => ?_⟩, ⟨rfl, fun g hv hJ => ?_⟩, ⟨rfl, fun g hv hJ => ?_⟩, ⟨rfl, fun g hv hJ => ?_⟩, ⟨rfl, fun g hv hJ => ?_⟩, ⟨rfl, fun g hv hJ => ?_⟩, ⟨rfl, fun g hv hJ => ?_⟩, ⟨rfl, fun g hv hJ => ?_⟩, ⟨rfl, fun g hv hJ => ?_⟩, ⟨rfl, fun g hv hJ => ?_⟩, ⟨rfl, fun g hv hJ => ?_⟩, ⟨rfl, fun g hv hJ => ?_⟩, ⟨rfl, fun g hv hJ => ?_⟩, ⟨rfl, fun g hv hJ => ?_⟩, ⟨rfl, fun g hv hJ => ?_⟩, trivial⟩
      · skip
        show OgDo _ _ _ _ _ _ _
        exact og_y (y_move rfl) rfl hJ fEq.mk
      · intro v0 hk0
        obtain rfl : v0 = _ := hk0
        show OgDo _ _ _ _ _ _ _
        exact og_y (y_len_slice Try.underlying26 rfl) rfl hJ fEq.mk
      · intro v1 hk1
        obtain rfl : v1 = _ := hk1
        show OgDo _ _ _ _ _ _ _
        exact og_y (y_add_in rfl rfl (by omega) (by omega)) rfl hJ fEq.mk
      · intro v2 hk2
        obtain rfl : v2 = _ := hk2
        show OgDo _ _ _ _ _ _ _
        exact og_y (y_conv_int Try.underlying3 Try.underlying5 rfl) rfl hJ ⟨_, rfl⟩
      · intro v3 hk3
        obtain ⟨r3, rfl⟩ := hk3
        show OgDo _ _ _ _ _ _ _
        refine og_do (o_lit rfl Try.underlying22 Try.sizeOf5 Try.zeroValue5 rfl rfl rfl rfl rfl) rfl ?_
        rintro _ _ ⟨g', b, rfl, rfl, hv', hsl, _, _⟩
        exact ⟨g', rfl, hv'.of_no, hJ.ev hv' nno, b, _, rfl, hsl⟩
      · intro v4 hk4
        obtain ⟨b4, r4, rfl, hb4⟩ := hk4
        show OgDo _ _ _ _ _ _ _
        exact og_y (y_b2s (bs := [r4]) Try.underlying22 Try.underlying5 Try.underlying9 rfl hb4) rfl hJ (fStr.mk (size_ofInts _))
      · intro v5 hk5
        obtain ⟨s5, rfl, hs5⟩ := hk5
        show OgDo _ _ _ _ _ _ _
        exact og_y (y_sadd rfl rfl (by rw [hs5]; decide)) rfl hJ (fStr.mk (by rw [ByteArray.size_append, hs5]; rfl))
      · skip
        show OgDo _ _ _ _ _ _ _
        exact og_y (y_move rfl) rfl hJ (fEq.mk)
      · skip
        show OgDo _ _ _ _ _ _ _
        refine og_do (o_lit rfl Try.underlying98 Try.sizeOf9 Try.zeroValue9 rfl rfl rfl rfl rfl) rfl ?_
        rintro _ _ ⟨g', b, rfl, rfl, hv', hsl, _, _⟩
        exact ⟨g', rfl, hv'.of_no, hJ.ev hv' nno, b, rfl, FSf.of hsl strC [⟨#[108, 101, 118, 101, 108]⟩, ⟨#[117, 115, 101, 114]⟩, ⟨#[]⟩, ⟨#[105, 100]⟩] (fun _ => rfl) rfl rfl⟩
      · intro v7 hk7; intro v8 hk8
        obtain rfl : v7 = _ := hk7
        obtain ⟨b8, rfl, hb8⟩ := hk8
        show OgDo _ _ _ _ _ _ _
        exact og_call (e_call Try.call40 rfl ((pick_m hJ hb8 (by omega)).mono_ret (fun v g' ⟨hC, s, hm, hv⟩ => ⟨hC, s, hv, hm⟩))) rfl
      · skip
        show OgDo _ _ _ _ _ _ _
        exact og_y (y_move rfl) rfl hJ (fEq.mk)
      · skip
        show OgDo _ _ _ _ _ _ _
        refine og_do (o_lit rfl Try.underlying98 Try.sizeOf9 Try.zeroValue9 rfl rfl rfl rfl rfl) rfl ?_
        rintro _ _ ⟨g', b, rfl, rfl, hv', hsl, _, _⟩
        exact ⟨g', rfl, hv'.of_no, hJ.ev hv' nno, b, rfl, FSf.of hsl strC [⟨#[105, 110, 102, 111]⟩, ⟨#[119, 97, 114, 110]⟩, ⟨#[97, 110, 110]⟩, ⟨#[55]⟩] (fun _ => rfl) rfl rfl⟩
      · intro v10 hk10; intro v11 hk11; intro v9 hk9
        obtain rfl : v10 = _ := hk10
        obtain ⟨b11, rfl, hb11⟩ := hk11
        show OgDo _ _ _ _ _ _ _
        exact og_call (e_call Try.call40 rfl ((pick_m hJ hb11 (by omega)).mono_ret (fun v g' ⟨hC, s, hm, hv⟩ => ⟨hC, s, hv, hm⟩))) rfl
      · skip
        show OgDo _ _ _ _ _ _ _
        exact og_y (y_move rfl) rfl hJ (fEq.mk)
      · skip
        show OgDo _ _ _ _ _ _ _
        refine og_do (o_lit rfl Try.underlying98 Try.sizeOf9 Try.zeroValue9 rfl rfl rfl rfl rfl) rfl ?_
        rintro _ _ ⟨g', b, rfl, rfl, hv', hsl, _, _⟩
        exact ⟨g', rfl, hv'.of_no, hJ.ev hv' nno, b, rfl, FSf.of hsl strC [⟨#[109, 97, 105, 110]⟩, ⟨#[97, 117, 100, 105, 116]⟩, ⟨#[120, 45, 49]⟩] (fun _ => rfl) rfl rfl⟩
      · intro v13 hk13; intro v14 hk14; intro v12 hk12
        obtain rfl : v13 = _ := hk13
        obtain ⟨b14, rfl, hb14⟩ := hk14
        show OgDo _ _ _ _ _ _ _
        exact og_call (e_call Try.call40 rfl ((pick_m hJ hb14 (by omega)).mono_ret (fun v g' ⟨hC, s, hm, hv⟩ => ⟨hC, s, hv, hm⟩))) rfl
      · skip
        show OgDo _ _ _ _ _ _ _
        exact og_y (y_move rfl) rfl hJ (fEq.mk)
      · intro v16 hk16; intro v15 hk15
        obtain rfl : v16 = _ := hk16
        show OgDo _ _ _ _ _ _ _
        exact og_call (e_call Try.call39 rfl ((next_m 10 hJ).mono_ret (fun v g' ⟨hC, r, hv, h0, h1, _⟩ => ⟨hC, r, hv, h0, h1 (by omega)⟩))) rfl
      · skip
        show OgDo _ _ _ _ _ _ _
        exact og_y (y_move rfl) rfl hJ (fEq.mk)
      · intro v18 hk18; intro v17 hk17
        obtain rfl : v18 = _ := hk18
        show OgDo _ _ _ _ _ _ _
        exact og_call (e_call Try.call39 rfl ((next_m 3 hJ).mono_ret (fun v g' ⟨hC, r, hv, h0, h1, _⟩ => ⟨hC, r, hv, h0, h1 (by omega)⟩))) rfl
      · intro v19 hk19
        obtain ⟨r19, rfl, hr19⟩ := hk19
        show OgDo _ _ _ _ _ _ _
        exact og_y (y_eql rfl rfl) rfl hJ ⟨_, rfl⟩
      · intro v6 hk6; intro v9 hk9; intro v12 hk12; intro v15 hk15; intro v17 hk17; intro v20 hk20
        obtain ⟨s6, rfl, hs6⟩ := hk6
        obtain ⟨s9, rfl, hs9⟩ := hk9
        obtain ⟨s12, rfl, hs12⟩ := hk12
        obtain ⟨s15, rfl, hs15⟩ := hk15
        obtain ⟨r17, rfl, hr17⟩ := hk17
        obtain ⟨t20, rfl⟩ := hk20
        show OgDo _ _ _ _ _ _ _
        have hu := sizes_le 5 hs15 rfl
        have hu1 : 1 ≤ s15.size := by revert hs15; simp only [List.mem_cons, List.not_mem_nil, or_false]; rintro (rfl | rfl | rfl) <;> decide
        refine og_y (y_struct [_, _, _, _, _, _] Try.underlying34 Try.zeroValue34 (pl := [(0, 1), (1, 1), (2, 1), (3, 1), (4, 1), (5, 1)]) (fun w => by simp) rfl rfl) rfl hJ ⟨⟨s6, s9, s12, s15, r17, t20⟩, rfl, hs6, ⟨hu1, hu⟩, hr17⟩
      · skip
        show OgDo _ _ _ _ _ _ _
        refine og_do (o_alloc Try.zeroValue34 rfl) rfl ?_
        rintro _ _ ⟨g', b, rfl, rfl, hv', hb, hbn⟩
        exact ⟨g', rfl, hv'.of_no, hJ.ev hv' nno, b, rfl, by have := hv.size; omega, hb⟩
    · intro g3 vs0 hv hJ hf0
      obtain ⟨v0, vs1, rfl, hk0, hf1⟩ := hf0.cons
      clear hf0
      obtain rfl : v0 = _ := hk0
      obtain ⟨v1, vs2, rfl, hk1, hf2⟩ := hf1.cons
      clear hf1
      obtain rfl : v1 = _ := hk1
      obtain ⟨v2, vs3, rfl, hk2, hf3⟩ := hf2.cons
      clear hf2
      obtain rfl : v2 = _ := hk2
      obtain ⟨v3, vs4, rfl, hk3, hf4⟩ := hf3.cons
      clear hf3
      obtain ⟨r3, rfl⟩ := hk3
      obtain ⟨v4, vs5, rfl, hk4, hf5⟩ := hf4.cons
      clear hf4
      obtain ⟨b4, r4, rfl, hb4⟩ := hk4
      obtain ⟨v5, vs6, rfl, hk5, hf6⟩ := hf5.cons
      clear hf5
      obtain ⟨s5, rfl, hs5⟩ := hk5
      obtain ⟨v6, vs7, rfl, hk6, hf7⟩ := hf6.cons
      clear hf6
      obtain ⟨s6, rfl, hs6⟩ := hk6
      obtain ⟨v7, vs8, rfl, hk7, hf8⟩ := hf7.cons
      clear hf7
      obtain rfl : v7 = _ := hk7
      obtain ⟨v8, vs9, rfl, hk8, hf9⟩ := hf8.cons
      clear hf8
      obtain ⟨b8, rfl, hb8⟩ := hk8
      obtain ⟨v9, vs10, rfl, hk9, hf10⟩ := hf9.cons
      clear hf9
      obtain ⟨s9, rfl, hs9⟩ := hk9
      obtain ⟨v10, vs11, rfl, hk10, hf11⟩ := hf10.cons
      clear hf10
      obtain rfl : v10 = _ := hk10
      obtain ⟨v11, vs12, rfl, hk11, hf12⟩ := hf11.cons
      clear hf11
      obtain ⟨b11, rfl, hb11⟩ := hk11
      obtain ⟨v12, vs13, rfl, hk12, hf13⟩ := hf12.cons
      clear hf12
      obtain ⟨s12, rfl, hs12⟩ := hk12
      obtain ⟨v13, vs14, rfl, hk13, hf14⟩ := hf13.cons
      clear hf13
      obtain rfl : v13 = _ := hk13
      obtain ⟨v14, vs15, rfl, hk14, hf15⟩ := hf14.cons
      clear hf14
      obtain ⟨b14, rfl, hb14⟩ := hk14
      obtain ⟨v15, vs16, rfl, hk15, hf16⟩ := hf15.cons
      clear hf15
      obtain ⟨s15, rfl, hs15⟩ := hk15
      obtain ⟨v16, vs17, rfl, hk16, hf17⟩ := hf16.cons
      clear hf16
      obtain rfl : v16 = _ := hk16
      obtain ⟨v17, vs18, rfl, hk17, hf18⟩ := hf17.cons
      clear hf17
      obtain ⟨r17, rfl, hr17⟩ := hk17
      obtain ⟨v18, vs19, rfl, hk18, hf19⟩ := hf18.cons
      clear hf18
      obtain rfl : v18 = _ := hk18
      obtain ⟨v19, vs20, rfl, hk19, hf20⟩ := hf19.cons
      clear hf19
      obtain ⟨r19, rfl, hr19⟩ := hk19
      obtain ⟨v20, vs21, rfl, hk20, hf21⟩ := hf20.cons
      clear hf20
      obtain ⟨t20, rfl⟩ := hk20
      obtain ⟨v21, vs22, rfl, hk21, hf22⟩ := hf21.cons
      clear hf21
      obtain ⟨ro21, rfl, hro21⟩ := hk21
      obtain ⟨v22, vs23, rfl, hk22, hf23⟩ := hf22.cons
      clear hf22
      obtain ⟨b22, rfl, hn22, hb22⟩ := hk22
      obtain rfl := hf23.nil; clear hf23
      replace ho := ho.ev hv
      replace hown := hown.ev hv (fun x _ hx hxx => by omega)
      replace hE := hE.trans hv
      try replace hC := hJ
      clear hv
      have hb22_new : g.w.heap.size ≤ b22 := Nat.le_trans h5_E.size hn22
      have hne_hown_hb22 : ∀ x, blkOf a x → x ≠ b22 := fun x hx => by have := hown_lt x hx; omega
      refine l_du (o_store rfl rfl rfl Try.sizeOf34 rfl hb22 (by simp) (by simp [Value.oneCell'])) rfl rfl ?_
      rintro _ ⟨g4, rfl, hv, hb22'⟩
      replace hC := hC.ev hv (fun hh => hC.ne_blk hb22 rfl hh.symm)
      replace ho := ho.ev hv
      replace hown := hown.ev hv (fun x hx _ hxx => hne_hown_hb22 x hx hxx)
      replace hE := hE.step hv (fun x hx => .inr (by rw [hx]; exact hb22_new))
      simp only [splice, List.set_cons_zero, List.set_cons_succ, Nat.reduceAdd, Nat.zero_add] at hb22'
      replace hb22 := hb22'; clear hb22' hv
      refine l_nil ?_
      refine p_then ?_
      refine c_region ?_
      refine l_y (y_move rfl) rfl rfl rfl ?_
      first | refine l_y (y_loada_blk (vs := [_, _, _, _, _, _]) rfl Try.isAgg34 Try.sizeOf34 (by assumption) rfl rfl) rfl rfl rfl ?_ | refine l_y (y_loada_el rfl Try.isAgg34 Try.sizeOf34 (by assumption) (by assumption)) rfl rfl rfl ?_
      have hE0 := hE
      refine l_do (o_lit rfl Try.underlying26 Try.sizeOf34 Try.zeroValue34 rfl rfl rfl rfl rfl) rfl rfl rfl ?_
      rintro _ _ ⟨g5, b36, rfl, rfl, hv, h36, h36_own, h36_new⟩
      replace hC := hC.ev hv nno
      replace ho := ho.ev hv
      replace hown := hown.ev hv nno3
      replace hb22 := hb22.ev hv nno
      replace hE := hE.no hv
      replace h36_new := Nat.le_trans hE0.size (Nat.le_of_eq h36_new.symm)
      clear hE0 hv h36_own
      simp only [List.flatMap_cons, List.flatMap_nil, List.append_nil, Value.cells, List.cons_append, List.nil_append, List.toList_toArray] at h36
      refine l_do (o_app (B := 80) (sz := 6) rfl rfl Try.underlying26 Try.info34 rfl rfl rfl rfl rfl hown ho.sl h36 (by simp [Value.oneCell', Value.cells]) (by omega) (by omega) hE.size) rfl rfl rfl ?_
      rintro _ _ ⟨g6, a37, c37, rfl, rfl, hv, ho', hown', _⟩
      replace hC := hC.ev hv (fun hh => by have := Own.blk_base hown _ hh; have := hpc; omega)
      replace hb22 := hb22.ev hv (fun hk => hne_hown_hb22 _ hk rfl)
      replace h36 := h36.ev hv
      replace hE := hE.step hv (fun x hx => .inr (Nat.le_trans (Nat.le_of_eq rfl) (Own.blk_base hown x hx)))
      clear hv
      replace ho' := FSf.of ho' rouC (rs ++ [ro21]) (fun _ => rfl) (by simp) (by rw [List.length_append, ho.num]; rfl)
      replace ho := ho'; replace hown := hown'; clear ho' hown'
      refine l_y (y_assign rfl) rfl rfl rfl ?_
      refine l_nil ?_
      refine p_blk ?_
      refine p_then ?_
      refine c_region ?_
      refine l_y (y_move rfl) rfl rfl rfl ?_
      first | refine l_y (y_sub_in rfl rfl (by omega) (by omega)) rfl rfl rfl ?_ | refine l_y (y_sub rfl rfl) rfl rfl rfl ?_
      refine l_y (y_assign rfl) rfl rfl rfl ?_
      refine l_nil ?_
      exact p_back (n - 1, a37, m + 1, c37, rs ++ [ro21]) ⟨g6, rfl, hE, hC, by dsimp only; omega, by dsimp only; omega, ho, hown, by dsimp only; intro r hr; rcases List.mem_append.1 hr with hr | hr; exact hok r hr; rw [List.mem_singleton.1 hr]; exact hro21⟩ (Sub.backN 35 rfl (Sub.cons rfl (Sub.cons rfl (Sub.nil))) rfl) (by (try dsimp only); omega)
  · try simp only [decide_eq_true_eq, decide_eq_false_iff_not, Bool.not_eq_true', Bool.not_eq_false', Bool.not_true, Bool.not_false, beq_iff_eq, bne_iff_ne, ne_eq, beq_eq_false_iff_ne, bne_eq_false_iff_eq, Decidable.not_not, Int.not_lt, Int.not_le] at hc0
    refine c_exit ?_
    refine p_then_exit ?_
    refine p_then_exit ?_
    refine p_blk_exit ?_
    refine p_then ?_
    refine c_seq ?_
    refine c_region ?_
    refine l_y (y_move rfl) rfl rfl rfl ?_
    refine l_y (y_assign rfl) rfl rfl rfl ?_
    refine l_nil ?_
    refine p_then ?_
    refine c_ret ?_
    refine p_ret1 rfl (rv_tmp rfl) ?_
    exact ⟨_, rfl, hE, hC, a, m, cp, rs, rfl, ho, hown, by omega, hok⟩

set_option maxHeartbeats 1000000 in
theorem new_m {g : Gw} {a : Option Addr} {n cp : Nat} {bs : List Int} (most : Nat) (hl : FSf g a n cp 1 u8C bs) (hz : ∀ z ∈ bs, 0 ≤ z ∧ z < 256) :
    CallsV Try.prog 10 [.slice a n cp, .int .i64 (most : Int)].toArray g.w (Ret Mno g fun v g' => ∃ pc, v = .pointer (some ⟨pc, 0, none⟩) ∧ g.w.heap.size ≤ pc ∧ Cods 80 g' pc) := by
  refine enter Try.func10 rfl Try.ntmps10 rfl ?_
  have hE := Ev.refl Mno g
  have hnc := hl.sl.nc; have hnm := hl.sl.cm
  refine c_seq ?_
  refine c_region ?_
  refine l_y (y_assign rfl) rfl rfl rfl ?_
  refine l_nil ?_
  refine p_then ?_
  refine c_seq ?_
  refine c_seq ?_
  refine c_region ?_
  refine l_y (y_move rfl) rfl rfl rfl ?_
  refine l_y (y_len_slice Try.underlying22 rfl) rfl rfl rfl ?_
  refine l_y (y_move rfl) rfl rfl rfl ?_
  refine l_y (y_gtr rfl rfl) rfl rfl rfl ?_
  refine l_nil ?_
  refine p_then ?_
  refine c_cond rfl (fun hc0 => ?_) (fun hc0 => ?_)
  · try simp only [decide_eq_true_eq, decide_eq_false_iff_not, Bool.not_eq_true', Bool.not_eq_false', Bool.not_true, Bool.not_false, beq_iff_eq, bne_iff_ne, ne_eq, beq_eq_false_iff_ne, bne_eq_false_iff_eq, Decidable.not_not, Int.not_lt, Int.not_le] at hc0
    refine c_region ?_
    refine l_y (y_move rfl) rfl rfl rfl ?_
    refine l_y (y_move rfl) rfl rfl rfl ?_
    refine l_y (y_slice_hi Try.underlying22 Try.sizeOf5 rfl rfl (by omega) (hl.add0 (by omega))) rfl rfl rfl ?_
    replace hl := hl.head (m := most) (by omega); replace hz : ∀ z ∈ bs.take most, 0 ≤ z ∧ z < 256 := fun z h => hz z (List.mem_of_mem_take h)
    refine l_y (y_assign rfl) rfl rfl rfl ?_
    refine l_nil ?_
    refine p_then ?_
    refine c_seq ?_
    refine c_region ?_
    refine l_y (y_move rfl) rfl rfl rfl ?_
    refine l_y (y_struct [_, _] Try.underlying80 Try.zeroValue80 (pl := [(0, 1), (1, 1)]) (fun w => by simp) rfl rfl) rfl rfl rfl ?_
    have hE0 := hE
    refine l_do (o_box (cs := [_, _]) rfl rfl) rfl rfl rfl ?_
    rintro _ _ ⟨g1, b14, rfl, rfl, hv, h14, h14_new⟩
    replace hl := hl.ev hv
    replace hE := hE.no hv
    replace h14_new := Nat.le_trans hE0.size (Nat.le_of_eq h14_new.symm)
    clear hE0 hv
    refine l_y (y_assign rfl) rfl rfl rfl ?_
    refine l_nil ?_
    refine p_then ?_
    refine c_ret ?_
    refine p_ret1 rfl (rv_tmp rfl) ?_
    exact ⟨_, rfl, hE, _, rfl, h14_new, _, _, _, _, 0, h14, hl, by omega, hz⟩
  · try simp only [decide_eq_true_eq, decide_eq_false_iff_not, Bool.not_eq_true', Bool.not_eq_false', Bool.not_true, Bool.not_false, beq_iff_eq, bne_iff_ne, ne_eq, beq_eq_false_iff_ne, bne_eq_false_iff_eq, Decidable.not_not, Int.not_lt, Int.not_le] at hc0
    refine c_skip ?_
    refine p_then ?_
    refine c_seq ?_
    refine c_region ?_
    refine l_y (y_move rfl) rfl rfl rfl ?_
    refine l_y (y_struct [_, _] Try.underlying80 Try.zeroValue80 (pl := [(0, 1), (1, 1)]) (fun w => by simp) rfl rfl) rfl rfl rfl ?_
    have hE0 := hE
    refine l_do (o_box (cs := [_, _]) rfl rfl) rfl rfl rfl ?_
    rintro _ _ ⟨g1, b14, rfl, rfl, hv, h14, h14_new⟩
    replace hl := hl.ev hv
    replace hE := hE.no hv
    replace h14_new := Nat.le_trans hE0.size (Nat.le_of_eq h14_new.symm)
    clear hE0 hv
    refine l_y (y_assign rfl) rfl rfl rfl ?_
    refine l_nil ?_
    refine p_then ?_
    refine c_ret ?_
    refine p_ret1 rfl (rv_tmp rfl) ?_
    exact ⟨_, rfl, hE, _, rfl, h14_new, _, _, _, _, 0, h14, hl, by omega, hz⟩
end Go.Proofs.Ytiamjjeflmcgoaa

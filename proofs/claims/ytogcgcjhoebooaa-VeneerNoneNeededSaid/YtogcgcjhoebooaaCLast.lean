/- The law VeneerNoneNeeded: for every script, list of items and list of branches the law returns true, and the arguments read as before. No conditions. (Part 4 of 4 of the proof. Lines of the texts that print.sh printed for this seat are among it, cut to what is used.) -/
import Derived.Lib.Strings
import Derived.Deep.Slices
import Derived.Deep.Fields
import Derived.ChangeSame
import Derived.Lib.SmallJoins
import Derived.Test.YtogcgcjhoebooaaRows
import Derived.WalkKit
import Derived.ProofKit
import Derived.OpenShut
import Derived.ShutString
import Derived.ChangeOld
import Derived.Below
import Derived.SizedLaws
import Derived.Test.YtogcgcjhoebooaaC3
section
namespace Go.Proofs.Ytogcgcjhoebooaa.PVeneerMatchesSpec
open Go.RowKit Go.Proofs.YtogcgcjhoebooaaW.PrintWords Go.Proofs.YtogcgcjhoebooaaW.PrintLast Go.Proofs.YtogcgcjhoebooaaW.PrintMore
set_option linter.unusedVariables false
set_option linter.unusedSimpArgs false
mutual
def veneer_branch.j0 : Nat → List (S57) → Bool → Int → Int → Int → Int → Int → Int → Option (Int)
  | 0, _, _, _, _, _, _, _, _ => none
  | k + 1, x0, x5, x284000, x284001, x284002, x284003, x284004, x284005 => if x5 = true then (some 4) else (if x284000 < 0 then (veneer_branch.j1 k x0 true x284000 x284001 x284002 x284003 x284004 x284005) else (if x284000 ≥ (x0.length : Int) then (veneer_branch.j1 k x0 true x284000 x284001 x284002 x284003 x284004 x284005) else (if x284004 < (-1) then (veneer_branch.j1 k x0 true x284000 x284001 x284002 x284003 x284004 x284005) else (veneer_branch.j1 k x0 (decide (x284004 ≥ (x0.length : Int))) x284000 x284001 x284002 x284003 x284004 x284005))))
def veneer_branch.j1 : Nat → List (S57) → Bool → Int → Int → Int → Int → Int → Int → Option (Int)
  | 0, _, _, _, _, _, _, _, _ => none
  | k + 1, x0, x14, x284000, x284001, x284002, x284003, x284004, x284005 => if x14 = true then (some 3) else (if x284001 < 0 then (veneer_branch.j2 k x0 true x284000 x284001 x284002 x284003 x284004 x284005) else (if 0 ≤ x284000 then (if x284000 < (x0.length : Int) then ((apply_Width.f k x284002).bind fun t285 => (veneer_branch.j2 k x0 (decide (x284001 > (wrap64 (((rd_T57 x0 x284000).f1) - t285)))) x284000 x284001 x284002 x284003 x284004 x284005)) else (none)) else (none)))
def veneer_branch.j2 : Nat → List (S57) → Bool → Int → Int → Int → Int → Int → Int → Option (Int)
  | 0, _, _, _, _, _, _, _, _ => none
  | k + 1, x0, x37, x284000, x284001, x284002, x284003, x284004, x284005 => if x37 = true then (some 3) else (if x284004 < 0 then (if x284005 < 0 then (veneer_branch.j3 k true x284000 x284001 x284002 x284003 x284004 x284005) else (if x284005 > 4294967295 then (veneer_branch.j3 k true x284000 x284001 x284002 x284003 x284004 x284005) else (if x284004 ≥ 0 then (if 0 ≤ x284004 then (if x284004 < (x0.length : Int) then (veneer_branch.j3 k (decide (x284005 > ((rd_T57 x0 x284004).f1))) x284000 x284001 x284002 x284003 x284004 x284005) else (none)) else (none)) else (veneer_branch.j3 k false x284000 x284001 x284002 x284003 x284004 x284005)))) else (if x284004 ≥ 0 then (if x284005 < 0 then (veneer_branch.j3 k true x284000 x284001 x284002 x284003 x284004 x284005) else (if 0 ≤ x284004 then (if x284004 < (x0.length : Int) then (veneer_branch.j3 k (decide (x284005 > ((rd_T57 x0 x284004).f1))) x284000 x284001 x284002 x284003 x284004 x284005) else (none)) else (none))) else (veneer_branch.j3 k false x284000 x284001 x284002 x284003 x284004 x284005)))
def veneer_branch.j3 : Nat → Bool → Int → Int → Int → Int → Int → Int → Option (Int)
  | 0, _, _, _, _, _, _, _ => none
  | k + 1, x56, x284000, x284001, x284002, x284003, x284004, x284005 => if x56 = true then (some 3) else (if x284003 < (-1048576) then (some 3) else (if x284003 > 1048576 then (some 3) else (some 0)))
end
def veneer_branch.f (k : Nat) (l0 : List (S57)) (a1_0 : Int) (a1_1 : Int) (a1_2 : Int) (a1_3 : Int) (a1_4 : Int) (a1_5 : Int) : Option (Int) := if a1_2 = 2 then (veneer_branch.j0 k l0 false a1_0 a1_1 a1_2 a1_3 a1_4 a1_5) else (veneer_branch.j0 k l0 (a1_2 != 3) a1_0 a1_1 a1_2 a1_3 a1_4 a1_5)
theorem veneer_branch.mono_l : ∀ k, (∀ y0 y1 y2 y3 y4 y5 y6 y7, LeO (veneer_branch.j0 k y0 y1 y2 y3 y4 y5 y6 y7) (veneer_branch.j0 (k + 1) y0 y1 y2 y3 y4 y5 y6 y7)) ∧ (∀ y0 y1 y2 y3 y4 y5 y6 y7, LeO (veneer_branch.j1 k y0 y1 y2 y3 y4 y5 y6 y7) (veneer_branch.j1 (k + 1) y0 y1 y2 y3 y4 y5 y6 y7)) ∧ (∀ y0 y1 y2 y3 y4 y5 y6 y7, LeO (veneer_branch.j2 k y0 y1 y2 y3 y4 y5 y6 y7) (veneer_branch.j2 (k + 1) y0 y1 y2 y3 y4 y5 y6 y7)) ∧ (∀ y0 y1 y2 y3 y4 y5 y6, LeO (veneer_branch.j3 k y0 y1 y2 y3 y4 y5 y6) (veneer_branch.j3 (k + 1) y0 y1 y2 y3 y4 y5 y6))
  | 0 => ⟨fun _ _ _ _ _ _ _ _ r h => by simp [veneer_branch.j0] at h, fun _ _ _ _ _ _ _ _ r h => by simp [veneer_branch.j1] at h, fun _ _ _ _ _ _ _ _ r h => by simp [veneer_branch.j2] at h, fun _ _ _ _ _ _ _ r h => by simp [veneer_branch.j3] at h⟩
  | k + 1 => by
    obtain ⟨ih0, ih1, ih2, ih3⟩ := veneer_branch.mono_l k
    refine ⟨?_, ?_, ?_, ?_⟩
    · intro y0 y1 y2 y3 y4 y5 y6 y7
      unfold veneer_branch.j0
      repeat' first
      | (with_reducible exact ih0 _ _ _ _ _ _ _ _)
      | (with_reducible exact ih1 _ _ _ _ _ _ _ _)
      | (with_reducible exact ih2 _ _ _ _ _ _ _ _)
      | (with_reducible exact ih3 _ _ _ _ _ _ _)
      | (with_reducible exact apply_Width.mono _ _)
      | (with_reducible exact LeO.refl _)
      | (with_reducible exact LeO.none _)
      | (with_reducible refine LeO.ite ?_ ?_)
      | (with_reducible refine LeO.bind ?_ (fun _ => ?_))
      | exact ih0 _ _ _ _ _ _ _ _
      | exact ih1 _ _ _ _ _ _ _ _
      | exact ih2 _ _ _ _ _ _ _ _
      | exact ih3 _ _ _ _ _ _ _
      | exact apply_Width.mono _ _
      | exact LeO.none _
      | refine LeO.ite ?_ ?_
      | refine LeO.bind ?_ (fun _ => ?_)
    · intro y0 y1 y2 y3 y4 y5 y6 y7
      unfold veneer_branch.j1
      repeat' first
      | (with_reducible exact ih0 _ _ _ _ _ _ _ _)
      | (with_reducible exact ih1 _ _ _ _ _ _ _ _)
      | (with_reducible exact ih2 _ _ _ _ _ _ _ _)
      | (with_reducible exact ih3 _ _ _ _ _ _ _)
      | (with_reducible exact apply_Width.mono _ _)
      | (with_reducible exact LeO.refl _)
      | (with_reducible exact LeO.none _)
      | (with_reducible refine LeO.ite ?_ ?_)
      | (with_reducible refine LeO.bind ?_ (fun _ => ?_))
      | exact ih0 _ _ _ _ _ _ _ _
      | exact ih1 _ _ _ _ _ _ _ _
      | exact ih2 _ _ _ _ _ _ _ _
      | exact ih3 _ _ _ _ _ _ _
      | exact apply_Width.mono _ _
      | exact LeO.none _
      | refine LeO.ite ?_ ?_
      | refine LeO.bind ?_ (fun _ => ?_)
    · intro y0 y1 y2 y3 y4 y5 y6 y7
      unfold veneer_branch.j2
      repeat' first
      | (with_reducible exact ih0 _ _ _ _ _ _ _ _)
      | (with_reducible exact ih1 _ _ _ _ _ _ _ _)
      | (with_reducible exact ih2 _ _ _ _ _ _ _ _)
      | (with_reducible exact ih3 _ _ _ _ _ _ _)
      | (with_reducible exact apply_Width.mono _ _)
      | (with_reducible exact LeO.refl _)
      | (with_reducible exact LeO.none _)
      | (with_reducible refine LeO.ite ?_ ?_)
      | (with_reducible refine LeO.bind ?_ (fun _ => ?_))
      | exact ih0 _ _ _ _ _ _ _ _
      | exact ih1 _ _ _ _ _ _ _ _
      | exact ih2 _ _ _ _ _ _ _ _
      | exact ih3 _ _ _ _ _ _ _
      | exact apply_Width.mono _ _
      | exact LeO.none _
      | refine LeO.ite ?_ ?_
      | refine LeO.bind ?_ (fun _ => ?_)
    · intro y0 y1 y2 y3 y4 y5 y6
      unfold veneer_branch.j3
      repeat' first
      | (with_reducible exact ih0 _ _ _ _ _ _ _ _)
      | (with_reducible exact ih1 _ _ _ _ _ _ _ _)
      | (with_reducible exact ih2 _ _ _ _ _ _ _ _)
      | (with_reducible exact ih3 _ _ _ _ _ _ _)
      | (with_reducible exact apply_Width.mono _ _)
      | (with_reducible exact LeO.refl _)
      | (with_reducible exact LeO.none _)
      | (with_reducible refine LeO.ite ?_ ?_)
      | (with_reducible refine LeO.bind ?_ (fun _ => ?_))
      | exact ih0 _ _ _ _ _ _ _ _
      | exact ih1 _ _ _ _ _ _ _ _
      | exact ih2 _ _ _ _ _ _ _ _
      | exact ih3 _ _ _ _ _ _ _
      | exact apply_Width.mono _ _
      | exact LeO.none _
      | refine LeO.ite ?_ ?_
      | refine LeO.bind ?_ (fun _ => ?_)
theorem veneer_branch.mono : ∀ a0 a1 a2 a3 a4 a5 a6 k, LeO (veneer_branch.f k a0 a1 a2 a3 a4 a5 a6) (veneer_branch.f (k + 1) a0 a1 a2 a3 a4 a5 a6) := by
  intro a0 a1 a2 a3 a4 a5 a6 k
  obtain ⟨ih0, ih1, ih2, ih3⟩ := veneer_branch.mono_l k
  unfold veneer_branch.f
  repeat' first
      | (with_reducible exact ih0 _ _ _ _ _ _ _ _)
      | (with_reducible exact ih1 _ _ _ _ _ _ _ _)
      | (with_reducible exact ih2 _ _ _ _ _ _ _ _)
      | (with_reducible exact ih3 _ _ _ _ _ _ _)
      | (with_reducible exact apply_Width.mono _ _)
      | (with_reducible exact LeO.refl _)
      | (with_reducible exact LeO.none _)
      | (with_reducible refine LeO.ite ?_ ?_)
      | (with_reducible refine LeO.bind ?_ (fun _ => ?_))
      | exact ih0 _ _ _ _ _ _ _ _
      | exact ih1 _ _ _ _ _ _ _ _
      | exact ih2 _ _ _ _ _ _ _ _
      | exact ih3 _ _ _ _ _ _ _
      | exact apply_Width.mono _ _
      | exact LeO.none _
      | refine LeO.ite ?_ ?_
      | refine LeO.bind ?_ (fun _ => ?_)
set_option maxHeartbeats 8000000 in
set_option maxRecDepth 100000 in
theorem veneer_branch.calls (k : Nat) (A0 : Option Addr) (c0 : Nat) (l0 : List (S57)) (a1_0 : Int) (a1_1 : Int) (a1_2 : Int) (a1_3 : Int) (a1_4 : Int) (a1_5 : Int) (r : Int) (w : World) (hr0 : Kd.C k57 w A0 l0.length l0) (hc0 : l0.length ≤ c0) (h : veneer_branch.f k l0 a1_0 a1_1 a1_2 a1_3 a1_4 a1_5 = some r) :
    Calls Try.prog 27 #[.slice A0 l0.length c0, .agg #[.int .i64 a1_0, .int .i64 a1_1, .int .i64 a1_2, .int .i64 a1_3, .int .i64 a1_4, .int .i64 a1_5]] w fun e w' => e = .returned (.int .i64 r) ∧ Below w.heap.size w w' := by
  have hu48 := Try.underlying48
  have HR0 := Aside0.mk hr0
  have HC0 := Aside0.mk hc0
  clear hr0 hc0
  have HB := Aside0.mk (Below.refl w.heap.size w)
  have H : (if a1_2 = 2 then (veneer_branch.j0 k l0 false a1_0 a1_1 a1_2 a1_3 a1_4 a1_5) else (veneer_branch.j0 k l0 (a1_2 != 3) a1_0 a1_1 a1_2 a1_3 a1_4 a1_5)) = some r := h
  clear h
  have HC3 := Aside0.mk H
  clear H
  go_enter Try.func27, Try.ntmps27
  go_upto_region 1 with (first | ((with_reducible refine gate_dst (N := 3) rfl ?_); (try (refine gate_guard (by rfl) ?_; dsimp only)); refine box_event ?hg (N := 3) ?hd (cs := #[.int .i64 a1_0, .int .i64 a1_1, .int .i64 a1_2, .int .i64 a1_3, .int .i64 a1_4, .int .i64 a1_5]) (t := 48) ?hr ?_; (case hd => rfl); (case hg => rfl); (case hr => first | (go_simp; done) | (go_simp; rfl)); intro gb283 hg w4 hbox hb; have n0_ := Aside0.mk (below_step (by repeat (first | (with_reducible first | exact HB.out | apply below_alloc | apply pw_below_drewN | apply below_drew1) | exact HB.out)) hb); have n1_ := Aside0.mk (hbox); have n2_ := Aside0.mk ((by rw [hg]; exact (below_size (by repeat (first | (with_reducible first | exact HB.out | apply below_alloc | apply pw_below_drewN | apply below_drew1) | exact HB.out))) : w.heap.size ≤ gb283)); have n3_ := Aside0.mk ((by rw [hg]; exact (below_size (by repeat (first | (with_reducible first | exact HB.out | apply below_alloc | apply pw_below_drewN | apply below_drew1) | exact HB.out))) : w.heap.size ≤ gb283)); clear HB; have HB := n0_; have BK283 := n1_; have GW283 := n2_; have GE283 := n3_; clear n0_ n1_ n2_ n3_; clear hb hbox hg))
  repeat (go_quiet (first | ((with_reducible refine gate_dst (N := 3) rfl ?_); (try (refine gate_guard (by rfl) ?_; dsimp only)); refine box_event ?hg (N := 3) ?hd (cs := #[.int .i64 a1_0, .int .i64 a1_1, .int .i64 a1_2, .int .i64 a1_3, .int .i64 a1_4, .int .i64 a1_5]) (t := 48) ?hr ?_; (case hd => rfl); (case hg => rfl); (case hr => first | (go_simp; done) | (go_simp; rfl)); intro gb283 hg w4 hbox hb; have n0_ := Aside0.mk (below_step (by repeat (first | (with_reducible first | exact HB.out | apply below_alloc | apply pw_below_drewN | apply below_drew1) | exact HB.out)) hb); have n1_ := Aside0.mk (hbox); have n2_ := Aside0.mk ((by rw [hg]; exact (below_size (by repeat (first | (with_reducible first | exact HB.out | apply below_alloc | apply pw_below_drewN | apply below_drew1) | exact HB.out))) : w.heap.size ≤ gb283)); have n3_ := Aside0.mk ((by rw [hg]; exact (below_size (by repeat (first | (with_reducible first | exact HB.out | apply below_alloc | apply pw_below_drewN | apply below_drew1) | exact HB.out))) : w.heap.size ≤ gb283)); clear HB; have HB := n0_; have BK283 := n1_; have GW283 := n2_; have GE283 := n3_; clear n0_ n1_ n2_ n3_; clear hb hbox hg)); go_upto_region 1 with (first | ((with_reducible refine gate_dst (N := 3) rfl ?_); (try (refine gate_guard (by rfl) ?_; dsimp only)); refine box_event ?hg (N := 3) ?hd (cs := #[.int .i64 a1_0, .int .i64 a1_1, .int .i64 a1_2, .int .i64 a1_3, .int .i64 a1_4, .int .i64 a1_5]) (t := 48) ?hr ?_; (case hd => rfl); (case hg => rfl); (case hr => first | (go_simp; done) | (go_simp; rfl)); intro gb283 hg w4 hbox hb; have n0_ := Aside0.mk (below_step (by repeat (first | (with_reducible first | exact HB.out | apply below_alloc | apply pw_below_drewN | apply below_drew1) | exact HB.out)) hb); have n1_ := Aside0.mk (hbox); have n2_ := Aside0.mk ((by rw [hg]; exact (below_size (by repeat (first | (with_reducible first | exact HB.out | apply below_alloc | apply pw_below_drewN | apply below_drew1) | exact HB.out))) : w.heap.size ≤ gb283)); have n3_ := Aside0.mk ((by rw [hg]; exact (below_size (by repeat (first | (with_reducible first | exact HB.out | apply below_alloc | apply pw_below_drewN | apply below_drew1) | exact HB.out))) : w.heap.size ≤ gb283)); clear HB; have HB := n0_; have BK283 := n1_; have GW283 := n2_; have GE283 := n3_; clear n0_ n1_ n2_ n3_; clear hb hbox hg)))
  (try simp only [Act.put, List.setIfInBounds_toArray, List.set_cons_zero, List.set_cons_succ])
  go_cut [5] (fun v5 wc => ∃ (kq : Nat) (x5_2 : Bool), v5 = .bool x5_2 ∧ Aside0 (veneer_branch.j0 kq l0 x5_2 a1_0 a1_1 a1_2 a1_3 a1_4 a1_5 = some r) ∧ Aside0 (kq ≤ k) ∧ Aside0 (wc.heap[gb283]? = some (.cells #[.int .i64 a1_0, .int .i64 a1_1, .int .i64 a1_2, .int .i64 a1_3, .int .i64 a1_4, .int .i64 a1_5] 48 (0, 0))) ∧ Aside0 (Below w.heap.size w wc))
  case first =>
    have H := HC3.out
    clear HC3
    by_cases c5 : a1_2 = 2
    · rw [if_pos c5] at H
      have c5b0 : (a1_2 == 2) = true := beq_iff_eq.mpr c5
      have c5b1 : (a1_2 != 2) = false := bne_eq_false_iff_eq.mpr c5
      clear c5
      (first | rw [c5b0] | (simp only [i64_w, i32_w]; rw [c5b0]) | skip)
      have H' := Aside0.mk H
      clear H
      have hcz6_0 : w4.cell? ⟨gb283, 0, none⟩ = some (.int .i64 a1_0) := (blk_cell BK283.out 0).trans rfl
      have hcz6_1 : w4.cell? ⟨gb283, 1, none⟩ = some (.int .i64 a1_1) := (blk_cell BK283.out 1).trans rfl
      have hcz6_2 : w4.cell? ⟨gb283, 2, none⟩ = some (.int .i64 a1_2) := (blk_cell BK283.out 2).trans rfl
      have hcz6_3 : w4.cell? ⟨gb283, 3, none⟩ = some (.int .i64 a1_3) := (blk_cell BK283.out 3).trans rfl
      have hcz6_4 : w4.cell? ⟨gb283, 4, none⟩ = some (.int .i64 a1_4) := (blk_cell BK283.out 4).trans rfl
      have hcz6_5 : w4.cell? ⟨gb283, 5, none⟩ = some (.int .i64 a1_5) := (blk_cell BK283.out 5).trans rfl
      have hfz6_0 := blk_frozen BK283.out 0
      have hfz6_1 := blk_frozen BK283.out 1
      have hfz6_2 := blk_frozen BK283.out 2
      have hfz6_3 := blk_frozen BK283.out 3
      have hfz6_4 := blk_frozen BK283.out 4
      have hfz6_5 := blk_frozen BK283.out 5
      go_wp2
      repeat (go_quiet (fail); try go_wp2)
      go_meet
      case rel => exact ⟨_, (false), (by first | rfl | (simp; done) | (simp [*]; done)), H', ⟨by first | omega | exact Nat.le_refl _⟩, ⟨by (with_reducible repeat (first | refine blk_drewN ?_ _ | refine blk_drew ?_ | refine blk_alloc ?_ _)); exact BK283.out⟩, ⟨by repeat (first | (with_reducible first | exact HB.out | apply below_alloc | apply pw_below_drewN | apply below_drew1 | refine below_set ?_ GE283.out) | exact HB.out)⟩⟩
    · rw [if_neg c5] at H
      have c5b0 : (a1_2 == 2) = false := beq_eq_false_iff_ne.mpr c5
      have c5b1 : (a1_2 != 2) = true := bne_iff_ne.mpr c5
      (first | rw [c5b0] | (simp only [i64_w, i32_w]; rw [c5b0]) | skip)
      have H' := Aside0.mk H
      clear H
      have hcz7_0 : w4.cell? ⟨gb283, 0, none⟩ = some (.int .i64 a1_0) := (blk_cell BK283.out 0).trans rfl
      have hcz7_1 : w4.cell? ⟨gb283, 1, none⟩ = some (.int .i64 a1_1) := (blk_cell BK283.out 1).trans rfl
      have hcz7_2 : w4.cell? ⟨gb283, 2, none⟩ = some (.int .i64 a1_2) := (blk_cell BK283.out 2).trans rfl
      have hcz7_3 : w4.cell? ⟨gb283, 3, none⟩ = some (.int .i64 a1_3) := (blk_cell BK283.out 3).trans rfl
      have hcz7_4 : w4.cell? ⟨gb283, 4, none⟩ = some (.int .i64 a1_4) := (blk_cell BK283.out 4).trans rfl
      have hcz7_5 : w4.cell? ⟨gb283, 5, none⟩ = some (.int .i64 a1_5) := (blk_cell BK283.out 5).trans rfl
      have hfz7_0 := blk_frozen BK283.out 0
      have hfz7_1 := blk_frozen BK283.out 1
      have hfz7_2 := blk_frozen BK283.out 2
      have hfz7_3 := blk_frozen BK283.out 3
      have hfz7_4 := blk_frozen BK283.out 4
      have hfz7_5 := blk_frozen BK283.out 5
      go_wp2
      repeat (go_quiet (fail); try go_wp2)
      go_meet
      case rel => exact ⟨_, ((a1_2 != 3)), (by first | rfl | (simp; done) | (simp [*]; done)), H', ⟨by first | omega | exact Nat.le_refl _⟩, ⟨by (with_reducible repeat (first | refine blk_drewN ?_ _ | refine blk_drew ?_ | refine blk_alloc ?_ _)); exact BK283.out⟩, ⟨by repeat (first | (with_reducible first | exact HB.out | apply below_alloc | apply pw_below_drewN | apply below_drew1 | refine below_set ?_ GE283.out) | exact HB.out)⟩⟩
  case rest =>
    clear HC3
    try clear c2
    try clear p2
    try clear c5
    try clear c5b0
    try clear c5b1
    try clear hcz6_0
    try clear hcz6_1
    try clear hcz6_2
    try clear hcz6_3
    try clear hcz6_4
    try clear hcz6_5
    try clear hcz7_0
    try clear hcz7_1
    try clear hcz7_2
    try clear hcz7_3
    try clear hcz7_4
    try clear hcz7_5
    try clear hfz6_0
    try clear hfz6_1
    try clear hfz6_2
    try clear hfz6_3
    try clear hfz6_4
    try clear hfz6_5
    try clear hfz7_0
    try clear hfz7_1
    try clear hfz7_2
    try clear hfz7_3
    try clear hfz7_4
    try clear hfz7_5
    obtain ⟨kq, x5_2, rfl, HA, HJ2, BK283, HB⟩ := hcut
    cases kq with
    | zero => exact absurd HA.out (by simp [veneer_branch.j0])
    | succ kj2 =>
      have H := HA.out
      clear HA
      simp only [veneer_branch.j0] at H
      by_cases c8 : x5_2 = true
      · subst c8
        have H1 : (some 4) = some r := by rw [if_pos rfl] at H; exact H
        clear H
        have H := H1
        clear H1
        obtain rfl := Option.some.inj H
        go_wp2
        repeat (go_quiet (fail); try go_wp2)
        go_ret
        exact ⟨by first | rfl | (simp [errW_none, errW_some] <;> rfl) | (simp [*, errW_none, errW_some] <;> rfl), by repeat (first | (with_reducible first | exact HB.out | apply below_alloc | apply pw_below_drewN | apply below_drew1 | refine below_set ?_ GE283.out) | exact HB.out)⟩
      · replace c8 := Bool.eq_false_iff.mpr c8
        subst c8
        have H1 : (if a1_0 < 0 then (veneer_branch.j1 kj2 l0 true a1_0 a1_1 a1_2 a1_3 a1_4 a1_5) else (if a1_0 ≥ (l0.length : Int) then (veneer_branch.j1 kj2 l0 true a1_0 a1_1 a1_2 a1_3 a1_4 a1_5) else (if a1_4 < (-1) then (veneer_branch.j1 kj2 l0 true a1_0 a1_1 a1_2 a1_3 a1_4 a1_5) else (veneer_branch.j1 kj2 l0 (decide (a1_4 ≥ (l0.length : Int))) a1_0 a1_1 a1_2 a1_3 a1_4 a1_5)))) = some r := by rw [if_neg (show ¬ (false = true) by decide)] at H; exact H
        clear H
        have H := H1
        clear H1
        have HC9 := Aside0.mk H
        clear H
        go_upto_region 3 with (fail)
        repeat (go_quiet (fail); go_upto_region 3 with (fail))
        go_cut [14] (fun v14 wc => ∃ (kq : Nat) (x14_8 : Bool), v14 = .bool x14_8 ∧ Aside0 (veneer_branch.j1 kq l0 x14_8 a1_0 a1_1 a1_2 a1_3 a1_4 a1_5 = some r) ∧ Aside0 (kq ≤ kj2) ∧ Aside0 (wc.heap[gb283]? = some (.cells #[.int .i64 a1_0, .int .i64 a1_1, .int .i64 a1_2, .int .i64 a1_3, .int .i64 a1_4, .int .i64 a1_5] 48 (0, 0))) ∧ Aside0 (Below w.heap.size w wc))
        case first =>
          have H := HC9.out
          clear HC9
          by_cases c10 : a1_0 < 0
          · rw [if_pos c10] at H
            have c10b0 : decide (a1_0 < 0) = true := decide_eq_true c10
            clear c10
            (first | rw [c10b0] | (simp only [i64_w, i32_w]; rw [c10b0]) | skip)
            have H' := Aside0.mk H
            clear H
            have hcz11_0 : wc.cell? ⟨gb283, 0, none⟩ = some (.int .i64 a1_0) := (blk_cell BK283.out 0).trans rfl
            have hcz11_1 : wc.cell? ⟨gb283, 1, none⟩ = some (.int .i64 a1_1) := (blk_cell BK283.out 1).trans rfl
            have hcz11_2 : wc.cell? ⟨gb283, 2, none⟩ = some (.int .i64 a1_2) := (blk_cell BK283.out 2).trans rfl
            have hcz11_3 : wc.cell? ⟨gb283, 3, none⟩ = some (.int .i64 a1_3) := (blk_cell BK283.out 3).trans rfl
            have hcz11_4 : wc.cell? ⟨gb283, 4, none⟩ = some (.int .i64 a1_4) := (blk_cell BK283.out 4).trans rfl
            have hcz11_5 : wc.cell? ⟨gb283, 5, none⟩ = some (.int .i64 a1_5) := (blk_cell BK283.out 5).trans rfl
            have hfz11_0 := blk_frozen BK283.out 0
            have hfz11_1 := blk_frozen BK283.out 1
            have hfz11_2 := blk_frozen BK283.out 2
            have hfz11_3 := blk_frozen BK283.out 3
            have hfz11_4 := blk_frozen BK283.out 4
            have hfz11_5 := blk_frozen BK283.out 5
            go_wp2
            repeat (go_quiet (fail); try go_wp2)
            go_meet
            case rel => exact ⟨_, (true), (by first | rfl | (simp; done) | (simp [*]; done)), H', ⟨by have := HJ2.out; first | omega | exact Nat.le_refl _⟩, ⟨by (with_reducible repeat (first | refine blk_drewN ?_ _ | refine blk_drew ?_ | refine blk_alloc ?_ _)); exact BK283.out⟩, ⟨by repeat (first | (with_reducible first | exact HB.out | apply below_alloc | apply pw_below_drewN | apply below_drew1 | refine below_set ?_ GE283.out) | exact HB.out)⟩⟩
          · rw [if_neg c10] at H
            have c10b0 : decide (a1_0 < 0) = false := decide_eq_false c10
            clear c10
            (first | rw [c10b0] | (simp only [i64_w, i32_w]; rw [c10b0]) | skip)
            by_cases c12 : a1_0 ≥ (l0.length : Int)
            · rw [if_pos c12] at H
              have c12b0 : decide ((l0.length : Int) ≤ a1_0) = true := decide_eq_true c12
              clear c12
              have H' := Aside0.mk H
              clear H
              have hcz13_0 : wc.cell? ⟨gb283, 0, none⟩ = some (.int .i64 a1_0) := (blk_cell BK283.out 0).trans rfl
              have hcz13_1 : wc.cell? ⟨gb283, 1, none⟩ = some (.int .i64 a1_1) := (blk_cell BK283.out 1).trans rfl
              have hcz13_2 : wc.cell? ⟨gb283, 2, none⟩ = some (.int .i64 a1_2) := (blk_cell BK283.out 2).trans rfl
              have hcz13_3 : wc.cell? ⟨gb283, 3, none⟩ = some (.int .i64 a1_3) := (blk_cell BK283.out 3).trans rfl
              have hcz13_4 : wc.cell? ⟨gb283, 4, none⟩ = some (.int .i64 a1_4) := (blk_cell BK283.out 4).trans rfl
              have hcz13_5 : wc.cell? ⟨gb283, 5, none⟩ = some (.int .i64 a1_5) := (blk_cell BK283.out 5).trans rfl
              have hfz13_0 := blk_frozen BK283.out 0
              have hfz13_1 := blk_frozen BK283.out 1
              have hfz13_2 := blk_frozen BK283.out 2
              have hfz13_3 := blk_frozen BK283.out 3
              have hfz13_4 := blk_frozen BK283.out 4
              have hfz13_5 := blk_frozen BK283.out 5
              go_wp2
              repeat (go_quiet (fail); try go_wp2)
              go_meet
              case rel => exact ⟨_, (true), (by first | rfl | (simp; done) | (simp [*]; done)), H', ⟨by have := HJ2.out; first | omega | exact Nat.le_refl _⟩, ⟨by (with_reducible repeat (first | refine blk_drewN ?_ _ | refine blk_drew ?_ | refine blk_alloc ?_ _)); exact BK283.out⟩, ⟨by repeat (first | (with_reducible first | exact HB.out | apply below_alloc | apply pw_below_drewN | apply below_drew1 | refine below_set ?_ GE283.out) | exact HB.out)⟩⟩
            · rw [if_neg c12] at H
              have c12b0 : decide ((l0.length : Int) ≤ a1_0) = false := decide_eq_false c12
              clear c12
              by_cases c14 : a1_4 < (-1)
              · rw [if_pos c14] at H
                have c14b0 : decide (a1_4 < (-1)) = true := decide_eq_true c14
                clear c14
                have H' := Aside0.mk H
                clear H
                have hcz15_0 : wc.cell? ⟨gb283, 0, none⟩ = some (.int .i64 a1_0) := (blk_cell BK283.out 0).trans rfl
                have hcz15_1 : wc.cell? ⟨gb283, 1, none⟩ = some (.int .i64 a1_1) := (blk_cell BK283.out 1).trans rfl
                have hcz15_2 : wc.cell? ⟨gb283, 2, none⟩ = some (.int .i64 a1_2) := (blk_cell BK283.out 2).trans rfl
                have hcz15_3 : wc.cell? ⟨gb283, 3, none⟩ = some (.int .i64 a1_3) := (blk_cell BK283.out 3).trans rfl
                have hcz15_4 : wc.cell? ⟨gb283, 4, none⟩ = some (.int .i64 a1_4) := (blk_cell BK283.out 4).trans rfl
                have hcz15_5 : wc.cell? ⟨gb283, 5, none⟩ = some (.int .i64 a1_5) := (blk_cell BK283.out 5).trans rfl
                have hfz15_0 := blk_frozen BK283.out 0
                have hfz15_1 := blk_frozen BK283.out 1
                have hfz15_2 := blk_frozen BK283.out 2
                have hfz15_3 := blk_frozen BK283.out 3
                have hfz15_4 := blk_frozen BK283.out 4
                have hfz15_5 := blk_frozen BK283.out 5
                go_wp2
                repeat (go_quiet (fail); try go_wp2)
                go_meet
                case rel => exact ⟨_, (true), (by first | rfl | (simp; done) | (simp [*]; done)), H', ⟨by have := HJ2.out; first | omega | exact Nat.le_refl _⟩, ⟨by (with_reducible repeat (first | refine blk_drewN ?_ _ | refine blk_drew ?_ | refine blk_alloc ?_ _)); exact BK283.out⟩, ⟨by repeat (first | (with_reducible first | exact HB.out | apply below_alloc | apply pw_below_drewN | apply below_drew1 | refine below_set ?_ GE283.out) | exact HB.out)⟩⟩
              · rw [if_neg c14] at H
                have c14b0 : decide (a1_4 < (-1)) = false := decide_eq_false c14
                clear c14
                have H' := Aside0.mk H
                clear H
                have hcz16_0 : wc.cell? ⟨gb283, 0, none⟩ = some (.int .i64 a1_0) := (blk_cell BK283.out 0).trans rfl
                have hcz16_1 : wc.cell? ⟨gb283, 1, none⟩ = some (.int .i64 a1_1) := (blk_cell BK283.out 1).trans rfl
                have hcz16_2 : wc.cell? ⟨gb283, 2, none⟩ = some (.int .i64 a1_2) := (blk_cell BK283.out 2).trans rfl
                have hcz16_3 : wc.cell? ⟨gb283, 3, none⟩ = some (.int .i64 a1_3) := (blk_cell BK283.out 3).trans rfl
                have hcz16_4 : wc.cell? ⟨gb283, 4, none⟩ = some (.int .i64 a1_4) := (blk_cell BK283.out 4).trans rfl
                have hcz16_5 : wc.cell? ⟨gb283, 5, none⟩ = some (.int .i64 a1_5) := (blk_cell BK283.out 5).trans rfl
                have hfz16_0 := blk_frozen BK283.out 0
                have hfz16_1 := blk_frozen BK283.out 1
                have hfz16_2 := blk_frozen BK283.out 2
                have hfz16_3 := blk_frozen BK283.out 3
                have hfz16_4 := blk_frozen BK283.out 4
                have hfz16_5 := blk_frozen BK283.out 5
                go_wp2
                repeat (go_quiet (fail); try go_wp2)
                go_meet
                case rel => exact ⟨_, (decide (a1_4 ≥ (l0.length : Int))), (by first | rfl | (simp; done) | (simp [*]; done)), H', ⟨by have := HJ2.out; first | omega | exact Nat.le_refl _⟩, ⟨by (with_reducible repeat (first | refine blk_drewN ?_ _ | refine blk_drew ?_ | refine blk_alloc ?_ _)); exact BK283.out⟩, ⟨by repeat (first | (with_reducible first | exact HB.out | apply below_alloc | apply pw_below_drewN | apply below_drew1 | refine below_set ?_ GE283.out) | exact HB.out)⟩⟩
        case rest =>
          clear HC9
          try clear c1
          try clear c2
          try clear p2
          try clear c5
          try clear c5b0
          try clear c5b1
          try clear c8
          try clear c10
          try clear c10b0
          try clear c12
          try clear c12b0
          try clear c14
          try clear c14b0
          try clear hcz11_0
          try clear hcz11_1
          try clear hcz11_2
          try clear hcz11_3
          try clear hcz11_4
          try clear hcz11_5
          try clear hcz13_0
          try clear hcz13_1
          try clear hcz13_2
          try clear hcz13_3
          try clear hcz13_4
          try clear hcz13_5
          try clear hcz15_0
          try clear hcz15_1
          try clear hcz15_2
          try clear hcz15_3
          try clear hcz15_4
          try clear hcz15_5
          try clear hcz16_0
          try clear hcz16_1
          try clear hcz16_2
          try clear hcz16_3
          try clear hcz16_4
          try clear hcz16_5
          try clear hcz6_0
          try clear hcz6_1
          try clear hcz6_2
          try clear hcz6_3
          try clear hcz6_4
          try clear hcz6_5
          try clear hcz7_0
          try clear hcz7_1
          try clear hcz7_2
          try clear hcz7_3
          try clear hcz7_4
          try clear hcz7_5
          try clear hfz11_0
          try clear hfz11_1
          try clear hfz11_2
          try clear hfz11_3
          try clear hfz11_4
          try clear hfz11_5
          try clear hfz13_0
          try clear hfz13_1
          try clear hfz13_2
          try clear hfz13_3
          try clear hfz13_4
          try clear hfz13_5
          try clear hfz15_0
          try clear hfz15_1
          try clear hfz15_2
          try clear hfz15_3
          try clear hfz15_4
          try clear hfz15_5
          try clear hfz16_0
          try clear hfz16_1
          try clear hfz16_2
          try clear hfz16_3
          try clear hfz16_4
          try clear hfz16_5
          try clear hfz6_0
          try clear hfz6_1
          try clear hfz6_2
          try clear hfz6_3
          try clear hfz6_4
          try clear hfz6_5
          try clear hfz7_0
          try clear hfz7_1
          try clear hfz7_2
          try clear hfz7_3
          try clear hfz7_4
          try clear hfz7_5
          try clear p2
          obtain ⟨kq, x14_8, rfl, HA, HJ8, BK283, HB⟩ := hcut
          cases kq with
          | zero => exact absurd HA.out (by simp [veneer_branch.j1])
          | succ kj8 =>
            have H := HA.out
            clear HA
            simp only [veneer_branch.j1] at H
            by_cases c17 : x14_8 = true
            · subst c17
              have H1 : (some 3) = some r := by rw [if_pos rfl] at H; exact H
              clear H
              have H := H1
              clear H1
              obtain rfl := Option.some.inj H
              go_wp2
              repeat (go_quiet (fail); try go_wp2)
              go_ret
              exact ⟨by first | rfl | (simp [errW_none, errW_some] <;> rfl) | (simp [*, errW_none, errW_some] <;> rfl), by repeat (first | (with_reducible first | exact HB.out | apply below_alloc | apply pw_below_drewN | apply below_drew1 | refine below_set ?_ GE283.out) | exact HB.out)⟩
            · replace c17 := Bool.eq_false_iff.mpr c17
              subst c17
              have H1 : (if a1_1 < 0 then (veneer_branch.j2 kj8 l0 true a1_0 a1_1 a1_2 a1_3 a1_4 a1_5) else (if 0 ≤ a1_0 then (if a1_0 < (l0.length : Int) then ((apply_Width.f kj8 a1_2).bind fun t285 => (veneer_branch.j2 kj8 l0 (decide (a1_1 > (wrap64 (((rd_T57 l0 a1_0).f1) - t285)))) a1_0 a1_1 a1_2 a1_3 a1_4 a1_5)) else (none)) else (none))) = some r := by rw [if_neg (show ¬ (false = true) by decide)] at H; exact H
              clear H
              have H := H1
              clear H1
              have HC18 := Aside0.mk H
              clear H
              go_upto_region 5 with (fail)
              repeat (go_quiet (fail); go_upto_region 5 with (fail))
              go_cut [37] (fun v37 wc => ∃ (kq : Nat) (x37_17 : Bool), v37 = .bool x37_17 ∧ Aside0 (veneer_branch.j2 kq l0 x37_17 a1_0 a1_1 a1_2 a1_3 a1_4 a1_5 = some r) ∧ Aside0 (kq ≤ kj8) ∧ Aside0 (wc.heap[gb283]? = some (.cells #[.int .i64 a1_0, .int .i64 a1_1, .int .i64 a1_2, .int .i64 a1_3, .int .i64 a1_4, .int .i64 a1_5] 48 (0, 0))) ∧ Aside0 (Below w.heap.size w wc))
              case first =>
                have H := HC18.out
                clear HC18
                by_cases c19 : a1_1 < 0
                · rw [if_pos c19] at H
                  have c19b0 : decide (a1_1 < 0) = true := decide_eq_true c19
                  clear c19
                  (first | rw [c19b0] | (simp only [i64_w, i32_w]; rw [c19b0]) | skip)
                  have H' := Aside0.mk H
                  clear H
                  have hcz20_0 : wc.cell? ⟨gb283, 0, none⟩ = some (.int .i64 a1_0) := (blk_cell BK283.out 0).trans rfl
                  have hcz20_1 : wc.cell? ⟨gb283, 1, none⟩ = some (.int .i64 a1_1) := (blk_cell BK283.out 1).trans rfl
                  have hcz20_2 : wc.cell? ⟨gb283, 2, none⟩ = some (.int .i64 a1_2) := (blk_cell BK283.out 2).trans rfl
                  have hcz20_3 : wc.cell? ⟨gb283, 3, none⟩ = some (.int .i64 a1_3) := (blk_cell BK283.out 3).trans rfl
                  have hcz20_4 : wc.cell? ⟨gb283, 4, none⟩ = some (.int .i64 a1_4) := (blk_cell BK283.out 4).trans rfl
                  have hcz20_5 : wc.cell? ⟨gb283, 5, none⟩ = some (.int .i64 a1_5) := (blk_cell BK283.out 5).trans rfl
                  have hfz20_0 := blk_frozen BK283.out 0
                  have hfz20_1 := blk_frozen BK283.out 1
                  have hfz20_2 := blk_frozen BK283.out 2
                  have hfz20_3 := blk_frozen BK283.out 3
                  have hfz20_4 := blk_frozen BK283.out 4
                  have hfz20_5 := blk_frozen BK283.out 5
                  go_wp2
                  repeat (go_quiet (fail); try go_wp2)
                  go_meet
                  case rel => exact ⟨_, (true), (by first | rfl | (simp; done) | (simp [*]; done)), H', ⟨by have := HJ2.out; have := HJ8.out; first | omega | exact Nat.le_refl _⟩, ⟨by (with_reducible repeat (first | refine blk_drewN ?_ _ | refine blk_drew ?_ | refine blk_alloc ?_ _)); exact BK283.out⟩, ⟨by repeat (first | (with_reducible first | exact HB.out | apply below_alloc | apply pw_below_drewN | apply below_drew1 | refine below_set ?_ GE283.out) | exact HB.out)⟩⟩
                · rw [if_neg c19] at H
                  have c19b0 : decide (a1_1 < 0) = false := decide_eq_false c19
                  clear c19
                  (first | rw [c19b0] | (simp only [i64_w, i32_w]; rw [c19b0]) | skip)
                  by_cases c21 : 0 ≤ a1_0
                  · rw [if_pos c21] at H
                    have c21b0 : decide (0 ≤ a1_0) = true := decide_eq_true c21
                    clear c21
                    by_cases c22 : a1_0 < (l0.length : Int)
                    · rw [if_pos c22] at H
                      have c22b0 : decide (a1_0 < (l0.length : Int)) = true := decide_eq_true c22
                      clear c22
                      replace H := Option.bind_eq_some_iff.mp H
                      obtain ⟨t285, A230, H⟩ := H
                      replace H : (veneer_branch.j2 kj8 l0 (decide (a1_1 > (wrap64 (((rd_T57 l0 a1_0).f1) - t285)))) a1_0 a1_1 a1_2 a1_3 a1_4 a1_5) = some r := H
                      have A23 := Aside0.mk A230
                      clear A230
                      have H' := Aside0.mk H
                      clear H
                      have hcz24_0 : wc.cell? ⟨gb283, 0, none⟩ = some (.int .i64 a1_0) := (blk_cell BK283.out 0).trans rfl
                      have hcz24_1 : wc.cell? ⟨gb283, 1, none⟩ = some (.int .i64 a1_1) := (blk_cell BK283.out 1).trans rfl
                      have hcz24_2 : wc.cell? ⟨gb283, 2, none⟩ = some (.int .i64 a1_2) := (blk_cell BK283.out 2).trans rfl
                      have hcz24_3 : wc.cell? ⟨gb283, 3, none⟩ = some (.int .i64 a1_3) := (blk_cell BK283.out 3).trans rfl
                      have hcz24_4 : wc.cell? ⟨gb283, 4, none⟩ = some (.int .i64 a1_4) := (blk_cell BK283.out 4).trans rfl
                      have hcz24_5 : wc.cell? ⟨gb283, 5, none⟩ = some (.int .i64 a1_5) := (blk_cell BK283.out 5).trans rfl
                      have hfz24_0 := blk_frozen BK283.out 0
                      have hfz24_1 := blk_frozen BK283.out 1
                      have hfz24_2 := blk_frozen BK283.out 2
                      have hfz24_3 := blk_frozen BK283.out 3
                      have hfz24_4 := blk_frozen BK283.out 4
                      have hfz24_5 := blk_frozen BK283.out 5
                      have p284 : 0 ≤ (a1_0 : Int) := of_decide_eq_true (by first | (with_reducible assumption) | assumption)
                      have q284 : a1_0 < (l0.length : Int) := of_decide_eq_true (by first | (with_reducible assumption) | assumption)
                      obtain ⟨ad284, e284, hx284_0, hx284_1, hx284_2⟩ := at_T57 HR0.out a1_0 p284 q284
                      cases e284
                      replace hx284_0 := (HB.out.cell (World.block_lt_of_cell? w _ hx284_0)).trans hx284_0
                      replace hx284_1 := (HB.out.cell (World.block_lt_of_cell? w _ hx284_1)).trans hx284_1
                      replace hx284_2 := (HB.out.cell (World.block_lt_of_cell? w _ hx284_2)).trans hx284_2
                      replace p284 := eq_true p284
                      replace q284 := eq_true q284
                      go_wp2_with (first | (go_at_call 41; (with_reducible refine (apply_Width.calls kj8 a1_2 t285 _ A23.out).mono ?_); rintro e w' ⟨rfl, ⟨nd, rfl⟩⟩; (try first | exact ⟨rfl, _, World.drewN_drewN _ _ _⟩ | exact ⟨rfl, _, Eq.trans (World.drewN_drewN _ _ _) (congrArg (World.drewN _) (Nat.add_assoc _ _ _))⟩)))
                      repeat (go_quiet (first | (go_at_call 41; (with_reducible refine (apply_Width.calls kj8 a1_2 t285 _ A23.out).mono ?_); rintro e w' ⟨rfl, ⟨nd, rfl⟩⟩; (try first | exact ⟨rfl, _, World.drewN_drewN _ _ _⟩ | exact ⟨rfl, _, Eq.trans (World.drewN_drewN _ _ _) (congrArg (World.drewN _) (Nat.add_assoc _ _ _))⟩))); try go_wp2_with (first | (go_at_call 41; (with_reducible refine (apply_Width.calls kj8 a1_2 t285 _ A23.out).mono ?_); rintro e w' ⟨rfl, ⟨nd, rfl⟩⟩; (try first | exact ⟨rfl, _, World.drewN_drewN _ _ _⟩ | exact ⟨rfl, _, Eq.trans (World.drewN_drewN _ _ _) (congrArg (World.drewN _) (Nat.add_assoc _ _ _))⟩))))
                      go_meet
                      case rel => exact ⟨_, (decide (a1_1 > (wrap64 (((rd_T57 l0 a1_0).f1) - t285)))), (by first | rfl | (simp; done) | (simp [*]; done)), H', ⟨by have := HJ2.out; have := HJ8.out; first | omega | exact Nat.le_refl _⟩, ⟨by (with_reducible repeat (first | refine blk_drewN ?_ _ | refine blk_drew ?_ | refine blk_alloc ?_ _)); exact BK283.out⟩, ⟨by repeat (first | (with_reducible first | exact HB.out | apply below_alloc | apply pw_below_drewN | apply below_drew1 | refine below_set ?_ GE283.out) | exact HB.out)⟩⟩
                    · rw [if_neg c22] at H
                      exact absurd H (by simp)
                  · rw [if_neg c21] at H
                    exact absurd H (by simp)
              case rest =>
                clear HC18
                try clear c1
                try clear c2
                try clear p2
                try clear q2
                try clear hx2
                try clear c5
                try clear c5b0
                try clear c5b1
                try clear p6
                try clear c8
                try clear c10
                try clear c10b0
                try clear c12
                try clear c12b0
                try clear c14
                try clear c14b0
                try clear c17
                try clear c19
                try clear c19b0
                try clear c21
                try clear c21b0
                try clear c22
                try clear c22b0
                try clear hcz11_0
                try clear hcz11_1
                try clear hcz11_2
                try clear hcz11_3
                try clear hcz11_4
                try clear hcz11_5
                try clear hcz13_0
                try clear hcz13_1
                try clear hcz13_2
                try clear hcz13_3
                try clear hcz13_4
                try clear hcz13_5
                try clear hcz15_0
                try clear hcz15_1
                try clear hcz15_2
                try clear hcz15_3
                try clear hcz15_4
                try clear hcz15_5
                try clear hcz16_0
                try clear hcz16_1
                try clear hcz16_2
                try clear hcz16_3
                try clear hcz16_4
                try clear hcz16_5
                try clear hcz20_0
                try clear hcz20_1
                try clear hcz20_2
                try clear hcz20_3
                try clear hcz20_4
                try clear hcz20_5
                try clear hcz24_0
                try clear hcz24_1
                try clear hcz24_2
                try clear hcz24_3
                try clear hcz24_4
                try clear hcz24_5
                try clear hcz6_0
                try clear hcz6_1
                try clear hcz6_2
                try clear hcz6_3
                try clear hcz6_4
                try clear hcz6_5
                try clear hcz7_0
                try clear hcz7_1
                try clear hcz7_2
                try clear hcz7_3
                try clear hcz7_4
                try clear hcz7_5
                try clear hfz11_0
                try clear hfz11_1
                try clear hfz11_2
                try clear hfz11_3
                try clear hfz11_4
                try clear hfz11_5
                try clear hfz13_0
                try clear hfz13_1
                try clear hfz13_2
                try clear hfz13_3
                try clear hfz13_4
                try clear hfz13_5
                try clear hfz15_0
                try clear hfz15_1
                try clear hfz15_2
                try clear hfz15_3
                try clear hfz15_4
                try clear hfz15_5
                try clear hfz16_0
                try clear hfz16_1
                try clear hfz16_2
                try clear hfz16_3
                try clear hfz16_4
                try clear hfz16_5
                try clear hfz20_0
                try clear hfz20_1
                try clear hfz20_2
                try clear hfz20_3
                try clear hfz20_4
                try clear hfz20_5
                try clear hfz24_0
                try clear hfz24_1
                try clear hfz24_2
                try clear hfz24_3
                try clear hfz24_4
                try clear hfz24_5
                try clear hfz6_0
                try clear hfz6_1
                try clear hfz6_2
                try clear hfz6_3
                try clear hfz6_4
                try clear hfz6_5
                try clear hfz7_0
                try clear hfz7_1
                try clear hfz7_2
                try clear hfz7_3
                try clear hfz7_4
                try clear hfz7_5
                try clear hx284_0
                try clear hx284_1
                try clear hx284_2
                try clear p2
                try clear p284
                try clear q284
                obtain ⟨kq, x37_17, rfl, HA, HJ17, BK283, HB⟩ := hcut
                cases kq with
                | zero => exact absurd HA.out (by simp [veneer_branch.j2])
                | succ kj17 =>
                  have H := HA.out
                  clear HA
                  simp only [veneer_branch.j2] at H
                  by_cases c25 : x37_17 = true
                  · subst c25
                    have H1 : (some 3) = some r := by rw [if_pos rfl] at H; exact H
                    clear H
                    have H := H1
                    clear H1
                    obtain rfl := Option.some.inj H
                    go_wp2
                    repeat (go_quiet (fail); try go_wp2)
                    go_ret
                    exact ⟨by first | rfl | (simp [errW_none, errW_some] <;> rfl) | (simp [*, errW_none, errW_some] <;> rfl), by repeat (first | (with_reducible first | exact HB.out | apply below_alloc | apply pw_below_drewN | apply below_drew1 | refine below_set ?_ GE283.out) | exact HB.out)⟩
                  · replace c25 := Bool.eq_false_iff.mpr c25
                    subst c25
                    have H1 : (if a1_4 < 0 then (if a1_5 < 0 then (veneer_branch.j3 kj17 true a1_0 a1_1 a1_2 a1_3 a1_4 a1_5) else (if a1_5 > 4294967295 then (veneer_branch.j3 kj17 true a1_0 a1_1 a1_2 a1_3 a1_4 a1_5) else (if a1_4 ≥ 0 then (if 0 ≤ a1_4 then (if a1_4 < (l0.length : Int) then (veneer_branch.j3 kj17 (decide (a1_5 > ((rd_T57 l0 a1_4).f1))) a1_0 a1_1 a1_2 a1_3 a1_4 a1_5) else (none)) else (none)) else (veneer_branch.j3 kj17 false a1_0 a1_1 a1_2 a1_3 a1_4 a1_5)))) else (if a1_4 ≥ 0 then (if a1_5 < 0 then (veneer_branch.j3 kj17 true a1_0 a1_1 a1_2 a1_3 a1_4 a1_5) else (if 0 ≤ a1_4 then (if a1_4 < (l0.length : Int) then (veneer_branch.j3 kj17 (decide (a1_5 > ((rd_T57 l0 a1_4).f1))) a1_0 a1_1 a1_2 a1_3 a1_4 a1_5) else (none)) else (none))) else (veneer_branch.j3 kj17 false a1_0 a1_1 a1_2 a1_3 a1_4 a1_5))) = some r := by rw [if_neg (show ¬ (false = true) by decide)] at H; exact H
                    clear H
                    have H := H1
                    clear H1
                    have HC26 := Aside0.mk H
                    clear H
                    go_upto_region 7 with (fail)
                    repeat (go_quiet (fail); go_upto_region 7 with (fail))
                    go_cut [56] (fun v56 wc => ∃ (kq : Nat) (x56_25 : Bool), v56 = .bool x56_25 ∧ Aside0 (veneer_branch.j3 kq x56_25 a1_0 a1_1 a1_2 a1_3 a1_4 a1_5 = some r) ∧ Aside0 (kq ≤ kj17) ∧ Aside0 (wc.heap[gb283]? = some (.cells #[.int .i64 a1_0, .int .i64 a1_1, .int .i64 a1_2, .int .i64 a1_3, .int .i64 a1_4, .int .i64 a1_5] 48 (0, 0))) ∧ Aside0 (Below w.heap.size w wc))
                    case first =>
                      have H := HC26.out
                      clear HC26
                      by_cases c27 : a1_4 < 0
                      · rw [if_pos c27] at H
                        have c27b0 : decide (a1_4 < 0) = true := decide_eq_true c27
                        clear c27
                        (first | rw [c27b0] | (simp only [i64_w, i32_w]; rw [c27b0]) | skip)
                        by_cases c28 : a1_5 < 0
                        · rw [if_pos c28] at H
                          have c28b0 : decide (a1_5 < 0) = true := decide_eq_true c28
                          clear c28
                          have H' := Aside0.mk H
                          clear H
                          have hcz29_0 : wc.cell? ⟨gb283, 0, none⟩ = some (.int .i64 a1_0) := (blk_cell BK283.out 0).trans rfl
                          have hcz29_1 : wc.cell? ⟨gb283, 1, none⟩ = some (.int .i64 a1_1) := (blk_cell BK283.out 1).trans rfl
                          have hcz29_2 : wc.cell? ⟨gb283, 2, none⟩ = some (.int .i64 a1_2) := (blk_cell BK283.out 2).trans rfl
                          have hcz29_3 : wc.cell? ⟨gb283, 3, none⟩ = some (.int .i64 a1_3) := (blk_cell BK283.out 3).trans rfl
                          have hcz29_4 : wc.cell? ⟨gb283, 4, none⟩ = some (.int .i64 a1_4) := (blk_cell BK283.out 4).trans rfl
                          have hcz29_5 : wc.cell? ⟨gb283, 5, none⟩ = some (.int .i64 a1_5) := (blk_cell BK283.out 5).trans rfl
                          have hfz29_0 := blk_frozen BK283.out 0
                          have hfz29_1 := blk_frozen BK283.out 1
                          have hfz29_2 := blk_frozen BK283.out 2
                          have hfz29_3 := blk_frozen BK283.out 3
                          have hfz29_4 := blk_frozen BK283.out 4
                          have hfz29_5 := blk_frozen BK283.out 5
                          go_wp2
                          repeat (go_quiet (fail); try go_wp2)
                          go_meet
                          case rel => exact ⟨_, (true), (by first | rfl | (simp; done) | (simp [*]; done)), H', ⟨by have := HJ2.out; have := HJ8.out; have := HJ17.out; first | omega | exact Nat.le_refl _⟩, ⟨by (with_reducible repeat (first | refine blk_drewN ?_ _ | refine blk_drew ?_ | refine blk_alloc ?_ _)); exact BK283.out⟩, ⟨by repeat (first | (with_reducible first | exact HB.out | apply below_alloc | apply pw_below_drewN | apply below_drew1 | refine below_set ?_ GE283.out) | exact HB.out)⟩⟩
                        · rw [if_neg c28] at H
                          have c28b0 : decide (a1_5 < 0) = false := decide_eq_false c28
                          clear c28
                          by_cases c30 : a1_5 > 4294967295
                          · rw [if_pos c30] at H
                            have c30b0 : decide (4294967295 < a1_5) = true := decide_eq_true c30
                            clear c30
                            have H' := Aside0.mk H
                            clear H
                            have hcz31_0 : wc.cell? ⟨gb283, 0, none⟩ = some (.int .i64 a1_0) := (blk_cell BK283.out 0).trans rfl
                            have hcz31_1 : wc.cell? ⟨gb283, 1, none⟩ = some (.int .i64 a1_1) := (blk_cell BK283.out 1).trans rfl
                            have hcz31_2 : wc.cell? ⟨gb283, 2, none⟩ = some (.int .i64 a1_2) := (blk_cell BK283.out 2).trans rfl
                            have hcz31_3 : wc.cell? ⟨gb283, 3, none⟩ = some (.int .i64 a1_3) := (blk_cell BK283.out 3).trans rfl
                            have hcz31_4 : wc.cell? ⟨gb283, 4, none⟩ = some (.int .i64 a1_4) := (blk_cell BK283.out 4).trans rfl
                            have hcz31_5 : wc.cell? ⟨gb283, 5, none⟩ = some (.int .i64 a1_5) := (blk_cell BK283.out 5).trans rfl
                            have hfz31_0 := blk_frozen BK283.out 0
                            have hfz31_1 := blk_frozen BK283.out 1
                            have hfz31_2 := blk_frozen BK283.out 2
                            have hfz31_3 := blk_frozen BK283.out 3
                            have hfz31_4 := blk_frozen BK283.out 4
                            have hfz31_5 := blk_frozen BK283.out 5
                            go_wp2
                            repeat (go_quiet (fail); try go_wp2)
                            go_meet
                            case rel => exact ⟨_, (true), (by first | rfl | (simp; done) | (simp [*]; done)), H', ⟨by have := HJ2.out; have := HJ8.out; have := HJ17.out; first | omega | exact Nat.le_refl _⟩, ⟨by (with_reducible repeat (first | refine blk_drewN ?_ _ | refine blk_drew ?_ | refine blk_alloc ?_ _)); exact BK283.out⟩, ⟨by repeat (first | (with_reducible first | exact HB.out | apply below_alloc | apply pw_below_drewN | apply below_drew1 | refine below_set ?_ GE283.out) | exact HB.out)⟩⟩
                          · rw [if_neg c30] at H
                            have c30b0 : decide (4294967295 < a1_5) = false := decide_eq_false c30
                            clear c30
                            by_cases c32 : a1_4 ≥ 0
                            · rw [if_pos c32] at H
                              have c32b0 : decide (0 ≤ a1_4) = true := decide_eq_true c32
                              clear c32
                              by_cases c33 : 0 ≤ a1_4
                              · rw [if_pos c33] at H
                                have c33b0 : decide (0 ≤ a1_4) = true := decide_eq_true c33
                                clear c33
                                by_cases c34 : a1_4 < (l0.length : Int)
                                · rw [if_pos c34] at H
                                  have c34b0 : decide (a1_4 < (l0.length : Int)) = true := decide_eq_true c34
                                  clear c34
                                  have H' := Aside0.mk H
                                  clear H
                                  have hcz35_0 : wc.cell? ⟨gb283, 0, none⟩ = some (.int .i64 a1_0) := (blk_cell BK283.out 0).trans rfl
                                  have hcz35_1 : wc.cell? ⟨gb283, 1, none⟩ = some (.int .i64 a1_1) := (blk_cell BK283.out 1).trans rfl
                                  have hcz35_2 : wc.cell? ⟨gb283, 2, none⟩ = some (.int .i64 a1_2) := (blk_cell BK283.out 2).trans rfl
                                  have hcz35_3 : wc.cell? ⟨gb283, 3, none⟩ = some (.int .i64 a1_3) := (blk_cell BK283.out 3).trans rfl
                                  have hcz35_4 : wc.cell? ⟨gb283, 4, none⟩ = some (.int .i64 a1_4) := (blk_cell BK283.out 4).trans rfl
                                  have hcz35_5 : wc.cell? ⟨gb283, 5, none⟩ = some (.int .i64 a1_5) := (blk_cell BK283.out 5).trans rfl
                                  have hfz35_0 := blk_frozen BK283.out 0
                                  have hfz35_1 := blk_frozen BK283.out 1
                                  have hfz35_2 := blk_frozen BK283.out 2
                                  have hfz35_3 := blk_frozen BK283.out 3
                                  have hfz35_4 := blk_frozen BK283.out 4
                                  have hfz35_5 := blk_frozen BK283.out 5
                                  have p286 : 0 ≤ (a1_4 : Int) := of_decide_eq_true (by first | (with_reducible assumption) | assumption)
                                  have q286 : a1_4 < (l0.length : Int) := of_decide_eq_true (by first | (with_reducible assumption) | assumption)
                                  obtain ⟨ad286, e286, hx286_0, hx286_1, hx286_2⟩ := at_T57 HR0.out a1_4 p286 q286
                                  cases e286
                                  replace hx286_0 := (HB.out.cell (World.block_lt_of_cell? w _ hx286_0)).trans hx286_0
                                  replace hx286_1 := (HB.out.cell (World.block_lt_of_cell? w _ hx286_1)).trans hx286_1
                                  replace hx286_2 := (HB.out.cell (World.block_lt_of_cell? w _ hx286_2)).trans hx286_2
                                  replace p286 := eq_true p286
                                  replace q286 := eq_true q286
                                  go_wp2
                                  repeat (go_quiet (fail); try go_wp2)
                                  go_meet
                                  case rel => exact ⟨_, (decide (a1_5 > ((rd_T57 l0 a1_4).f1))), (by first | rfl | (simp; done) | (simp [*]; done)), H', ⟨by have := HJ2.out; have := HJ8.out; have := HJ17.out; first | omega | exact Nat.le_refl _⟩, ⟨by (with_reducible repeat (first | refine blk_drewN ?_ _ | refine blk_drew ?_ | refine blk_alloc ?_ _)); exact BK283.out⟩, ⟨by repeat (first | (with_reducible first | exact HB.out | apply below_alloc | apply pw_below_drewN | apply below_drew1 | refine below_set ?_ GE283.out) | exact HB.out)⟩⟩
                                · rw [if_neg c34] at H
                                  exact absurd H (by simp)
                              · rw [if_neg c33] at H
                                exact absurd H (by simp)
                            · rw [if_neg c32] at H
                              have c32b0 : decide (0 ≤ a1_4) = false := decide_eq_false c32
                              clear c32
                              have H' := Aside0.mk H
                              clear H
                              have hcz36_0 : wc.cell? ⟨gb283, 0, none⟩ = some (.int .i64 a1_0) := (blk_cell BK283.out 0).trans rfl
                              have hcz36_1 : wc.cell? ⟨gb283, 1, none⟩ = some (.int .i64 a1_1) := (blk_cell BK283.out 1).trans rfl
                              have hcz36_2 : wc.cell? ⟨gb283, 2, none⟩ = some (.int .i64 a1_2) := (blk_cell BK283.out 2).trans rfl
                              have hcz36_3 : wc.cell? ⟨gb283, 3, none⟩ = some (.int .i64 a1_3) := (blk_cell BK283.out 3).trans rfl
                              have hcz36_4 : wc.cell? ⟨gb283, 4, none⟩ = some (.int .i64 a1_4) := (blk_cell BK283.out 4).trans rfl
                              have hcz36_5 : wc.cell? ⟨gb283, 5, none⟩ = some (.int .i64 a1_5) := (blk_cell BK283.out 5).trans rfl
                              have hfz36_0 := blk_frozen BK283.out 0
                              have hfz36_1 := blk_frozen BK283.out 1
                              have hfz36_2 := blk_frozen BK283.out 2
                              have hfz36_3 := blk_frozen BK283.out 3
                              have hfz36_4 := blk_frozen BK283.out 4
                              have hfz36_5 := blk_frozen BK283.out 5
                              go_wp2
                              repeat (go_quiet (fail); try go_wp2)
                              go_meet
                              case rel => exact ⟨_, (false), (by first | rfl | (simp; done) | (simp [*]; done)), H', ⟨by have := HJ2.out; have := HJ8.out; have := HJ17.out; first | omega | exact Nat.le_refl _⟩, ⟨by (with_reducible repeat (first | refine blk_drewN ?_ _ | refine blk_drew ?_ | refine blk_alloc ?_ _)); exact BK283.out⟩, ⟨by repeat (first | (with_reducible first | exact HB.out | apply below_alloc | apply pw_below_drewN | apply below_drew1 | refine below_set ?_ GE283.out) | exact HB.out)⟩⟩
                      · rw [if_neg c27] at H
                        have c27b0 : decide (a1_4 < 0) = false := decide_eq_false c27
                        clear c27
                        (first | rw [c27b0] | (simp only [i64_w, i32_w]; rw [c27b0]) | skip)
                        by_cases c37 : a1_4 ≥ 0
                        · rw [if_pos c37] at H
                          have c37b0 : decide (0 ≤ a1_4) = true := decide_eq_true c37
                          clear c37
                          by_cases c38 : a1_5 < 0
                          · rw [if_pos c38] at H
                            have c38b0 : decide (a1_5 < 0) = true := decide_eq_true c38
                            clear c38
                            have H' := Aside0.mk H
                            clear H
                            have hcz39_0 : wc.cell? ⟨gb283, 0, none⟩ = some (.int .i64 a1_0) := (blk_cell BK283.out 0).trans rfl
                            have hcz39_1 : wc.cell? ⟨gb283, 1, none⟩ = some (.int .i64 a1_1) := (blk_cell BK283.out 1).trans rfl
                            have hcz39_2 : wc.cell? ⟨gb283, 2, none⟩ = some (.int .i64 a1_2) := (blk_cell BK283.out 2).trans rfl
                            have hcz39_3 : wc.cell? ⟨gb283, 3, none⟩ = some (.int .i64 a1_3) := (blk_cell BK283.out 3).trans rfl
                            have hcz39_4 : wc.cell? ⟨gb283, 4, none⟩ = some (.int .i64 a1_4) := (blk_cell BK283.out 4).trans rfl
                            have hcz39_5 : wc.cell? ⟨gb283, 5, none⟩ = some (.int .i64 a1_5) := (blk_cell BK283.out 5).trans rfl
                            have hfz39_0 := blk_frozen BK283.out 0
                            have hfz39_1 := blk_frozen BK283.out 1
                            have hfz39_2 := blk_frozen BK283.out 2
                            have hfz39_3 := blk_frozen BK283.out 3
                            have hfz39_4 := blk_frozen BK283.out 4
                            have hfz39_5 := blk_frozen BK283.out 5
                            go_wp2
                            repeat (go_quiet (fail); try go_wp2)
                            go_meet
                            case rel => exact ⟨_, (true), (by first | rfl | (simp; done) | (simp [*]; done)), H', ⟨by have := HJ2.out; have := HJ8.out; have := HJ17.out; first | omega | exact Nat.le_refl _⟩, ⟨by (with_reducible repeat (first | refine blk_drewN ?_ _ | refine blk_drew ?_ | refine blk_alloc ?_ _)); exact BK283.out⟩, ⟨by repeat (first | (with_reducible first | exact HB.out | apply below_alloc | apply pw_below_drewN | apply below_drew1 | refine below_set ?_ GE283.out) | exact HB.out)⟩⟩
                          · rw [if_neg c38] at H
                            have c38b0 : decide (a1_5 < 0) = false := decide_eq_false c38
                            clear c38
                            by_cases c40 : 0 ≤ a1_4
                            · rw [if_pos c40] at H
                              have c40b0 : decide (0 ≤ a1_4) = true := decide_eq_true c40
                              clear c40
                              by_cases c41 : a1_4 < (l0.length : Int)
                              · rw [if_pos c41] at H
                                have c41b0 : decide (a1_4 < (l0.length : Int)) = true := decide_eq_true c41
                                clear c41
                                have H' := Aside0.mk H
                                clear H
                                have hcz42_0 : wc.cell? ⟨gb283, 0, none⟩ = some (.int .i64 a1_0) := (blk_cell BK283.out 0).trans rfl
                                have hcz42_1 : wc.cell? ⟨gb283, 1, none⟩ = some (.int .i64 a1_1) := (blk_cell BK283.out 1).trans rfl
                                have hcz42_2 : wc.cell? ⟨gb283, 2, none⟩ = some (.int .i64 a1_2) := (blk_cell BK283.out 2).trans rfl
                                have hcz42_3 : wc.cell? ⟨gb283, 3, none⟩ = some (.int .i64 a1_3) := (blk_cell BK283.out 3).trans rfl
                                have hcz42_4 : wc.cell? ⟨gb283, 4, none⟩ = some (.int .i64 a1_4) := (blk_cell BK283.out 4).trans rfl
                                have hcz42_5 : wc.cell? ⟨gb283, 5, none⟩ = some (.int .i64 a1_5) := (blk_cell BK283.out 5).trans rfl
                                have hfz42_0 := blk_frozen BK283.out 0
                                have hfz42_1 := blk_frozen BK283.out 1
                                have hfz42_2 := blk_frozen BK283.out 2
                                have hfz42_3 := blk_frozen BK283.out 3
                                have hfz42_4 := blk_frozen BK283.out 4
                                have hfz42_5 := blk_frozen BK283.out 5
                                have p287 : 0 ≤ (a1_4 : Int) := of_decide_eq_true (by first | (with_reducible assumption) | assumption)
                                have q287 : a1_4 < (l0.length : Int) := of_decide_eq_true (by first | (with_reducible assumption) | assumption)
                                obtain ⟨ad287, e287, hx287_0, hx287_1, hx287_2⟩ := at_T57 HR0.out a1_4 p287 q287
                                cases e287
                                replace hx287_0 := (HB.out.cell (World.block_lt_of_cell? w _ hx287_0)).trans hx287_0
                                replace hx287_1 := (HB.out.cell (World.block_lt_of_cell? w _ hx287_1)).trans hx287_1
                                replace hx287_2 := (HB.out.cell (World.block_lt_of_cell? w _ hx287_2)).trans hx287_2
                                replace p287 := eq_true p287
                                replace q287 := eq_true q287
                                go_wp2
                                repeat (go_quiet (fail); try go_wp2)
                                go_meet
                                case rel => exact ⟨_, (decide (a1_5 > ((rd_T57 l0 a1_4).f1))), (by first | rfl | (simp; done) | (simp [*]; done)), H', ⟨by have := HJ2.out; have := HJ8.out; have := HJ17.out; first | omega | exact Nat.le_refl _⟩, ⟨by (with_reducible repeat (first | refine blk_drewN ?_ _ | refine blk_drew ?_ | refine blk_alloc ?_ _)); exact BK283.out⟩, ⟨by repeat (first | (with_reducible first | exact HB.out | apply below_alloc | apply pw_below_drewN | apply below_drew1 | refine below_set ?_ GE283.out) | exact HB.out)⟩⟩
                              · rw [if_neg c41] at H
                                exact absurd H (by simp)
                            · rw [if_neg c40] at H
                              exact absurd H (by simp)
                        · rw [if_neg c37] at H
                          have c37b0 : decide (0 ≤ a1_4) = false := decide_eq_false c37
                          clear c37
                          have H' := Aside0.mk H
                          clear H
                          have hcz43_0 : wc.cell? ⟨gb283, 0, none⟩ = some (.int .i64 a1_0) := (blk_cell BK283.out 0).trans rfl
                          have hcz43_1 : wc.cell? ⟨gb283, 1, none⟩ = some (.int .i64 a1_1) := (blk_cell BK283.out 1).trans rfl
                          have hcz43_2 : wc.cell? ⟨gb283, 2, none⟩ = some (.int .i64 a1_2) := (blk_cell BK283.out 2).trans rfl
                          have hcz43_3 : wc.cell? ⟨gb283, 3, none⟩ = some (.int .i64 a1_3) := (blk_cell BK283.out 3).trans rfl
                          have hcz43_4 : wc.cell? ⟨gb283, 4, none⟩ = some (.int .i64 a1_4) := (blk_cell BK283.out 4).trans rfl
                          have hcz43_5 : wc.cell? ⟨gb283, 5, none⟩ = some (.int .i64 a1_5) := (blk_cell BK283.out 5).trans rfl
                          have hfz43_0 := blk_frozen BK283.out 0
                          have hfz43_1 := blk_frozen BK283.out 1
                          have hfz43_2 := blk_frozen BK283.out 2
                          have hfz43_3 := blk_frozen BK283.out 3
                          have hfz43_4 := blk_frozen BK283.out 4
                          have hfz43_5 := blk_frozen BK283.out 5
                          go_wp2
                          repeat (go_quiet (fail); try go_wp2)
                          go_meet
                          case rel => exact ⟨_, (false), (by first | rfl | (simp; done) | (simp [*]; done)), H', ⟨by have := HJ2.out; have := HJ8.out; have := HJ17.out; first | omega | exact Nat.le_refl _⟩, ⟨by (with_reducible repeat (first | refine blk_drewN ?_ _ | refine blk_drew ?_ | refine blk_alloc ?_ _)); exact BK283.out⟩, ⟨by repeat (first | (with_reducible first | exact HB.out | apply below_alloc | apply pw_below_drewN | apply below_drew1 | refine below_set ?_ GE283.out) | exact HB.out)⟩⟩
                    case rest =>
                      clear HC26
                      try clear c1
                      try clear c2
                      try clear p2
                      try clear q2
                      try clear hx2
                      try clear c3
                      try clear c4
                      try clear c5
                      try clear c5b0
                      try clear c5b1
                      try clear p6
                      try clear c8
                      try clear c10
                      try clear c10b0
                      try clear c12
                      try clear c12b0
                      try clear c14
                      try clear c14b0
                      try clear c17
                      try clear c19
                      try clear c19b0
                      try clear c21
                      try clear c21b0
                      try clear c22
                      try clear c22b0
                      try clear c25
                      try clear c27
                      try clear c27b0
                      try clear c28
                      try clear c28b0
                      try clear p28
                      try clear q28
                      try clear hx28
                      try clear c30
                      try clear c30b0
                      try clear c32
                      try clear c32b0
                      try clear c33
                      try clear c33b0
                      try clear c34
                      try clear c34b0
                      try clear c37
                      try clear c37b0
                      try clear c38
                      try clear c38b0
                      try clear c40
                      try clear c40b0
                      try clear c41
                      try clear c41b0
                      try clear hcz11_0
                      try clear hcz11_1
                      try clear hcz11_2
                      try clear hcz11_3
                      try clear hcz11_4
                      try clear hcz11_5
                      try clear hcz13_0
                      try clear hcz13_1
                      try clear hcz13_2
                      try clear hcz13_3
                      try clear hcz13_4
                      try clear hcz13_5
                      try clear hcz15_0
                      try clear hcz15_1
                      try clear hcz15_2
                      try clear hcz15_3
                      try clear hcz15_4
                      try clear hcz15_5
                      try clear hcz16_0
                      try clear hcz16_1
                      try clear hcz16_2
                      try clear hcz16_3
                      try clear hcz16_4
                      try clear hcz16_5
                      try clear hcz20_0
                      try clear hcz20_1
                      try clear hcz20_2
                      try clear hcz20_3
                      try clear hcz20_4
                      try clear hcz20_5
                      try clear hcz24_0
                      try clear hcz24_1
                      try clear hcz24_2
                      try clear hcz24_3
                      try clear hcz24_4
                      try clear hcz24_5
                      try clear hcz29_0
                      try clear hcz29_1
                      try clear hcz29_2
                      try clear hcz29_3
                      try clear hcz29_4
                      try clear hcz29_5
                      try clear hcz31_0
                      try clear hcz31_1
                      try clear hcz31_2
                      try clear hcz31_3
                      try clear hcz31_4
                      try clear hcz31_5
                      try clear hcz35_0
                      try clear hcz35_1
                      try clear hcz35_2
                      try clear hcz35_3
                      try clear hcz35_4
                      try clear hcz35_5
                      try clear hcz36_0
                      try clear hcz36_1
                      try clear hcz36_2
                      try clear hcz36_3
                      try clear hcz36_4
                      try clear hcz36_5
                      try clear hcz39_0
                      try clear hcz39_1
                      try clear hcz39_2
                      try clear hcz39_3
                      try clear hcz39_4
                      try clear hcz39_5
                      try clear hcz42_0
                      try clear hcz42_1
                      try clear hcz42_2
                      try clear hcz42_3
                      try clear hcz42_4
                      try clear hcz42_5
                      try clear hcz43_0
                      try clear hcz43_1
                      try clear hcz43_2
                      try clear hcz43_3
                      try clear hcz43_4
                      try clear hcz43_5
                      try clear hcz6_0
                      try clear hcz6_1
                      try clear hcz6_2
                      try clear hcz6_3
                      try clear hcz6_4
                      try clear hcz6_5
                      try clear hcz7_0
                      try clear hcz7_1
                      try clear hcz7_2
                      try clear hcz7_3
                      try clear hcz7_4
                      try clear hcz7_5
                      try clear hfz11_0
                      try clear hfz11_1
                      try clear hfz11_2
                      try clear hfz11_3
                      try clear hfz11_4
                      try clear hfz11_5
                      try clear hfz13_0
                      try clear hfz13_1
                      try clear hfz13_2
                      try clear hfz13_3
                      try clear hfz13_4
                      try clear hfz13_5
                      try clear hfz15_0
                      try clear hfz15_1
                      try clear hfz15_2
                      try clear hfz15_3
                      try clear hfz15_4
                      try clear hfz15_5
                      try clear hfz16_0
                      try clear hfz16_1
                      try clear hfz16_2
                      try clear hfz16_3
                      try clear hfz16_4
                      try clear hfz16_5
                      try clear hfz20_0
                      try clear hfz20_1
                      try clear hfz20_2
                      try clear hfz20_3
                      try clear hfz20_4
                      try clear hfz20_5
                      try clear hfz24_0
                      try clear hfz24_1
                      try clear hfz24_2
                      try clear hfz24_3
                      try clear hfz24_4
                      try clear hfz24_5
                      try clear hfz29_0
                      try clear hfz29_1
                      try clear hfz29_2
                      try clear hfz29_3
                      try clear hfz29_4
                      try clear hfz29_5
                      try clear hfz31_0
                      try clear hfz31_1
                      try clear hfz31_2
                      try clear hfz31_3
                      try clear hfz31_4
                      try clear hfz31_5
                      try clear hfz35_0
                      try clear hfz35_1
                      try clear hfz35_2
                      try clear hfz35_3
                      try clear hfz35_4
                      try clear hfz35_5
                      try clear hfz36_0
                      try clear hfz36_1
                      try clear hfz36_2
                      try clear hfz36_3
                      try clear hfz36_4
                      try clear hfz36_5
                      try clear hfz39_0
                      try clear hfz39_1
                      try clear hfz39_2
                      try clear hfz39_3
                      try clear hfz39_4
                      try clear hfz39_5
                      try clear hfz42_0
                      try clear hfz42_1
                      try clear hfz42_2
                      try clear hfz42_3
                      try clear hfz42_4
                      try clear hfz42_5
                      try clear hfz43_0
                      try clear hfz43_1
                      try clear hfz43_2
                      try clear hfz43_3
                      try clear hfz43_4
                      try clear hfz43_5
                      try clear hfz6_0
                      try clear hfz6_1
                      try clear hfz6_2
                      try clear hfz6_3
                      try clear hfz6_4
                      try clear hfz6_5
                      try clear hfz7_0
                      try clear hfz7_1
                      try clear hfz7_2
                      try clear hfz7_3
                      try clear hfz7_4
                      try clear hfz7_5
                      try clear hx284_0
                      try clear hx284_1
                      try clear hx284_2
                      try clear hx286_0
                      try clear hx286_1
                      try clear hx286_2
                      try clear hx287_0
                      try clear hx287_1
                      try clear hx287_2
                      try clear p2
                      try clear p284
                      try clear p286
                      try clear p287
                      try clear p6
                      try clear q2
                      try clear q284
                      try clear q286
                      try clear q287
                      obtain ⟨kq, x56_25, rfl, HA, HJ25, BK283, HB⟩ := hcut
                      cases kq with
                      | zero => exact absurd HA.out (by simp [veneer_branch.j3])
                      | succ kj25 =>
                        have H := HA.out
                        clear HA
                        simp only [veneer_branch.j3] at H
                        by_cases c44 : x56_25 = true
                        · subst c44
                          have H1 : (some 3) = some r := by rw [if_pos rfl] at H; exact H
                          clear H
                          have H := H1
                          clear H1
                          obtain rfl := Option.some.inj H
                          go_wp2
                          repeat (go_quiet (fail); try go_wp2)
                          go_ret
                          exact ⟨by first | rfl | (simp [errW_none, errW_some] <;> rfl) | (simp [*, errW_none, errW_some] <;> rfl), by repeat (first | (with_reducible first | exact HB.out | apply below_alloc | apply pw_below_drewN | apply below_drew1 | refine below_set ?_ GE283.out) | exact HB.out)⟩
                        · replace c44 := Bool.eq_false_iff.mpr c44
                          subst c44
                          have H1 : (if a1_3 < (-1048576) then (some 3) else (if a1_3 > 1048576 then (some 3) else (some 0))) = some r := by rw [if_neg (show ¬ (false = true) by decide)] at H; exact H
                          clear H
                          have H := H1
                          clear H1
                          by_cases c45 : a1_3 < (-1048576)
                          · rw [if_pos c45] at H
                            have c45b0 : decide (a1_3 < (-1048576)) = true := decide_eq_true c45
                            clear c45
                            obtain rfl := Option.some.inj H
                            have hcz46_0 : wc.cell? ⟨gb283, 0, none⟩ = some (.int .i64 a1_0) := (blk_cell BK283.out 0).trans rfl
                            have hcz46_1 : wc.cell? ⟨gb283, 1, none⟩ = some (.int .i64 a1_1) := (blk_cell BK283.out 1).trans rfl
                            have hcz46_2 : wc.cell? ⟨gb283, 2, none⟩ = some (.int .i64 a1_2) := (blk_cell BK283.out 2).trans rfl
                            have hcz46_3 : wc.cell? ⟨gb283, 3, none⟩ = some (.int .i64 a1_3) := (blk_cell BK283.out 3).trans rfl
                            have hcz46_4 : wc.cell? ⟨gb283, 4, none⟩ = some (.int .i64 a1_4) := (blk_cell BK283.out 4).trans rfl
                            have hcz46_5 : wc.cell? ⟨gb283, 5, none⟩ = some (.int .i64 a1_5) := (blk_cell BK283.out 5).trans rfl
                            have hfz46_0 := blk_frozen BK283.out 0
                            have hfz46_1 := blk_frozen BK283.out 1
                            have hfz46_2 := blk_frozen BK283.out 2
                            have hfz46_3 := blk_frozen BK283.out 3
                            have hfz46_4 := blk_frozen BK283.out 4
                            have hfz46_5 := blk_frozen BK283.out 5
                            go_wp2
                            repeat (go_quiet (fail); try go_wp2)
                            go_ret
                            exact ⟨by first | rfl | (simp [errW_none, errW_some] <;> rfl) | (simp [*, errW_none, errW_some] <;> rfl), by repeat (first | (with_reducible first | exact HB.out | apply below_alloc | apply pw_below_drewN | apply below_drew1 | refine below_set ?_ GE283.out) | exact HB.out)⟩
                          · rw [if_neg c45] at H
                            have c45b0 : decide (a1_3 < (-1048576)) = false := decide_eq_false c45
                            clear c45
                            by_cases c47 : a1_3 > 1048576
                            · rw [if_pos c47] at H
                              have c47b0 : decide (1048576 < a1_3) = true := decide_eq_true c47
                              clear c47
                              obtain rfl := Option.some.inj H
                              have hcz48_0 : wc.cell? ⟨gb283, 0, none⟩ = some (.int .i64 a1_0) := (blk_cell BK283.out 0).trans rfl
                              have hcz48_1 : wc.cell? ⟨gb283, 1, none⟩ = some (.int .i64 a1_1) := (blk_cell BK283.out 1).trans rfl
                              have hcz48_2 : wc.cell? ⟨gb283, 2, none⟩ = some (.int .i64 a1_2) := (blk_cell BK283.out 2).trans rfl
                              have hcz48_3 : wc.cell? ⟨gb283, 3, none⟩ = some (.int .i64 a1_3) := (blk_cell BK283.out 3).trans rfl
                              have hcz48_4 : wc.cell? ⟨gb283, 4, none⟩ = some (.int .i64 a1_4) := (blk_cell BK283.out 4).trans rfl
                              have hcz48_5 : wc.cell? ⟨gb283, 5, none⟩ = some (.int .i64 a1_5) := (blk_cell BK283.out 5).trans rfl
                              have hfz48_0 := blk_frozen BK283.out 0
                              have hfz48_1 := blk_frozen BK283.out 1
                              have hfz48_2 := blk_frozen BK283.out 2
                              have hfz48_3 := blk_frozen BK283.out 3
                              have hfz48_4 := blk_frozen BK283.out 4
                              have hfz48_5 := blk_frozen BK283.out 5
                              go_wp2
                              repeat (go_quiet (fail); try go_wp2)
                              go_ret
                              exact ⟨by first | rfl | (simp [errW_none, errW_some] <;> rfl) | (simp [*, errW_none, errW_some] <;> rfl), by repeat (first | (with_reducible first | exact HB.out | apply below_alloc | apply pw_below_drewN | apply below_drew1 | refine below_set ?_ GE283.out) | exact HB.out)⟩
                            · rw [if_neg c47] at H
                              have c47b0 : decide (1048576 < a1_3) = false := decide_eq_false c47
                              clear c47
                              obtain rfl := Option.some.inj H
                              have hcz49_0 : wc.cell? ⟨gb283, 0, none⟩ = some (.int .i64 a1_0) := (blk_cell BK283.out 0).trans rfl
                              have hcz49_1 : wc.cell? ⟨gb283, 1, none⟩ = some (.int .i64 a1_1) := (blk_cell BK283.out 1).trans rfl
                              have hcz49_2 : wc.cell? ⟨gb283, 2, none⟩ = some (.int .i64 a1_2) := (blk_cell BK283.out 2).trans rfl
                              have hcz49_3 : wc.cell? ⟨gb283, 3, none⟩ = some (.int .i64 a1_3) := (blk_cell BK283.out 3).trans rfl
                              have hcz49_4 : wc.cell? ⟨gb283, 4, none⟩ = some (.int .i64 a1_4) := (blk_cell BK283.out 4).trans rfl
                              have hcz49_5 : wc.cell? ⟨gb283, 5, none⟩ = some (.int .i64 a1_5) := (blk_cell BK283.out 5).trans rfl
                              have hfz49_0 := blk_frozen BK283.out 0
                              have hfz49_1 := blk_frozen BK283.out 1
                              have hfz49_2 := blk_frozen BK283.out 2
                              have hfz49_3 := blk_frozen BK283.out 3
                              have hfz49_4 := blk_frozen BK283.out 4
                              have hfz49_5 := blk_frozen BK283.out 5
                              go_wp2
                              repeat (go_quiet (fail); try go_wp2)
                              go_ret
                              exact ⟨by first | rfl | (simp [errW_none, errW_some] <;> rfl) | (simp [*, errW_none, errW_some] <;> rfl), by repeat (first | (with_reducible first | exact HB.out | apply below_alloc | apply pw_below_drewN | apply below_drew1 | refine below_set ?_ GE283.out) | exact HB.out)⟩
end Go.Proofs.Ytogcgcjhoebooaa.PVeneerMatchesSpec
end
section
namespace Go.Proofs.Ytogcgcjhoebooaa
open Go.RowKit Go.Proofs.YtogcgcjhoebooaaW.PrintWords Go.Proofs.YtogcgcjhoebooaaW.PrintLast Go.Proofs.Ytogcgcjhoebooaa.PVeneerMatchesSpec
set_option linter.unusedVariables false
set_option linter.unusedSimpArgs false
theorem num_plain {k s a p : Int} (h1 : -8589934592 ≤ s) (h2 : s ≤ 8589934592) (h3 : -8589934592 ≤ a) (h4 : a ≤ 8589934592) (h5 : -8589934592 ≤ p) (h6 : p ≤ 8589934592) : apply_Number.f 3 k s a p = some (numV k s a p, fits k s a p) := by
  have e0 : wrap64 (s + a) = s + a := by unfold wrap64; omega
  by_cases k2 : k = 2
  · subst k2
    have e1 : wrap64 (s + a - wrap64 (p + 2)) = s + a - p - 2 := by unfold wrap64; omega
    simp [apply_Number.f, apply_Number.j0, apply_Width.f, apply_Width.j0, apply_bounds.f, numV, fits, klo, khi, kwidth, e0, e1]
    split
    · rename_i h; rw [Option.some.injEq, Prod.mk.injEq]; refine ⟨rfl, ?_⟩; simp [h]
    · rename_i h; rw [Option.some.injEq, Prod.mk.injEq]; refine ⟨rfl, ?_⟩; simp; omega
  · by_cases k3 : k = 3
    · subst k3
      have e1 : wrap64 (s + a - wrap64 (p + 1)) = s + a - p - 1 := by unfold wrap64; omega
      simp [apply_Number.f, apply_Number.j0, apply_Width.f, apply_Width.j0, apply_bounds.f, numV, fits, klo, khi, kwidth, e0, e1]
      split
      · rename_i h; rw [Option.some.injEq, Prod.mk.injEq]; refine ⟨rfl, ?_⟩; simp [h]
      · rename_i h; rw [Option.some.injEq, Prod.mk.injEq]; refine ⟨rfl, ?_⟩; simp; omega
    · simp [apply_Number.f, apply_Number.j0, apply_Width.f, apply_Width.j0, apply_bounds.f, numV, fits, klo, khi, kwidth, e0, k2, k3]
      split
      · rename_i h; rw [Option.some.injEq, Prod.mk.injEq]; refine ⟨rfl, ?_⟩; simp [h]
      · rename_i h; rw [Option.some.injEq, Prod.mk.injEq]; refine ⟨rfl, ?_⟩; simp; omega
theorem num_calls : NumCalls 55 := fun k s a p w h1 h2 h3 h4 h5 h6 => apply_Number.calls 3 k s a p _ _ w (num_plain h1 h2 h3 h4 h5 h6)
theorem addr_calls : AddrCalls := fun A c a tt tg w hC hc ht h0 h1 => by
  refine veneer_address.calls A c a tt tg _ w hC hc ?_
  unfold veneer_address.f addrOf
  rcases ht with ht | ⟨t1, t2, t3, t4⟩
  · rw [if_pos ht, if_pos ht]
  · rw [if_neg (by omega), if_pos t1, if_pos t2, if_neg (by omega)]
    congr 1
    unfold wrap64; omega
theorem goal_calls : GoalCalls := fun b w => veneer_goalOf.calls _ _ _ _ _ _ _ _ _ w rfl
theorem idx_plain (xs : List S89) (g0 g1 g2 : Int) (hl : xs.length ≤ 9223372036854775807) : ∀ (d i k : Nat), i + d = xs.length → d < k →
    veneer_goal_63.l0 k xs xs.length i g0 g1 g2 = some (if (xs.drop i).any (fun x => decide (x.f0 = g0 ∧ x.f1 = g1 ∧ x.f2 = g2)) then (i : Int) + ((xs.drop i).findIdx fun x => decide (x.f0 = g0 ∧ x.f1 = g1 ∧ x.f2 = g2) : Nat) else -1)
  | 0, i, k, hi, hk => by
    obtain ⟨k, rfl⟩ : ∃ k', k = k' + 1 := ⟨k - 1, by omega⟩
    rw [veneer_goal_63.l0, if_neg (by omega), List.drop_of_length_le (by omega)]
    rfl
  | d + 1, i, k, hi, hk => by
    obtain ⟨k, rfl⟩ : ∃ k', k = k' + 1 := ⟨k - 1, by omega⟩
    have ih := idx_plain xs g0 g1 g2 hl d (i + 1) k (by omega) (by omega)
    rw [veneer_goal_63.l0, if_pos (by omega), if_pos (by omega), if_pos (by omega)]
    have hlt : i < xs.length := by omega
    rw [show wrap64 ((i : Int) + 1) = ((i + 1 : Nat) : Int) by unfold wrap64; omega, ih, List.drop_eq_getElem_cons hlt]
    have hr : rd_T89 xs i = xs[i] := by simp [rd_T89, List.getD_eq_getElem?_getD, hlt]
    rw [hr]
    generalize List.drop (i + 1) xs = tl at *
    generalize xs[i] = x at *
    by_cases h : x.f0 = g0 ∧ x.f1 = g1 ∧ x.f2 = g2
    · obtain ⟨a, b, c⟩ := h
      simp [a, b, c, List.findIdx_cons]
    · have h' : (g0 == x.f0 && (g1 == x.f1 && g2 == x.f2)) = false := by
        rw [Bool.eq_false_iff]; intro hh
        simp at hh
        exact h ⟨hh.1.symm, hh.2.1.symm, hh.2.2.symm⟩
      rw [h']
      simp only [Bool.false_eq_true, if_false, List.any_cons, h, decide_false, Bool.false_or, List.findIdx_cons, cond_false]
      congr 1
      split <;> omega
theorem index_plain (xs : List S89) (g0 g1 g2 : Int) (hl : xs.length ≤ 9223372036854775807) : veneer_goal_63.f (xs.length + 1) xs g0 g1 g2 = some (idxOf xs ⟨g0, g1, g2⟩) := by
  have := idx_plain xs g0 g1 g2 hl xs.length 0 (xs.length + 1) (by omega) (by omega)
  unfold veneer_goal_63.f
  rw [show ((0 : Nat) : Int) = 0 from rfl] at this
  rw [this]
  simp [idxOf]
theorem index_calls63 : IndexCalls := fun A c xs g0 g1 g2 w h hc => veneer_goal_63.calls _ A c xs g0 g1 g2 _ w h hc (index_plain xs g0 g1 g2 h.2.1)
theorem cont_calls : ContCalls := fun A c xs g0 g1 g2 w h hc => by
  refine veneer_goal_58.calls (xs.length + 1) A c xs g0 g1 g2 _ w h hc ?_
  unfold veneer_goal_58.f
  rw [index_plain xs g0 g1 g2 h.2.1]
  simp only [Option.bind_some]
  congr 1
  unfold idxOf hasGoal
  split
  · rename_i h'; rw [h']; simp
  · rename_i h'; simp only [Bool.not_eq_true] at h'; rw [h']; rfl
theorem width_plain (k : Nat) (x : Int) (h : x = 2 ∨ x = 3) : apply_Width.f (k + 1) x = some (kwidth x) := by
  rcases h with rfl | rfl <;> simp [apply_Width.f, apply_Width.j0, kwidth]
theorem branch_plain {items : List S57} {n : Nat} (hv : ValidI items n) (b : S48) : veneer_branch.f 6 items b.f0 b.f1 b.f2 b.f3 b.f4 b.f5 = some (brCode items b) := by
  have hl := hv.len
  by_cases c1 : b.f2 ≠ 2 ∧ b.f2 ≠ 3
  · obtain ⟨c1, c2⟩ := c1
    simp [veneer_branch.f, veneer_branch.j0, brCode, c1, c2]
  · have hw := width_plain 3 b.f2 (by omega)
    have e0 : veneer_branch.f 6 items b.f0 b.f1 b.f2 b.f3 b.f4 b.f5 = veneer_branch.j0 6 items false b.f0 b.f1 b.f2 b.f3 b.f4 b.f5 := by
      unfold veneer_branch.f
      split
      · rfl
      · rw [show (b.f2 != 3) = false by simp; omega]
    rw [e0]
    unfold brCode
    rw [if_neg c1]
    have j1t : ∀ a b c d e f, veneer_branch.j1 5 items true a b c d e f = some 3 := fun a b c d e f => by simp [veneer_branch.j1]
    have j2t : ∀ a b c d e f, veneer_branch.j2 4 items true a b c d e f = some 3 := fun a b c d e f => by simp [veneer_branch.j2]
    have j3t : ∀ a b c d e f, veneer_branch.j3 3 true a b c d e f = some 3 := fun a b c d e f => by simp [veneer_branch.j3]
    by_cases g2 : 0 ≤ b.f0 ∧ b.f0 < items.length ∧ -1 ≤ b.f4 ∧ b.f4 < items.length
    · rw [if_neg (not_not_intro g2)]
      obtain ⟨a1, a2, a3, a4⟩ := g2
      obtain ⟨_, _, y1, y2, _, _⟩ := hv.x b.f0.toNat (by omega)
      have er : (rd_T57 items b.f0).f1 = (items.getD b.f0.toNat z57).f1 := rfl
      have hk : 0 ≤ kwidth b.f2 ∧ kwidth b.f2 ≤ 2 := by unfold kwidth; split <;> (try split) <;> omega
      have ew : wrap64 ((rd_T57 items b.f0).f1 - kwidth b.f2) = (rd_T57 items b.f0).f1 - kwidth b.f2 := by unfold wrap64; omega
      rw [veneer_branch.j0, if_neg (by simp), if_neg (by omega), if_neg (by omega), if_neg (by omega), decide_eq_false (by omega), veneer_branch.j1, if_neg (by simp)]
      by_cases g3 : 0 ≤ b.f1 ∧ b.f1 ≤ (rd_T57 items b.f0).f1 - kwidth b.f2
      · rw [if_neg (not_not_intro g3), if_neg (by omega), if_pos a1, if_pos a2, hw]
        simp only [Option.bind_some]
        rw [ew, decide_eq_false (by omega), veneer_branch.j2, if_neg (by simp)]
        by_cases g4 : 0 ≤ b.f5 ∧ b.f5 ≤ if b.f4 < 0 then 4294967295 else (rd_T57 items b.f4).f1
        · rw [if_neg (not_not_intro g4)]
          obtain ⟨g41, g42⟩ := g4
          have j3f : veneer_branch.j3 3 false b.f0 b.f1 b.f2 b.f3 b.f4 b.f5 = some (if ¬ (-1048576 ≤ b.f3 ∧ b.f3 ≤ 1048576) then 3 else 0) := by
            simp only [veneer_branch.j3, Bool.false_eq_true, if_false]
            by_cases hq : -1048576 ≤ b.f3 ∧ b.f3 ≤ 1048576
            · rw [if_neg (by omega), if_neg (by omega), if_neg (not_not_intro hq)]
            · rw [if_pos hq]
              by_cases hq2 : b.f3 < -1048576
              · rw [if_pos hq2]
              · rw [if_neg hq2, if_pos (by omega)]
          by_cases t : b.f4 < 0
          · rw [if_pos t] at g42
            rw [if_pos t, if_neg (by omega), if_neg (by omega), if_neg (by omega), j3f]
          · rw [if_neg t] at g42
            rw [if_neg t, if_pos (by omega), if_neg (by omega), if_pos (by omega), if_pos a4, decide_eq_false (by omega), j3f]
        · rw [if_pos g4]
          by_cases t : b.f4 < 0
          · rw [if_pos t] at g4
            rw [if_pos t]
            by_cases u : b.f5 < 0
            · rw [if_pos u, j3t]
            · rw [if_neg u, if_pos (by omega), j3t]
          · rw [if_neg t] at g4
            rw [if_neg t, if_pos (by omega)]
            by_cases u : b.f5 < 0
            · rw [if_pos u, j3t]
            · rw [if_neg u, if_pos (by omega), if_pos a4, decide_eq_true (by omega), j3t]
      · rw [if_pos g3]
        by_cases u : b.f1 < 0
        · rw [if_pos u, j2t]
        · rw [if_neg u, if_pos a1, if_pos a2, hw]
          simp only [Option.bind_some]
          rw [ew, decide_eq_true (by omega), j2t]
    · rw [if_pos g2, veneer_branch.j0, if_neg (by simp)]
      by_cases u : b.f0 < 0
      · rw [if_pos u, j1t]
      · rw [if_neg u]
        by_cases u2 : b.f0 ≥ items.length
        · rw [if_pos u2, j1t]
        · rw [if_neg u2]
          by_cases u3 : b.f4 < -1
          · rw [if_pos u3, j1t]
          · rw [if_neg u3, decide_eq_true (by omega), j1t]
theorem branch_calls : BranchCalls 27 := fun A c items b n w hC hc hv => veneer_branch.calls 6 A c items _ _ _ _ _ _ _ w hC hc (branch_plain hv b)
end Go.Proofs.Ytogcgcjhoebooaa
end
section
namespace Go.Proofs.Ytogcgcjhoebooaa
open Go.RowKit Go.Proofs.YtogcgcjhoebooaaW.PrintWords Go.Proofs.YtogcgcjhoebooaaW.PrintLast Go.Proofs.Ytogcgcjhoebooaa.PVeneerMatchesSpec
set_option linter.unusedVariables false
set_option linter.unusedSimpArgs false
theorem items_plain {items : List S57} {n : Int} (hl : items.length ≤ 200) : ∀ (d i k : Nat), i + d = items.length → 2 * d < k →
    place_Items.l0 k n items items.length i = some (match scan (fun i => itemCode n (items.getD i z57)) d i with | some (j, e) => (e, -100 - (j : Int)) | none => (0, 0))
  | 0, i, k, hi, hk => by
    obtain ⟨k, rfl⟩ : ∃ k', k = k' + 1 := ⟨k - 1, by omega⟩
    rw [place_Items.l0, if_neg (by omega)]
    rfl
  | d + 1, i, k, hi, hk => by
    obtain ⟨k, rfl⟩ : ∃ k', k = k' + 1 + 1 := ⟨k - 2, by omega⟩
    have ih := items_plain (n := n) hl d (i + 1) k (by omega) (by omega)
    rw [place_Items.l0, if_pos (by omega), if_pos (by omega), if_pos (by omega)]
    have hr : rd_T57 items i = items.getD i z57 := rfl
    have e1 : wrap64 ((i : Int) + 1) = ((i + 1 : Nat) : Int) := by unfold wrap64; omega
    have e2 : wrap64 (-100 - (i : Int)) = -100 - (i : Int) := by unfold wrap64; omega
    rw [hr]
    rw [scan]
    change _ = some (match (if itemCode n (items.getD i z57) = 0 then scan (fun i => itemCode n (items.getD i z57)) d (i + 1) else some (i, itemCode n (items.getD i z57))) with | some (j, e) => (e, -100 - (j : Int)) | none => (0, 0))
    generalize items.getD i z57 = x at *
    have jt : place_Items.j1 (k + 1) n i items items.length i true x.f0 x.f1 x.f2 = some (3, -100 - (i : Int)) := by simp [place_Items.j1, e2]
    by_cases c : 0 ≤ x.f0 ∧ x.f0 < n ∧ 0 ≤ x.f1 ∧ x.f1 ≤ 1048576 ∧ powOk x.f2 256 = true
    · have hc0 : itemCode n x = 0 := by unfold itemCode; rw [if_neg (not_not_intro c)]
      rw [if_pos hc0]
      obtain ⟨c1, c2, c3, c4, c5⟩ := c
      have hb := powOk_bd c5
      have e3 : wrap64 (x.f2 - 1) = x.f2 - 1 := by unfold wrap64; omega
      have hp : Go.bits .and .i64 x.f2 (x.f2 - 1) = 0 := by
        unfold powOk pow2n at c5
        simp at c5
        exact c5.2
      rw [if_neg (by omega), if_neg (by omega), if_neg (by omega), decide_eq_false (by omega), place_Items.j1, if_neg (by simp), if_neg (by omega), if_neg (by omega), e3, if_pos hp, e1, ih]
    · have hc3 : itemCode n x = 3 := by unfold itemCode; rw [if_pos c]
      rw [if_neg (show ¬ itemCode n x = 0 by rw [hc3]; decide), hc3]
      by_cases u1 : x.f0 < 0
      · rw [if_pos u1, jt]
      · rw [if_neg u1]
        by_cases u2 : x.f0 ≥ n
        · rw [if_pos u2, jt]
        · rw [if_neg u2]
          by_cases u3 : x.f1 < 0
          · rw [if_pos u3, jt]
          · rw [if_neg u3]
            by_cases u4 : x.f1 > 1048576
            · rw [decide_eq_true u4, jt]
            · rw [decide_eq_false u4, place_Items.j1, if_neg (by simp)]
              by_cases u5 : x.f2 < 1
              · rw [if_pos u5, e2]
              · rw [if_neg u5]
                by_cases u6 : x.f2 > 256
                · rw [if_pos u6, e2]
                · have e3 : wrap64 (x.f2 - 1) = x.f2 - 1 := by unfold wrap64; omega
                  rw [if_neg u6, e3]
                  by_cases u7 : Go.bits .and .i64 x.f2 (x.f2 - 1) = 0
                  · exfalso
                    apply c
                    refine ⟨by omega, by omega, by omega, by omega, ?_⟩
                    unfold powOk pow2n
                    rw [u7, decide_eq_true (by omega)]
                    rfl
                  · rw [if_neg u7, e2]
theorem items_calls : ItemsCalls 26 := fun A c items n w hC hc h0 h8 => by
  refine place_Items.calls (2 * items.length + 1) A c items n _ _ w hC hc ?_
  unfold place_Items.f itemsFault
  by_cases h : 200 < items.length
  · rw [if_pos (by omega), if_pos h]
  · rw [if_neg (by omega), if_neg h]
    have := items_plain (items := items) (n := n) (by omega) items.length 0 (2 * items.length + 1) (by omega) (by omega)
    rw [show ((0 : Nat) : Int) = 0 from rfl] at this
    rw [this]
    cases scan (fun i => itemCode n (items.getD i z57)) items.length 0 with
    | none => rfl
    | some p => rfl
end Go.Proofs.Ytogcgcjhoebooaa
end
section
namespace Go.Proofs.Ytogcgcjhoebooaa
open Go.RowKit Go.Proofs.YtogcgcjhoebooaaW.PrintWords Go.Proofs.YtogcgcjhoebooaaW.PrintLast Go.Proofs.Ytogcgcjhoebooaa.PVeneerMatchesSpec
set_option linter.unusedVariables false
set_option linter.unusedSimpArgs false
theorem up_plain {n al : Int} (h0 : 0 ≤ n) (h1 : n ≤ 1000000000000) (h2 : 1 ≤ al) (h3 : al ≤ 4096) : thread_Up.f n al = some (upTo n al) := by
  have e1 : wrap64 (n + al) = n + al := by unfold wrap64; omega
  have e2 : wrap64 (n + al - 1) = n + al - 1 := by unfold wrap64; omega
  have hd : Int.tdiv (n + al - 1) al = (n + al - 1) / al := Int.tdiv_eq_ediv_of_nonneg (by omega)
  have hq0 : 0 ≤ (n + al - 1) / al := Int.ediv_nonneg (by omega) (by omega)
  have hq1 : (n + al - 1) / al ≤ n + al - 1 := Int.ediv_le_self _ (by omega)
  have hm : (n + al - 1) / al * al ≤ n + al - 1 := Int.ediv_mul_le _ (by omega)
  have hm0 : 0 ≤ (n + al - 1) / al * al := Int.mul_nonneg hq0 (by omega)
  unfold thread_Up.f upTo
  rw [if_neg (by omega), e1, e2, hd]
  have e3 : wrap64 ((n + al - 1) / al) = (n + al - 1) / al := by unfold wrap64; omega
  rw [e3]
  have e4 : wrap64 ((n + al - 1) / al * al) = (n + al - 1) / al * al := by unfold wrap64; omega
  rw [e4]
theorem upTo_le {n al : Int} (h2 : 1 ≤ al) : upTo n al ≤ n + al - 1 := Int.ediv_mul_le _ (by omega)
theorem wrap_succ {i : Nat} (h : i < 100000) : wrap64 ((i : Int) + 1) = ((i + 1 : Nat) : Int) := by unfold wrap64; omega
theorem wrap_id {x : Int} (h0 : -1000000000000 ≤ x) (h1 : x ≤ 1000000000000) : wrap64 x = x := by unfold wrap64; omega
set_option maxHeartbeats 2000000 in
theorem assign_l1 {items : List S57} (hv : OkI items) {os : List S72} {kk : Nat} {start : Int} {n : Int} (hkk : kk < 1000) : ∀ (d i k : Nat) (at_ : Int) (ad : List Int) (sp : List S80), i + d = items.length → d < k → ad.length = items.length → 0 ≤ at_ → at_ ≤ 2000000 + 2000300 * (i : Int) → kk < sp.length →
    place_Assign.l1 k items ad sp kk start at_ os n kk items items.length i = (if (assignItems items kk d i at_ ad).1 > 1048576 then some ([], [], 10, (kk : Int)) else place_Assign.l0 (k - d - 1) items (assignItems items kk d i at_ ad).2 (sp.set kk ⟨start, wrap64 ((assignItems items kk d i at_ ad).1 - start)⟩) (assignItems items kk d i at_ ad).1 os n ((kk + 1 : Nat) : Int))
  | 0, i, k, at_, ad, sp, hi, hk, hl, h0, h1, hsp => by
    obtain ⟨k, rfl⟩ : ∃ k', k = k' + 1 := ⟨k - 1, by omega⟩
    have hA := wrap_succ (i := kk) (by omega)
    have hB : ¬ ((i : Int) < items.length) := by omega
    have hC : (0 : Int) ≤ kk := by omega
    have hD : (kk : Int) < sp.length := by omega
    rw [place_Assign.l1, if_neg hB, if_pos hC, if_pos hD, hA, Nat.sub_zero, Nat.add_sub_cancel, show ((kk : Int)).toNat = kk from rfl]
    rw [show assignItems items kk 0 i at_ ad = (at_, ad) from rfl]
  | d + 1, i, k, at_, ad, sp, hi, hk, hl, h0, h1, hsp => by
    suffices H : ∀ R, (if (assignItems items kk (d + 1) i at_ ad).1 > 1048576 then some ([], [], 10, (kk : Int)) else place_Assign.l0 (k - (d + 1) - 1) items (assignItems items kk (d + 1) i at_ ad).2 (sp.set kk ⟨start, wrap64 ((assignItems items kk (d + 1) i at_ ad).1 - start)⟩) (assignItems items kk (d + 1) i at_ ad).1 os n ((kk + 1 : Nat) : Int)) = R → place_Assign.l1 k items ad sp kk start at_ os n kk items items.length i = R from H _ rfl
    intro R hR
    obtain ⟨k, rfl⟩ : ∃ k', k = k' + 1 := ⟨k - 1, by omega⟩
    rw [show k + 1 - (d + 1) - 1 = k - d - 1 by omega] at hR
    have hlen := hv.len
    obtain ⟨v1, v2, v3, v4⟩ := hv.x i (by omega)
    have hA : (i : Int) < items.length := by omega
    have hB : (0 : Int) ≤ i := by omega
    have hi1 : i < 100000 := by omega
    have hr : rd_T57 items i = items.getD i z57 := rfl
    rw [place_Assign.l1, if_pos hA, if_pos hB, if_pos hA, hr]
    by_cases c : (items.getD i z57).f0 = kk
    · have hu := upTo_ge (n := at_) v3
      have hu2 := upTo_le (n := at_) v3
      have ih := assign_l1 hv (os := os) (kk := kk) (start := start) (n := n) hkk d (i + 1) k (upTo at_ (items.getD i z57).f2 + (items.getD i z57).f1) (ad.set i (upTo at_ (items.getD i z57).f2)) sp (by omega) (by omega) (by simpa using hl) (by omega) (by omega) hsp
      have ha : assignItems items kk (d + 1) i at_ ad = assignItems items kk d (i + 1) (upTo at_ (items.getD i z57).f2 + (items.getD i z57).f1) (ad.set i (upTo at_ (items.getD i z57).f2)) := by rw [assignItems, if_pos c]
      rw [ha] at hR
      rw [if_pos c, up_plain h0 (by omega) v3 (by omega)]
      simp only [Option.bind_some]
      rw [if_pos (show (i : Int) < ad.length by omega), show ((i : Int)).toNat = i from rfl]
      have hrd : rd (ad.set i (upTo at_ (items.getD i z57).f2)) i = upTo at_ (items.getD i z57).f2 := by
        simp [rd, List.getD_eq_getElem?_getD, List.getElem?_set, show i < ad.length by omega]
      rw [hrd, wrap_succ hi1, wrap_id (by omega) (by omega), ih, hR]
    · have ih := assign_l1 hv (os := os) (kk := kk) (start := start) (n := n) hkk d (i + 1) k at_ ad sp (by omega) (by omega) hl h0 (by omega) hsp
      have ha : assignItems items kk (d + 1) i at_ ad = assignItems items kk d (i + 1) at_ ad := by rw [assignItems, if_neg c]
      rw [ha] at hR
      rw [if_neg c, wrap_succ hi1, ih, hR]
theorem assignItems_len {items : List S57} {kk : Int} : ∀ (d i : Nat) (at_ : Int) (ad : List Int), (assignItems items kk d i at_ ad).2.length = ad.length
  | 0, _, _, _ => rfl
  | d + 1, i, at_, ad => by
    rw [assignItems]
    split
    · rw [assignItems_len d (i + 1)]; simp
    · exact assignItems_len d (i + 1) at_ ad
set_option maxHeartbeats 2000000 in
theorem assign_l0 {items : List S57} (hv : OkI items) {os : List S72} (ho : ValidO os) : ∀ (d i k : Nat) (end_ : Int) (ad : List Int) (sp S : List S80), i + d = os.length → d * (items.length + 4) < k → ad.length = items.length → 0 ≤ end_ → end_ ≤ 1048576 → sp.length = os.length →
    ∃ sp', place_Assign.l0 k items ad sp end_ os os.length i = some ((assignFrom os items d i end_ ad S).ad, sp', (assignFrom os items d i end_ ad S).code, (assignFrom os items d i end_ ad S).idx)
  | 0, i, k, end_, ad, sp, S, hi, hk, hl, h0, h1, hsp => by
    obtain ⟨k, rfl⟩ : ∃ k', k = k' + 1 := ⟨k - 1, by omega⟩
    exact ⟨sp, by rw [place_Assign.l0, if_neg (by omega)]; rfl⟩
  | d + 1, i, k, end_, ad, sp, S, hi, hk, hl, h0, h1, hsp => by
    rw [Nat.succ_mul] at hk
    obtain ⟨k, rfl⟩ : ∃ k', k = k' + 1 + 1 + 1 := ⟨k - 3, by omega⟩
    have hol := ho.len
    have hlen := hv.len
    obtain ⟨o1, o2, o3, o4⟩ := ho.o i (by omega)
    have hr : rd_T72 os i = os.getD i z72 := rfl
    have hu1 := upTo_ge (n := end_) (al := 256) (by omega)
    have hu2 := upTo_le (n := end_) (al := 256) (by omega)
    have hu3 := upTo_ge (n := upTo end_ 256) o3
    have hu4 := upTo_le (n := upTo end_ 256) o3
    have hstep : place_Assign.l0 (k + 1 + 1 + 1) items ad sp end_ os os.length i = place_Assign.j1 (k + 1 + 1) items ad sp end_ i (if (os.getD i z72).f1 < 0 then upTo (upTo end_ 256) (os.getD i z72).f2 else (os.getD i z72).f1) os os.length i (os.getD i z72).f0 (os.getD i z72).f1 (os.getD i z72).f2 (os.getD i z72).f3 := by
      rw [place_Assign.l0, if_pos (by omega), if_pos (by omega), if_pos (by omega), hr]
      by_cases c : (os.getD i z72).f1 < 0
      · rw [if_pos c, if_pos c, up_plain h0 (by omega) (by omega) (by omega)]
        simp only [Option.bind_some]
        rw [up_plain (by omega) (by omega) o3 o4]
        rfl
      · rw [if_neg c, if_neg c]
    rw [hstep]
    simp only [assignFrom]
    have hst : 0 ≤ (if (os.getD i z72).f1 < 0 then upTo (upTo end_ 256) (os.getD i z72).f2 else (os.getD i z72).f1) ∧ (if (os.getD i z72).f1 < 0 then upTo (upTo end_ 256) (os.getD i z72).f2 else (os.getD i z72).f1) ≤ 2000000 := by
      split <;> omega
    generalize (if (os.getD i z72).f1 < 0 then upTo (upTo end_ 256) (os.getD i z72).f2 else (os.getD i z72).f1) = start at *
    generalize (os.getD i z72).f2 = al at *
    rw [place_Assign.j1]
    by_cases c1 : start < end_
    · rw [if_pos c1, if_pos (Or.inl c1)]
      exact ⟨[], by simp [place_Assign.j2]⟩
    · rw [if_neg c1, if_neg (by omega)]
      have hmod : Int.tmod start al = start % al := Int.tmod_eq_emod_of_nonneg hst.1
      rw [hmod]
      by_cases c2 : start % al ≠ 0
      · rw [if_pos (Or.inr c2)]
        exact ⟨[], by simp [place_Assign.j2, c2]⟩
      · have c2' : start % al = 0 := by simpa using c2
        rw [if_neg (show ¬ (start < end_ ∨ start % al ≠ 0) from fun h => h.elim c1 c2)]
        have hL1 := assign_l1 hv (os := os) (kk := i) (start := start) (n := (os.length : Int)) (by omega) items.length 0 k start ad sp (by omega) (by omega) hl hst.1 (by omega) (by omega)
        rw [show ((0 : Nat) : Int) = 0 from rfl] at hL1
        rw [place_Assign.j2, if_neg (by simp [c2']), hL1]
        have hge := assignItems_ge hv i items.length 0 start ad (by omega)
        have hlen2 := assignItems_len (items := items) (kk := i) items.length 0 start ad
        generalize assignItems items i items.length 0 start ad = r at *
        by_cases c3 : 1048576 < r.1
        · rw [if_pos c3, if_pos c3]
          exact ⟨[], rfl⟩
        · rw [if_neg c3, if_neg c3]
          exact assign_l0 hv ho d (i + 1) _ r.1 r.2 _ _ (by omega) (by omega) (by omega) (by omega) (by omega) (by simpa using hsp)
theorem assign_plain {items : List S57} (hv : OkI items) {os : List S72} (rs : List S76) (ho : ValidO os) : ∃ sp', place_Assign.f (os.length * (items.length + 4) + 1) os rs items = some ((assign os items).ad, sp', (assign os items).code, (assign os items).idx) := by
  have h1 := hv.len
  have h2 := ho.len
  obtain ⟨sp', h⟩ := assign_l0 hv ho os.length 0 (os.length * (items.length + 4) + 1) 256 (List.replicate items.length 0) (List.replicate os.length z80) [] (by omega) (by omega) (by simp) (by omega) (by omega) (by simp)
  refine ⟨sp', ?_⟩
  unfold place_Assign.f assign
  rw [if_pos (by omega), if_pos (by omega), if_pos (by omega), if_pos (by omega)]
  exact h
theorem rowI_of_R {w : World} {base : Nat} {ok : Nat → Prop} {v : Value} {xs : List Int} {e : Nat} (h : Kd.R (Kd.int .i64) e w base ok v xs) : RowI base w v xs := by
  obtain ⟨A, c, he, hl, hr⟩ := Kd.R_reads h
  exact ⟨A, c, he, by omega, hr, fun ad had => Kd.R_base h ad.block (by rw [he, had]; rfl)⟩
theorem isSl_of_R {α : Type} {d : Kd α} {w : World} {base : Nat} {ok : Nat → Prop} {v : Value} {xs : List α} {e : Nat} (h : Kd.R d e w base ok v xs) : IsSl v := by
  obtain ⟨A, c, he, _, _⟩ := Kd.R_reads h
  exact ⟨A, _, c, he⟩
theorem assign_calls : AssignCalls := fun A0 c0 os A1 c1 rs A c items W ho hv hC0 hc0 hC1 hc1 hC hc => by
  obtain ⟨sp', h⟩ := assign_plain hv rs ho
  refine (place_Assign.calls _ A0 c0 os A1 c1 rs A c items _ _ _ _ W hC0 hc0 hC1 hc1 hC hc h).mono ?_
  rintro e w' ⟨v0, v1, rfl, h0, h1, hb⟩
  exact ⟨v0, v1, rfl, rowI_of_R h0, isSl_of_R h1, hb⟩
end Go.Proofs.Ytogcgcjhoebooaa
end
section
namespace Go.Proofs.Ytogcgcjhoebooaa
open Go.RowKit Go.Proofs.YtogcgcjhoebooaaW.PrintWords Go.Proofs.YtogcgcjhoebooaaW.PrintLast Go.Proofs.Ytogcgcjhoebooaa.PVeneerMatchesSpec
set_option linter.unusedVariables false
set_option linter.unusedSimpArgs false
set_option maxHeartbeats 2000000 in
theorem name_step (s : ByteArray) (i k : Nat) (hi : i < s.size) (hs : s.size ≤ 9223372036854775807) :
    script_IsName.l0 (k + 1) s s.size i = if nameChar s i = true then script_IsName.l0 k s s.size ((i + 1 : Nat) : Int) else some false := by
  have e1 : wrap64 ((i : Int) + 1) = ((i + 1 : Nat) : Int) := by unfold wrap64; omega
  have h1 : (i : Int) < s.size := by omega
  have h2 : (0 : Int) ≤ i := by omega
  rw [script_IsName.l0, if_pos h1, if_pos h2, if_pos h1, e1]
  unfold nameChar chr
  simp only [Bool.or_eq_true, Bool.and_eq_true, decide_eq_true_eq]
  generalize script_IsName.l0 k s s.size ((i + 1 : Nat) : Int) = R
  generalize bt s i = b
  have h3 : (i : Int) = 0 ↔ i = 0 := by omega
  simp only [h3]
  clear e1 h1 h2 h3 hs hi
  by_cases c : ((97 ≤ b ∧ b ≤ 122 ∨ 65 ≤ b ∧ b ≤ 90 ∨ b = 46 ∨ b = 95 ∨ b = 36) ∨ 0 < i ∧ 48 ≤ b ∧ b ≤ 57)
  · rw [if_pos c]
    repeat' split
    all_goals first | rfl | (exfalso; omega)
  · rw [if_neg c]
    repeat' split
    all_goals first | rfl | (exfalso; omega)
theorem name_plain (s : ByteArray) (hs : s.size ≤ 9223372036854775807) : ∀ (d i k : Nat), i + d = s.size → d < k →
    script_IsName.l0 k s s.size i = some ((List.range' i d).all (nameChar s) && decide (1 ≤ s.size ∧ s.size ≤ 16))
  | 0, i, k, hi, hk => by
    obtain ⟨k, rfl⟩ : ∃ k', k = k' + 1 := ⟨k - 1, by omega⟩
    rw [script_IsName.l0, if_neg (by omega)]
    by_cases c : (s.size : Int) ≥ 1
    · rw [if_pos c]
      simp only [List.range'_zero, List.all_nil, Bool.true_and]
      congr 1
      rw [decide_eq_decide]; omega
    · rw [if_neg c]
      simp only [List.range'_zero, List.all_nil, Bool.true_and]
      rw [decide_eq_false (by omega)]
  | d + 1, i, k, hi, hk => by
    obtain ⟨k, rfl⟩ : ∃ k', k = k' + 1 := ⟨k - 1, by omega⟩
    have ih := name_plain s hs d (i + 1) k (by omega) (by omega)
    rw [name_step s i k (by omega) hs, ih, List.range'_succ, List.all_cons]
    cases nameChar s i <;> simp
theorem name_f (s : ByteArray) (hs : s.size ≤ 9223372036854775807) : script_IsName.f (s.size + 1) s = some (nameOk s) := by
  unfold script_IsName.f nameOk
  have := name_plain s hs s.size 0 (s.size + 1) (by omega) (by omega)
  rw [List.range_eq_range']
  exact this
theorem name_calls : NameCalls := fun s w hs => script_IsName.calls (s.size + 1) s _ w (name_f s hs)
end Go.Proofs.Ytogcgcjhoebooaa
end
section
namespace Go.Proofs.Ytogcgcjhoebooaa
open Go.RowKit Go.Proofs.YtogcgcjhoebooaaW.PrintWords Go.Proofs.YtogcgcjhoebooaaW.PrintLast Go.Proofs.Ytogcgcjhoebooaa.PVeneerMatchesSpec
set_option linter.unusedVariables false
set_option linter.unusedSimpArgs false
theorem bt_data (s : ByteArray) (i : Nat) (h : i < s.data.toList.length) : bt s i = ((s.data.toList[i]'h).toNat : Int) := by
  have h' : ((i : Int)).toNat < s.size := by
    show i < s.data.size
    simpa using h
  unfold bt
  rw [dif_pos h']
  rfl
theorem size_data (s : ByteArray) : s.size = s.data.toList.length := (Array.length_toList).symm
theorem list_one (l : List UInt8) (b : Int) (hb : ∀ h : 0 < l.length, b = ((l[0]'h).toNat : Int)) : l = [42] ↔ l.length = 1 ∧ b = 42 := by
  match l with
  | [] => constructor <;> intro h <;> simp at h
  | [x] =>
    have := hb (by simp)
    simp only [List.getElem_cons_zero] at this
    constructor
    · intro h
      injection h with h _
      subst h
      exact ⟨rfl, this⟩
    · rintro ⟨_, h⟩
      have hx : x = 42 := by
        apply UInt8.toNat_inj.1
        have e : ((42 : UInt8)).toNat = 42 := rfl
        omega
      rw [hx]
  | x :: y :: l => constructor <;> intro h <;> simp at h
theorem one_iff (s : ByteArray) : s.toList = [42] ↔ s.size = 1 ∧ bt s 0 = 42 := by
  rw [ByteArray.toList_eq, size_data]
  exact list_one _ _ (fun h => bt_data s 0 h)
theorem last_iff (s : ByteArray) (h : 0 < s.size) : ((s.extract (s.size - 1) s.size).toList == [42]) = decide (bt s ((s.size - 1 : Nat) : Int) = 42) := by
  have hl : s.data.toList.length = s.size := (size_data s).symm
  have e : (s.extract (s.size - 1) s.size).toList = [s.data.toList[s.size - 1]'(by omega)] := by
    rw [Go.Lib.extract_toList, show s.size - (s.size - 1) = 1 by omega, List.drop_eq_getElem_cons (by omega)]
    rfl
  have hb := bt_data s (s.size - 1) (by omega)
  rw [e, hb]
  generalize s.data.toList[s.size - 1]'(by omega) = x
  rw [Bool.eq_iff_iff, beq_iff_eq, decide_eq_true_iff]
  have := list_one [x] (x.toNat : Int) (fun _ => rfl)
  rw [this]
  simp
theorem trim_plain (s : ByteArray) (hs : s.size ≤ 9223372036854775807) : strings_TrimSuffix.f s (⟨#[42]⟩ : ByteArray) = some (if 0 < s.size ∧ bt s ((s.size - 1 : Nat) : Int) = 42 then s.extract 0 (s.size - 1) else s) := by
  have h1 : ((⟨#[42]⟩ : ByteArray)).size = 1 := rfl
  have h2 : ((⟨#[42]⟩ : ByteArray)).toList = [42] := by rw [ByteArray.toList_eq]
  unfold strings_TrimSuffix.f stringslite_TrimSuffix.f stringslite_HasSuffix.f
  rw [h1, h2]
  by_cases h : 0 < s.size
  · have e1 : wrap64 ((s.size : Int) - ((1 : Nat) : Int)) = ((s.size - 1 : Nat) : Int) := by unfold wrap64; omega
    rw [e1, if_pos (show (s.size : Int) ≥ ((1 : Nat) : Int) by omega), if_pos (show (0 : Int) ≤ ((s.size - 1 : Nat) : Int) by omega), if_pos (show ((s.size - 1 : Nat) : Int) ≤ (s.size : Int) by omega), show (((s.size - 1 : Nat) : Int)).toNat = s.size - 1 from rfl, last_iff s h]
    simp only [Option.bind_some]
    by_cases c : bt s ((s.size - 1 : Nat) : Int) = 42
    · rw [decide_eq_true c, if_pos rfl, if_pos (show (0 : Int) ≤ ((s.size - 1 : Nat) : Int) by omega), if_pos (show ((s.size - 1 : Nat) : Int) ≤ (s.size : Int) by omega), if_pos (show 0 < s.size ∧ bt s ((s.size - 1 : Nat) : Int) = 42 from ⟨h, c⟩)]
      rfl
    · rw [decide_eq_false c, if_neg (by simp), if_neg (show ¬ (0 < s.size ∧ bt s ((s.size - 1 : Nat) : Int) = 42) from fun hh => c hh.2)]
      rfl
  · rw [if_neg (show ¬ (s.size : Int) ≥ ((1 : Nat) : Int) by omega), if_neg (show ¬ (0 < s.size ∧ bt s ((s.size - 1 : Nat) : Int) = 42) from fun hh => h hh.1)]
    simp
theorem name_mono (s : ByteArray) (k : Nat) (hk : s.size < k) (hs : s.size ≤ 9223372036854775807) : script_IsName.f k s = some (nameOk s) := by
  unfold script_IsName.f nameOk
  have := name_plain s hs s.size 0 k (by omega) hk
  rw [List.range_eq_range']
  exact this
theorem pat_calls : PatCalls := fun s w hs => by
  refine script_isPattern.calls (s.size + 1) s _ w ?_
  unfold script_isPattern.f patOk
  by_cases c : s.toList = [42]
  · rw [if_pos c, if_pos ((one_iff s).1 c)]
  · rw [if_neg c, if_neg (fun h => c ((one_iff s).2 h)), trim_plain s hs]
    simp only [Option.bind_some]
    have e : 0 < s.size → ((s.size : Int) - 1) = ((s.size - 1 : Nat) : Int) := fun h => by omega
    by_cases d : 0 < s.size ∧ bt s ((s.size - 1 : Nat) : Int) = 42
    · rw [if_pos d, if_pos ⟨d.1, by rw [e d.1]; exact d.2⟩]
      have hsz : (s.extract 0 (s.size - 1)).size ≤ s.size := by rw [ByteArray.size_extract]; omega
      rw [name_mono _ _ (by omega) (by omega)]
      rfl
    · rw [if_neg d, if_neg (fun h => d ⟨h.1, by rw [← e h.1]; exact h.2⟩), name_mono _ _ (by omega) hs]
      rfl
end Go.Proofs.Ytogcgcjhoebooaa
end
section
namespace Go.Proofs.Ytogcgcjhoebooaa
open Go.RowKit Go.Proofs.YtogcgcjhoebooaaW.PrintWords Go.Proofs.Ytogcgcjhoebooaa.PVeneerMatchesSpec
set_option linter.unusedVariables false
theorem insert_done {w : World} {A0 A1 A2 AB : Option Addr} {c0 c1 c2 cB : Nat} {os : List S72} {rs : List S76} {items : List S57} {bs : List S48}
    (h0 : Kd.C k72 w A0 os.length os) (hc0 : os.length ≤ c0) (h1 : Kd.C k76 w A1 rs.length rs) (hc1 : rs.length ≤ c1) (h2 : Kd.C k57 w A2 items.length items) (hc2 : items.length ≤ c2) (hB : Kd.C k48 w AB bs.length bs) (hcB : bs.length ≤ cB)
    (hs0 : ∀ j, (os.getD j z72).f0.size ≤ 9223372036854775807) (hs1 : ∀ j, (rs.getD j z76).f0.size ≤ 9223372036854775807) :
    Calls Try.prog 8 #[.agg #[.slice A0 os.length c0, .slice A1 rs.length c1], .slice A2 items.length c2, .slice AB bs.length cB] w fun e W' => ∃ vf vs va : Value, e = .returned (.tuple #[vf, vs, va, .agg #[.int .i64 (inserted os rs items bs).code, .int .i64 (inserted os rs items bs).idx]]) ∧
      Below w.heap.size w W' ∧ RowD Kd.bool w.heap.size W' vf (inserted os rs items bs).far ∧ RowD k54 w.heap.size W' vs (inserted os rs items bs).stubs ∧ RowD (Kd.int .i64) w.heap.size W' va (inserted os rs items bs).ad :=
  insert_calls name_calls pat_calls items_calls branch_calls assign_calls goal_calls cont_calls index_calls63 num_calls addr_calls h0 hc0 h1 hc1 h2 hc2 hB hcB hs0 hs1
end Go.Proofs.Ytogcgcjhoebooaa
end
section
namespace Go.Proofs.Ytogcgcjhoebooaa
open Go.RowKit Go.Proofs.YtogcgcjhoebooaaW.PrintWords Go.Proofs.YtogcgcjhoebooaaW.PrintLast Go.Proofs.Ytogcgcjhoebooaa.PVeneerMatchesSpec
set_option linter.unusedVariables false
set_option linter.unusedSimpArgs false
def osA : List S72 := [(⟨(⟨#[97]⟩ : ByteArray), 256, 1, 5⟩ : S72), (⟨(⟨#[98]⟩ : ByteArray), 131072, 1, 5⟩ : S72)]
def itA : List S57 := [⟨0, 3, 1⟩, ⟨1, 1, 1⟩]
theorem ins1 : inserted osA [] itA [⟨0, 1, 2, 0, 1, 0⟩] = ⟨[true], [⟨0, 3, 1, 0, 0⟩], [256, 131072], 0, 0⟩ := by kernel_rfl
theorem ins2 : inserted osA [] itA [⟨0, 1, 2, 0, 0, 0⟩] = ⟨[false], [], [256, 131072], 0, 0⟩ := by kernel_rfl
theorem ins3 : inserted osA [] itA [⟨0, 0, 1, 0, 0, 0⟩] = ⟨[], [], [], 4, 1000⟩ := by kernel_rfl
end Go.Proofs.Ytogcgcjhoebooaa
end
section
namespace Go.Proofs.Ytogcgcjhoebooaa
open Go.RowKit Go.Proofs.YtogcgcjhoebooaaW.PrintWords Go.Proofs.YtogcgcjhoebooaaW.PrintLast Go.Proofs.Ytogcgcjhoebooaa.PVeneerMatchesSpec
set_option linter.unusedVariables false
set_option linter.unusedSimpArgs false
/-- The row of a block that is known whole. -/
theorem C_blk {α : Type} {d : Kd α} {w : World} {g : Nat} {cs : Array Value} {t : TypeId} {fr : Nat × Nat} {xs : List α} (h : w.heap[g]? = some (.cells cs t fr)) (hm : xs.length ≤ 9223372036854775807)
    (hx : ∀ j p, xs[j]? = some p → ∃ c, c.length = d.sz ∧ d.K w p c ∧ ∀ (i : Nat) (u : Value), c[i]? = some u → cs[j * d.sz + i]? = some u) : Kd.C d w (some ⟨g, 0, none⟩) xs.length xs := by
  refine ⟨rfl, hm, fun hp => ⟨_, rfl, fun j p hj => ?_⟩⟩
  obtain ⟨c, h1, h2, h3⟩ := hx j p hj
  refine ⟨c, h1, h2, fun i u hu => ?_⟩
  have ha : (⟨g, 0, none⟩ : Addr).add (j * d.sz + i) = ⟨g, j * d.sz + i, none⟩ := by unfold Addr.add; split <;> simp_all
  rw [ha]
  have := h3 i u hu
  simp [World.cell?, h, this]
theorem C48_one {w : World} {g : Nat} {t : TypeId} {fr : Nat × Nat} (x : S48) (h : w.heap[g]? = some (.cells #[.int .i64 x.f0, .int .i64 x.f1, .int .i64 x.f2, .int .i64 x.f3, .int .i64 x.f4, .int .i64 x.f5] t fr)) : Kd.C k48 w (some ⟨g, 0, none⟩) 1 [x] :=
  C_blk h (by simp) (fun j p hj => by
    match j, hj with
    | 0, hj =>
      simp at hj
      subst hj
      refine ⟨_, rfl, k48_mk w x, fun i u hu => ?_⟩
      match i, hu with
      | 0, hu => exact hu
      | 1, hu => exact hu
      | 2, hu => exact hu
      | 3, hu => exact hu
      | 4, hu => exact hu
      | 5, hu => exact hu
      | i + 6, hu => simp at hu
    | j + 1, hj => simp at hj)
theorem CitA {w : World} {g : Nat} {t : TypeId} {fr : Nat × Nat} (h : w.heap[g]? = some (.cells #[.int .i64 0, .int .i64 3, .int .i64 1, .int .i64 1, .int .i64 1, .int .i64 1] t fr)) : Kd.C k57 w (some ⟨g, 0, none⟩) 2 itA :=
  C_blk (xs := itA) h (by decide) (fun j p hj => by
    match j, hj with
    | 0, hj =>
      have : p = ⟨0, 3, 1⟩ := by simpa [itA] using hj.symm
      subst this
      refine ⟨_, rfl, k57_mk w _, fun i u hu => ?_⟩
      match i, hu with
      | 0, hu => exact hu
      | 1, hu => exact hu
      | 2, hu => exact hu
      | i + 3, hu => simp at hu
    | 1, hj =>
      have : p = ⟨1, 1, 1⟩ := by simpa [itA] using hj.symm
      subst this
      refine ⟨_, rfl, k57_mk w _, fun i u hu => ?_⟩
      match i, hu with
      | 0, hu => exact hu
      | 1, hu => exact hu
      | 2, hu => exact hu
      | i + 3, hu => simp at hu
    | j + 2, hj => simp [itA] at hj)
theorem sizes_A : ∀ j, (osA.getD j z72).f0.size ≤ 9223372036854775807 := by
  intro j
  match j with
  | 0 => decide
  | 1 => decide
  | j + 2 => show (z72.f0).size ≤ _; decide
theorem sizes_nil : ∀ j, (([] : List S76).getD j z76).f0.size ≤ 9223372036854775807 := by
  intro j; show (z76.f0).size ≤ _; decide
/-- what the function apart returns -/
theorem apart_calls (w : World) : Calls Try.prog 29 #[] w fun e w' => ∃ A c A1 c1, e = .returned (.agg #[.slice A 2 c, .slice A1 0 c1]) ∧ Kd.C k72 w' A 2 osA ∧ 2 ≤ c ∧ Kd.C k76 w' A1 0 [] ∧ Below w.heap.size w w' := by
  refine (linkhouselaw4_apart.calls _ _ w rfl).mono ?_
  rintro e w' ⟨v0, v1, rfl, h0, h1, hb⟩
  obtain ⟨A, c, rfl, hl, hr⟩ := Kd.R_reads h0
  obtain ⟨A1, c1, rfl, hl1, hr1⟩ := Kd.R_reads h1
  exact ⟨A, c, A1, c1, rfl, hr, hl, hr1, hb⟩
end Go.Proofs.Ytogcgcjhoebooaa
end
section
namespace Go.Proofs.Ytogcgcjhoebooaa.PVeneerMatchesSpec
open Go.RowKit Go.Proofs.YtogcgcjhoebooaaW.PrintWords Go.Proofs.YtogcgcjhoebooaaW.PrintLast Go.Proofs.YtogcgcjhoebooaaW.PrintMore
set_option linter.unusedVariables false
set_option linter.unusedSimpArgs false
def linkhouseref3_In.f (a0 : Int) (a1 : Int) (a2 : Int) : Option (Bool) := if a0 ≥ a1 then (some (decide (a0 ≤ a2))) else (some false)
def linkhouseref3_At.f (a0 : Int) (a1 : Int) : Option (Int × Int) := some (a0, a1)
def linkhouseref3_NameOk.l0 : Nat → ByteArray → Int → Option (Bool)
  | 0, _, _ => none
  | k + 1, x0, x3 => if x3 < (x0.size : Int) then (if 0 ≤ x3 then ((linkhouseref3_In.f (wrap64 (bt x0 x3)) 97 122).bind fun t103 => (if t103 = true then (linkhouseref3_NameOk.l0 k x0 (wrap64 (x3 + 1))) else ((linkhouseref3_In.f (wrap64 (bt x0 x3)) 65 90).bind fun t104 => (if t104 = true then (linkhouseref3_NameOk.l0 k x0 (wrap64 (x3 + 1))) else (if (wrap64 (bt x0 x3)) = 46 then (linkhouseref3_NameOk.l0 k x0 (wrap64 (x3 + 1))) else (if (wrap64 (bt x0 x3)) = 95 then (linkhouseref3_NameOk.l0 k x0 (wrap64 (x3 + 1))) else (if ((wrap64 (bt x0 x3)) = 36) then (linkhouseref3_NameOk.l0 k x0 (wrap64 (x3 + 1))) else (if x3 > 0 then ((linkhouseref3_In.f (wrap64 (bt x0 x3)) 48 57).bind fun t105 => (if t105 = true then (linkhouseref3_NameOk.l0 k x0 (wrap64 (x3 + 1))) else (some false))) else (some false))))))))) else (none)) else ((linkhouseref3_In.f (x0.size : Int) 1 16).bind fun t102 => (some t102))
def linkhouseref3_NameOk.f (k : Nat) (a0 : ByteArray) : Option (Bool) := linkhouseref3_NameOk.l0 k a0 0
theorem linkhouseref3_NameOk.mono_l : ∀ k, (∀ y0 y1, LeO (linkhouseref3_NameOk.l0 k y0 y1) (linkhouseref3_NameOk.l0 (k + 1) y0 y1))
  | 0 => fun _ _ r h => by simp [linkhouseref3_NameOk.l0] at h
  | k + 1 => by
    have ih0 := linkhouseref3_NameOk.mono_l k
    · intro y0 y1
      unfold linkhouseref3_NameOk.l0
      repeat' first
      | (with_reducible exact ih0 _ _)
      | (with_reducible exact LeO.refl _)
      | (with_reducible exact LeO.none _)
      | (with_reducible refine LeO.ite ?_ ?_)
      | (with_reducible refine LeO.bind ?_ (fun _ => ?_))
      | exact ih0 _ _
      | exact LeO.none _
      | refine LeO.ite ?_ ?_
      | refine LeO.bind ?_ (fun _ => ?_)
theorem linkhouseref3_NameOk.mono : ∀ a0 k, LeO (linkhouseref3_NameOk.f k a0) (linkhouseref3_NameOk.f (k + 1) a0) := by
  intro a0 k
  have ih0 := linkhouseref3_NameOk.mono_l k
  unfold linkhouseref3_NameOk.f
  repeat' first
      | (with_reducible exact ih0 _ _)
      | (with_reducible exact LeO.refl _)
      | (with_reducible exact LeO.none _)
      | (with_reducible refine LeO.ite ?_ ?_)
      | (with_reducible refine LeO.bind ?_ (fun _ => ?_))
      | exact ih0 _ _
      | exact LeO.none _
      | refine LeO.ite ?_ ?_
      | refine LeO.bind ?_ (fun _ => ?_)
def linkhouseref3_Power.l0 : Nat → Int → Int → Int → Option (Bool)
  | 0, _, _, _ => none
  | k + 1, x0, x1, x5 => if x5 ≤ x1 then (if x5 = x0 then (some true) else (linkhouseref3_Power.l0 k x0 x1 (wrap64 (x5 * 2)))) else (some false)
def linkhouseref3_Power.f (k : Nat) (a0 : Int) (a1 : Int) : Option (Bool) := linkhouseref3_Power.l0 k a0 a1 1
theorem linkhouseref3_Power.mono_l : ∀ k, (∀ y0 y1 y2, LeO (linkhouseref3_Power.l0 k y0 y1 y2) (linkhouseref3_Power.l0 (k + 1) y0 y1 y2))
  | 0 => fun _ _ _ r h => by simp [linkhouseref3_Power.l0] at h
  | k + 1 => by
    have ih0 := linkhouseref3_Power.mono_l k
    · intro y0 y1 y2
      unfold linkhouseref3_Power.l0
      repeat' first
      | (with_reducible exact ih0 _ _ _)
      | (with_reducible exact LeO.refl _)
      | (with_reducible exact LeO.none _)
      | (with_reducible refine LeO.ite ?_ ?_)
      | (with_reducible refine LeO.bind ?_ (fun _ => ?_))
      | exact ih0 _ _ _
      | exact LeO.none _
      | refine LeO.ite ?_ ?_
      | refine LeO.bind ?_ (fun _ => ?_)
theorem linkhouseref3_Power.mono : ∀ a0 a1 k, LeO (linkhouseref3_Power.f k a0 a1) (linkhouseref3_Power.f (k + 1) a0 a1) := by
  intro a0 a1 k
  have ih0 := linkhouseref3_Power.mono_l k
  unfold linkhouseref3_Power.f
  repeat' first
      | (with_reducible exact ih0 _ _ _)
      | (with_reducible exact LeO.refl _)
      | (with_reducible exact LeO.none _)
      | (with_reducible refine LeO.ite ?_ ?_)
      | (with_reducible refine LeO.bind ?_ (fun _ => ?_))
      | exact ih0 _ _ _
      | exact LeO.none _
      | refine LeO.ite ?_ ?_
      | refine LeO.bind ?_ (fun _ => ?_)
def linkhouseref3_PatternOk.j0 : Nat → ByteArray → Int → Bool → Option (Bool)
  | 0, _, _, _ => none
  | k + 1, x0, x3, x14 => if x14 = true then (if x3 = 1 then (some true) else (if 0 ≤ (wrap64 (x3 - 1)) then (if (wrap64 (x3 - 1)) ≤ (x0.size : Int) then ((linkhouseref3_NameOk.f k (x0.extract 0 ((wrap64 (x3 - 1)) : Int).toNat)).bind fun t106 => (some t106)) else (none)) else (none))) else ((linkhouseref3_NameOk.f k x0).bind fun t107 => (some t107))
def linkhouseref3_PatternOk.f (k : Nat) (a0 : ByteArray) : Option (Bool) := if (a0.size : Int) > 0 then (if 0 ≤ (wrap64 ((a0.size : Int) - 1)) then (if (wrap64 ((a0.size : Int) - 1)) < (a0.size : Int) then (linkhouseref3_PatternOk.j0 k a0 (a0.size : Int) ((bt a0 (wrap64 ((a0.size : Int) - 1))) == 42)) else (none)) else (none)) else (linkhouseref3_PatternOk.j0 k a0 (a0.size : Int) false)
theorem linkhouseref3_PatternOk.mono_l : ∀ k, (∀ y0 y1 y2, LeO (linkhouseref3_PatternOk.j0 k y0 y1 y2) (linkhouseref3_PatternOk.j0 (k + 1) y0 y1 y2))
  | 0 => fun _ _ _ r h => by simp [linkhouseref3_PatternOk.j0] at h
  | k + 1 => by
    have ih0 := linkhouseref3_PatternOk.mono_l k
    · intro y0 y1 y2
      unfold linkhouseref3_PatternOk.j0
      repeat' first
      | (with_reducible exact ih0 _ _ _)
      | (with_reducible exact linkhouseref3_NameOk.mono _ _)
      | (with_reducible exact LeO.refl _)
      | (with_reducible exact LeO.none _)
      | (with_reducible refine LeO.ite ?_ ?_)
      | (with_reducible refine LeO.bind ?_ (fun _ => ?_))
      | exact ih0 _ _ _
      | exact linkhouseref3_NameOk.mono _ _
      | exact LeO.none _
      | refine LeO.ite ?_ ?_
      | refine LeO.bind ?_ (fun _ => ?_)
theorem linkhouseref3_PatternOk.mono : ∀ a0 k, LeO (linkhouseref3_PatternOk.f k a0) (linkhouseref3_PatternOk.f (k + 1) a0) := by
  intro a0 k
  have ih0 := linkhouseref3_PatternOk.mono_l k
  unfold linkhouseref3_PatternOk.f
  repeat' first
      | (with_reducible exact ih0 _ _ _)
      | (with_reducible exact linkhouseref3_NameOk.mono _ _)
      | (with_reducible exact LeO.refl _)
      | (with_reducible exact LeO.none _)
      | (with_reducible refine LeO.ite ?_ ?_)
      | (with_reducible refine LeO.bind ?_ (fun _ => ?_))
      | exact ih0 _ _ _
      | exact linkhouseref3_NameOk.mono _ _
      | exact LeO.none _
      | refine LeO.ite ?_ ?_
      | refine LeO.bind ?_ (fun _ => ?_)
def linkhouseref3_ItemsFault.l0 : Nat → List (S57) → Int → Int → Option (Int × Int)
  | 0, _, _, _ => none
  | k + 1, x0, x1, x5 => if x5 < (x0.length : Int) then (if 0 ≤ x5 then ((linkhouseref3_In.f ((rd_T57 x0 x5).f0) 0 (wrap64 (x1 - 1))).bind fun t154 => (if t154 = true then ((linkhouseref3_In.f ((rd_T57 x0 x5).f1) 0 1048576).bind fun t156 => (if t156 = true then ((linkhouseref3_Power.f k ((rd_T57 x0 x5).f2) 256).bind fun t158 => (if t158 = true then (linkhouseref3_ItemsFault.l0 k x0 x1 (wrap64 (x5 + 1))) else ((linkhouseref3_At.f 3 (wrap64 ((-100) - x5))).bind fun bt159 => (some (bt159.1, bt159.2))))) else ((linkhouseref3_At.f 3 (wrap64 ((-100) - x5))).bind fun bt161 => (some (bt161.1, bt161.2))))) else ((linkhouseref3_At.f 3 (wrap64 ((-100) - x5))).bind fun bt163 => (some (bt163.1, bt163.2))))) else (none)) else (some (0, 0))
def linkhouseref3_ItemsFault.f (k : Nat) (l0 : List (S57)) (a1 : Int) : Option (Int × Int) := if (l0.length : Int) > 200 then ((linkhouseref3_At.f 2 (-3)).bind fun bt151 => (some (bt151.1, bt151.2))) else (linkhouseref3_ItemsFault.l0 k l0 a1 0)
theorem linkhouseref3_ItemsFault.mono_l : ∀ k, (∀ y0 y1 y2, LeO (linkhouseref3_ItemsFault.l0 k y0 y1 y2) (linkhouseref3_ItemsFault.l0 (k + 1) y0 y1 y2))
  | 0 => fun _ _ _ r h => by simp [linkhouseref3_ItemsFault.l0] at h
  | k + 1 => by
    have ih0 := linkhouseref3_ItemsFault.mono_l k
    · intro y0 y1 y2
      unfold linkhouseref3_ItemsFault.l0
      repeat' first
      | (with_reducible exact ih0 _ _ _)
      | (with_reducible exact linkhouseref3_Power.mono _ _ _)
      | (with_reducible exact LeO.refl _)
      | (with_reducible exact LeO.none _)
      | (with_reducible refine LeO.ite ?_ ?_)
      | (with_reducible refine LeO.bind ?_ (fun _ => ?_))
      | exact ih0 _ _ _
      | exact linkhouseref3_Power.mono _ _ _
      | exact LeO.none _
      | refine LeO.ite ?_ ?_
      | refine LeO.bind ?_ (fun _ => ?_)
theorem linkhouseref3_ItemsFault.mono : ∀ a0 a1 k, LeO (linkhouseref3_ItemsFault.f k a0 a1) (linkhouseref3_ItemsFault.f (k + 1) a0 a1) := by
  intro a0 a1 k
  have ih0 := linkhouseref3_ItemsFault.mono_l k
  unfold linkhouseref3_ItemsFault.f
  repeat' first
      | (with_reducible exact ih0 _ _ _)
      | (with_reducible exact linkhouseref3_Power.mono _ _ _)
      | (with_reducible exact LeO.refl _)
      | (with_reducible exact LeO.none _)
      | (with_reducible refine LeO.ite ?_ ?_)
      | (with_reducible refine LeO.bind ?_ (fun _ => ?_))
      | exact ih0 _ _ _
      | exact linkhouseref3_Power.mono _ _ _
      | exact LeO.none _
      | refine LeO.ite ?_ ?_
      | refine LeO.bind ?_ (fun _ => ?_)
def linkhouseref4_At.f (a0 : Int) (a1 : Int) : Option (Int × Int) := some (a0, a1)
set_option maxHeartbeats 8000000 in
set_option maxRecDepth 100000 in
theorem linkhouseref4_At.calls (a0 : Int) (a1 : Int) (r1 : Int) (r2 : Int) (w : World) (h : linkhouseref4_At.f a0 a1 = some (r1, r2)) :
    Calls Try.prog 21 #[.int .i64 a0, .int .i64 a1] w fun e w' => e = .returned (.agg #[.int .i64 r1, .int .i64 r2]) ∧ Below w.heap.size w w' := by
  have hu29 := Try.underlying29
  have HB := Aside0.mk (Below.refl w.heap.size w)
  have H : (some (a0, a1)) = some (r1, r2) := h
  clear h
  simp only [Option.some.injEq, Prod.mk.injEq] at H
  obtain ⟨rfl, rfl⟩ := H
  go_enter Try.func21, Try.ntmps21
  go_wp2_with (first | ((with_reducible refine gate_dst (N := 4) rfl ?_); refine box_event ?hg (N := 4) ?hd (cs := #[.int .i64 0, .int .i64 0]) (t := 29) ?hr ?_; (case hd => rfl); (case hg => rfl); (case hr => first | (go_simp; done) | (go_simp; rfl)); intro gb165 hg w3 hbox hb; have n0_ := Aside0.mk (below_step (by repeat (first | (with_reducible first | exact HB.out | apply below_alloc | apply pw_below_drewN | apply below_drew1) | exact HB.out)) hb); have n1_ := Aside0.mk (hbox); have n2_ := Aside0.mk ((by rw [hg]; exact (below_size (by repeat (first | (with_reducible first | exact HB.out | apply below_alloc | apply pw_below_drewN | apply below_drew1) | exact HB.out))) : w.heap.size ≤ gb165)); have n3_ := Aside0.mk ((by rw [hg]; exact (below_size (by repeat (first | (with_reducible first | exact HB.out | apply below_alloc | apply pw_below_drewN | apply below_drew1) | exact HB.out))) : w.heap.size ≤ gb165)); clear HB; have HB := n0_; have BK165 := n1_; have GW165 := n2_; have GE165 := n3_; clear n0_ n1_ n2_ n3_; clear hb hbox hg; have hcz4_0 : w3.cell? ⟨gb165, 0, none⟩ = some (.int .i64 0) := (blk_cell BK165.out 0).trans rfl; have hcz4_1 : w3.cell? ⟨gb165, 1, none⟩ = some (.int .i64 0) := (blk_cell BK165.out 1).trans rfl; have hfz4_0 := blk_frozen BK165.out 0; have hfz4_1 := blk_frozen BK165.out 1))
  refine bodyPost_ret (results_cell_row rfl _ _ gb165 29 #[.int .i64 a0, .int .i64 a1] (0, 0) _ rfl (by (with_reducible repeat (first | refine blk_drewN ?_ _ | refine blk_drew ?_ | refine blk_alloc ?_ _)); refine blk_put (cs := #[.int .i64 a0, .int .i64 0]) ?_ 1 _ rfl; (with_reducible repeat (first | refine blk_drewN ?_ _ | refine blk_drew ?_ | refine blk_alloc ?_ _)); refine blk_put (cs := #[.int .i64 0, .int .i64 0]) ?_ 0 _ rfl; (with_reducible repeat (first | refine blk_drewN ?_ _ | refine blk_drew ?_ | refine blk_alloc ?_ _)); exact BK165.out) Try.underlying29 rfl (by kernel_rfl)) rfl ?_
  exact ⟨by first | rfl | (simp [errW_none, errW_some] <;> rfl) | (simp [*, errW_none, errW_some] <;> rfl), by repeat (first | (with_reducible first | exact HB.out | apply below_alloc | apply pw_below_drewN | apply below_drew1 | refine below_set ?_ GE165.out) | exact HB.out)⟩
def linkhouseref4_In.f (a0 : Int) (a1 : Int) (a2 : Int) : Option (Bool) := if a0 ≥ a1 then (some (decide (a0 ≤ a2))) else (some false)
set_option maxHeartbeats 8000000 in
set_option maxRecDepth 100000 in
theorem linkhouseref4_In.calls (a0 : Int) (a1 : Int) (a2 : Int) (r : Bool) (w : World) (h : linkhouseref4_In.f a0 a1 a2 = some r) :
    Calls Try.prog 17 #[.int .i64 a0, .int .i64 a1, .int .i64 a2] w fun e w' => e = .returned (.bool r) ∧ Drawn0 w w' := by
  have H : (if a0 ≥ a1 then (some (decide (a0 ≤ a2))) else (some false)) = some r := h
  clear h
  by_cases c4 : a0 ≥ a1
  · rw [if_pos c4] at H
    have c4b0 : decide (a1 ≤ a0) = true := decide_eq_true c4
    clear c4
    obtain rfl := Option.some.inj H
    go_enter Try.func17, Try.ntmps17
    go_wp2
    go_ret
    exact ⟨by first | rfl | (simp; done) | (simp [*]; done), by repeat (first | exact Drawn0.refl _ | apply Drawn0.step)⟩
  · rw [if_neg c4] at H
    have c4b0 : decide (a1 ≤ a0) = false := decide_eq_false c4
    clear c4
    obtain rfl := Option.some.inj H
    go_enter Try.func17, Try.ntmps17
    go_wp2
    go_ret
    exact ⟨by first | rfl | (simp; done) | (simp [*]; done), by repeat (first | exact Drawn0.refl _ | apply Drawn0.step)⟩
end Go.Proofs.Ytogcgcjhoebooaa.PVeneerMatchesSpec
end
section
namespace Go.Proofs.Ytogcgcjhoebooaa
open Go.RowKit Go.Proofs.YtogcgcjhoebooaaW.PrintWords Go.Proofs.YtogcgcjhoebooaaW.PrintLast Go.Proofs.Ytogcgcjhoebooaa.PVeneerMatchesSpec
set_option linter.unusedVariables false
set_option linter.unusedSimpArgs false
theorem insA {w : World} {A A1 : Option Addr} {c c1 g k : Nat} {tg tk : TypeId} {fg fk : Nat × Nat} (b : S48) {r : Ins} (hr : inserted osA [] itA [b] = r) (hA : Kd.C k72 w A 2 osA) (hc : 2 ≤ c) (hA1 : Kd.C k76 w A1 0 [])
    (hI : w.heap[g]? = some (.cells #[.int .i64 0, .int .i64 3, .int .i64 1, .int .i64 1, .int .i64 1, .int .i64 1] tg fg)) (hB : w.heap[k]? = some (.cells #[.int .i64 b.f0, .int .i64 b.f1, .int .i64 b.f2, .int .i64 b.f3, .int .i64 b.f4, .int .i64 b.f5] tk fk)) :
    Calls Try.prog 8 #[.agg #[.slice A 2 c, .slice A1 0 c1], .slice (some ⟨g, 0, none⟩) 2 2, .slice (some ⟨k, 0, none⟩) 1 1] w fun e W' => ∃ vf vs va : Value, e = .returned (.tuple #[vf, vs, va, .agg #[.int .i64 r.code, .int .i64 r.idx]]) ∧
      Below w.heap.size w W' ∧ RowD Kd.bool w.heap.size W' vf r.far ∧ RowD k54 w.heap.size W' vs r.stubs ∧ RowD (Kd.int .i64) w.heap.size W' va r.ad := by
  subst hr
  exact insert_done (os := osA) (rs := []) (items := itA) (bs := [b]) hA hc hA1 (Nat.zero_le _) (CitA hI) (Nat.le_refl _) (C48_one b hB) (Nat.le_refl _) sizes_A sizes_nil
theorem CI2 {w : World} {g : Nat} {t : TypeId} {fr : Nat × Nat} (h : w.heap[g]? = some (.cells #[.int .i64 256, .int .i64 131072] t fr)) : Kd.C (Kd.int .i64) w (some ⟨g, 0, none⟩) 2 [256, 131072] :=
  C_blk (xs := [256, 131072]) h (by decide) (fun j p hj => by
    match j, hj with
    | 0, hj =>
      have : p = 256 := by simpa using hj.symm
      subst this
      refine ⟨[.int .i64 256], rfl, rfl, fun i u hu => ?_⟩
      match i, hu with
      | 0, hu => exact hu
      | i + 1, hu => simp at hu
    | 1, hj =>
      have : p = 131072 := by simpa using hj.symm
      subst this
      refine ⟨[.int .i64 131072], rfl, rfl, fun i u hu => ?_⟩
      match i, hu with
      | 0, hu => exact hu
      | i + 1, hu => simp at hu
    | j + 2, hj => simp at hj)
theorem ints2 : linkhouseref4_Ints.f 4 [256, 131072] [256, 131072] = some true := by kernel_rfl
set_option maxHeartbeats 4000000 in
set_option maxRecDepth 100000 in
theorem inserts_calls (w : World) : Calls Try.prog 9 #[] w fun e w' => e = .returned (.bool true) ∧ Below w.heap.size w w' := by
  have hu29 := Try.underlying29
  have hu54 := Try.underlying54
  go_enter Try.func9, Try.ntmps9
  go_wp2_with (go_at_call 29; refine (apart_calls _).mono ?_)
  rintro e w1 ⟨A, c, A1, c1, rfl, hA, hc, hA1, hb1⟩
  have zi := (hb1.block w.heap.size (by simp)).trans (alloc_block w _)
  have hW1 := Aside0.mk ((below_alloc (Below.refl w.heap.size w) _).trans (hb1.mono (by simp)))
  have hs1 : w.heap.size < w1.heap.size := by have := hb1.size; simp at this; omega
  replace hA := Aside0.mk hA
  replace hA1 := Aside0.mk hA1
  replace zi := Aside0.mk zi
  clear hb1
  have hb2 : Below w1.heap.size w1 (w1.alloc (Obj.cells #[Value.int IntKind.i64 0, Value.int IntKind.i64 1, Value.int IntKind.i64 2, Value.int IntKind.i64 0, Value.int IntKind.i64 1, Value.int IntKind.i64 0] 48)) := below_alloc (Below.refl _ _) _
  have hI := insA (b := ⟨0, 1, 2, 0, 1, 0⟩) (c1 := c1) ins1 (Kd.C_below hA.out hb2) hc (Kd.C_below hA1.out hb2) ((hb2.block _ hs1).trans zi.out) (alloc_block w1 _)
  go_wp2_with (go_at_call 8; refine hI.mono ?_)
  rintro e w2 ⟨vf, vs, va, rfl, hb3, hf1, hs1', ha1⟩
  obtain ⟨Af, cf, hvf, hcf, hCf, hgf⟩ := hf1
  replace hvf : vf = .slice Af 1 cf := hvf
  obtain ⟨As, cs, hvs, hcs, hCs, hgs⟩ := hs1'
  replace hvs : vs = .slice As 1 cs := hvs
  obtain ⟨Aa, ca, hva, hca, hCa, hga⟩ := ha1
  replace hva : va = .slice Aa 2 ca := hva
  subst hvf hvs hva
  have zi2 := (hb3.block _ (by simp; omega)).trans ((hb2.block _ hs1).trans zi.out)
  have hW2 := Aside0.mk (hW1.out.trans ((hb2.trans (hb3.mono (by simp))).mono (by omega)))
  have hs2 : w1.heap.size < w2.heap.size := by have := hb3.size; simp at this; omega
  replace hCf := Aside0.mk hCf
  replace hCs := Aside0.mk hCs
  replace hCa := Aside0.mk hCa
  clear hI hb2 hb3 zi
  have hbX : Below w2.heap.size w2 (w2.alloc (Obj.cells #[Value.int IntKind.i64 0, Value.int IntKind.i64 0] 29)) := below_alloc (Below.refl _ _) _
  have hsX : (w2.alloc (Obj.cells #[Value.int IntKind.i64 0, Value.int IntKind.i64 0] 29)).heap.size = w2.heap.size + 1 := by simp
  have zf := alloc_block w2 (Obj.cells #[Value.int IntKind.i64 0, Value.int IntKind.i64 0] 29)
  go_wp2_with (go_at_call 29; refine (apart_calls _).mono ?_)
  rintro e w3 ⟨A', c', A1', c1', rfl, hA', hc', hA1', hb4⟩
  have zi3 := Aside0.mk ((hb4.block _ (by omega)).trans ((hbX.block _ (by omega)).trans zi2))
  have zf3 := Aside0.mk ((hb4.block _ (by omega)).trans zf)
  have hB3 := Aside0.mk (hbX.trans (hb4.mono (by omega)))
  have hs3 : w2.heap.size < w3.heap.size := by have := hb4.size; omega
  replace hA' := Aside0.mk hA'
  replace hA1' := Aside0.mk hA1'
  clear hb4 hbX hsX zf zi2 hA hA1
  have hb5 : Below w3.heap.size w3 (w3.alloc (Obj.cells #[Value.int IntKind.i64 0, Value.int IntKind.i64 1, Value.int IntKind.i64 2, Value.int IntKind.i64 0, Value.int IntKind.i64 0, Value.int IntKind.i64 0] 48)) := below_alloc (Below.refl _ _) _
  have hI := insA (b := ⟨0, 1, 2, 0, 0, 0⟩) (c1 := c1') ins2 (Kd.C_below hA'.out hb5) hc' (Kd.C_below hA1'.out hb5) ((hb5.block _ (by omega)).trans zi3.out) (alloc_block w3 _)
  go_wp2_with (go_at_call 8; refine hI.mono ?_)
  rintro e w4 ⟨vf, vs, va, rfl, hb6, hf2, hs2', ha2⟩
  obtain ⟨Bf, ef, hvf, hef, hDf, hgf'⟩ := hf2
  replace hvf : vf = .slice Bf 1 ef := hvf
  obtain ⟨Bs, es, hvs, hes, hDs, hgs'⟩ := hs2'
  replace hvs : vs = .slice Bs 0 es := hvs
  obtain ⟨Ba, ea, hva, hea, hDa, hga'⟩ := ha2
  replace hva : va = .slice Ba 2 ea := hva
  subst hvf hvs hva
  have hB4 := Aside0.mk (hB3.out.trans ((hb5.trans (hb6.mono (by simp))).mono (by omega)))
  have zi4 := (hb6.block _ (by simp; omega)).trans ((hb5.block _ (by omega)).trans zi3.out)
  have hs4 : w3.heap.size < w4.heap.size := by have := hb6.size; simp at this; omega
  have zf4 := Aside0.mk ((hb6.block _ (by simp; omega)).trans ((hb5.block _ (by omega)).trans zf3.out))
  replace hDf := Aside0.mk hDf
  replace hDa := Aside0.mk hDa
  clear hI hb5 hb6 zi3 hB3 hA' hA1'
  have hbX : Below w4.heap.size w4 (w4.alloc (Obj.cells #[Value.int IntKind.i64 0, Value.int IntKind.i64 0] 29)) := below_alloc (Below.refl _ _) _
  have hsX : (w4.alloc (Obj.cells #[Value.int IntKind.i64 0, Value.int IntKind.i64 0] 29)).heap.size = w4.heap.size + 1 := by simp
  have zg := alloc_block w4 (Obj.cells #[Value.int IntKind.i64 0, Value.int IntKind.i64 0] 29)
  go_wp2_with (go_at_call 29; refine (apart_calls _).mono ?_)
  rintro e w5 ⟨A'', c'', A1'', c1'', rfl, hA'', hc'', hA1'', hb7⟩
  have zi5 := Aside0.mk ((hb7.block _ (by omega)).trans ((hbX.block _ (by omega)).trans zi4))
  have zg5 := Aside0.mk ((hb7.block _ (by omega)).trans zg)
  have hB5 := Aside0.mk (hbX.trans (hb7.mono (by omega)))
  have hs5 : w4.heap.size < w5.heap.size := by have := hb7.size; omega
  have zf5 := Aside0.mk ((hb7.block _ (by omega)).trans ((hbX.block _ (by omega)).trans zf4.out))
  replace hA'' := Aside0.mk hA''
  replace hA1'' := Aside0.mk hA1''
  clear hb7 hbX hsX zg zi4
  have hb8 : Below w5.heap.size w5 (w5.alloc (Obj.cells #[Value.int IntKind.i64 0, Value.int IntKind.i64 0, Value.int IntKind.i64 1, Value.int IntKind.i64 0, Value.int IntKind.i64 0, Value.int IntKind.i64 0] 48)) := below_alloc (Below.refl _ _) _
  have hI := insA (b := ⟨0, 0, 1, 0, 0, 0⟩) (c1 := c1'') ins3 (Kd.C_below hA''.out hb8) hc'' (Kd.C_below hA1''.out hb8) ((hb8.block _ (by omega)).trans zi5.out) (alloc_block w5 _)
  go_wp2_with (go_at_call 8; refine hI.mono ?_)
  rintro e w6 ⟨vf, vs, va, rfl, hb9, hf3, hs3', ha3⟩
  have hB6 := Aside0.mk (hB5.out.trans ((hb8.trans (hb9.mono (by simp))).mono (by omega)))
  have hs6 : w5.heap.size < w6.heap.size := by have := hb9.size; simp at this; omega
  have zf6 := (hb9.block _ (by simp; omega)).trans ((hb8.block _ (by omega)).trans zf5.out)
  have zg6 := (hb9.block _ (by simp; omega)).trans ((hb8.block _ (by omega)).trans zg5.out)
  clear hI hb8 hb9 hB5 hA'' hA1'' zi5 zf3 zf4 zf5 zg5 hf3 hs3' ha3
  go_wp2_with fail
  have bX : Below w6.heap.size w6 (w6.alloc (Obj.cells #[Value.int IntKind.i64 4, Value.int IntKind.i64 1000] 29)) := below_alloc (Below.refl _ _) _
  have sX : (w6.alloc (Obj.cells #[Value.int IntKind.i64 4, Value.int IntKind.i64 1000] 29)).heap.size = w6.heap.size + 1 := by simp
  have zX := alloc_block w6 (Obj.cells #[Value.int IntKind.i64 4, Value.int IntKind.i64 1000] 29)
  have zf7 := (bX.block _ (by omega)).trans zf6
  have zg7 := (bX.block _ (by omega)).trans zg6
  replace bX := Aside0.mk bX
  generalize w6.alloc (Obj.cells #[Value.int IntKind.i64 4, Value.int IntKind.i64 1000] 29) = X at *
  have q0 := (blk_cell zf7 0).trans rfl
  have q1 := (blk_cell zg7 0).trans rfl
  have q2 := (blk_cell zX 0).trans rfl
  have q3 := (blk_cell zX 1).trans rfl
  clear zf6 zg6 zf7 zg7 zX
  have b2 : w2.heap.size < X.heap.size := by omega
  have b4 : w4.heap.size < X.heap.size := by omega
  have b6 : w6.heap.size < X.heap.size := by omega
  have HAt := Aside0.mk (fun W' => linkhouseref4_At.calls 4 1000 4 1000 W' rfl)
  go_region_held3 (fun w' => w'.cell? ⟨w2.heap.size, 0, none⟩ = some (.int .i64 0) ∧ w'.cell? ⟨w4.heap.size, 0, none⟩ = some (.int .i64 0) ∧ w'.cell? ⟨w6.heap.size, 0, none⟩ = some (.int .i64 4) ∧ w'.cell? ⟨w6.heap.size, 1, none⟩ = some (.int .i64 1000))
    (first
      | go_keep
      | (go_split_ands
         refine ⟨(hc1.cell b2).trans q0, (hc1.cell b4).trans q1, (hc1.cell b6).trans q2, (hc1.cell b6).trans q3⟩))
    (first
      | (go_at_call 21; refine (HAt.out _).mono ?_; rintro e w7 ⟨rfl, hc0⟩; have hc1 : Below X.heap.size X w7 := (below_drew (Below.refl _ _)).trans hc0))
  have hX6 := Aside0.mk (hB6.out.trans (bX.out.mono (by omega)))
  have hYX := Aside0.mk hc1
  obtain ⟨bf, of, e1, hbf, hxf⟩ := C_open hCf.out (by decide : 0 < 1) (by decide : 0 < 1) false
  obtain ⟨df, pf, e2, hdf, hyf⟩ := C_open hDf.out (by decide : 0 < 1) (by decide : 0 < 1) false
  obtain ⟨bs', os', e3, hbs, hxs⟩ := C_open hCs.out (by decide : 0 < 1) (by decide : 0 < 5) z54
  subst e1 e2 e3
  have hB7 : Below w2.heap.size w2 w7 := (hB4.out.trans (hB6.out.mono (by omega))).trans ((bX.out.trans (hc1.mono (by omega))).mono (by omega))
  have hB7' : Below w4.heap.size w4 w7 := hB6.out.trans ((bX.out.trans (hc1.mono (by omega))).mono (by omega))
  have v0 : w7.cell? ⟨bf, of, none⟩ = some (.bool true) := by
    obtain ⟨c9, h9, h8, h7⟩ := hxf 0 (by decide)
    have h8' : c9 = [.bool true] := h8
    subst h8'
    exact (hB7.cell (p := ⟨bf, of, none⟩) hbf).trans (h7 0 _ rfl)
  have v1 : w7.cell? ⟨df, pf, none⟩ = some (.bool false) := by
    obtain ⟨c9, h9, h8, h7⟩ := hyf 0 (by decide)
    have h8' : c9 = [.bool false] := h8
    subst h8'
    exact (hB7'.cell (p := ⟨df, pf, none⟩) hdf).trans (h7 0 _ rfl)
  obtain ⟨c9, h9, h8, h7⟩ := hxs 0 (by decide)
  have h8' := k54_open h8
  subst h8'
  have v2 := (hB7.cell (p := ⟨bs', os', none⟩) hbs).trans (h7 0 _ rfl)
  have v3 := (hB7.cell (p := ⟨bs', os' + 1, none⟩) hbs).trans (h7 1 _ (by rfl))
  have v4 := (hB7.cell (p := ⟨bs', os' + 2, none⟩) hbs).trans (h7 2 _ (by rfl))
  have v5 := (hB7.cell (p := ⟨bs', os' + 3, none⟩) hbs).trans (h7 3 _ (by rfl))
  have v6 := (hB7.cell (p := ⟨bs', os' + 4, none⟩) hbs).trans (h7 4 _ (by rfl))
  clear hxf hyf hxs h7 h8
  replace hB7 := Aside0.mk hB7
  replace hB7' := Aside0.mk hB7'
  go_wp2_with fail
  have bA : Below w7.heap.size w7 (w7.alloc (Obj.cells #[Value.int IntKind.i64 256, Value.int IntKind.i64 131072] 3)) := below_alloc (Below.refl _ _) _
  have hi1 := linkhouseref4_Ints.calls 4 Aa ca [256, 131072] (some ⟨w7.heap.size, 0, none⟩) 2 [256, 131072] true (w7.alloc (Obj.cells #[Value.int IntKind.i64 256, Value.int IntKind.i64 131072] 3)) (Kd.C_below (Kd.C_below hCa.out hB7.out) bA) hca (CI2 (alloc_block w7 _)) (Nat.le_refl _) ints2
  refine hi1.mono ?_
  rintro e w8 ⟨rfl, hd⟩
  obtain ⟨m, rfl⟩ := hd.out
  go_wp2_with fail
  have bB : Below w4.heap.size w4 (((w7.alloc (Obj.cells #[Value.int IntKind.i64 256, Value.int IntKind.i64 131072] 3)).drewN m)) := pw_below_drewN (hB7'.out.trans (bA.mono (by have := hB7'.out.size; omega))) _
  have hs9 : ((w7.alloc (Obj.cells #[Value.int IntKind.i64 256, Value.int IntKind.i64 131072] 3)).drewN m).heap.size = w7.heap.size + 1 := by
    show (w7.alloc (Obj.cells #[Value.int IntKind.i64 256, Value.int IntKind.i64 131072] 3)).heap.size = w7.heap.size + 1
    simp
  have hW9 : Below w.heap.size w ((w7.alloc (Obj.cells #[Value.int IntKind.i64 256, Value.int IntKind.i64 131072] 3)).drewN m) := pw_below_drewN ((hW2.out.trans (hB7.out.mono (by omega))).trans (bA.mono (by have := hB7.out.size; omega))) _
  generalize ((w7.alloc (Obj.cells #[Value.int IntKind.i64 256, Value.int IntKind.i64 131072] 3)).drewN m) = w9 at *
  have bC : Below w9.heap.size w9 (w9.alloc (Obj.cells #[Value.int IntKind.i64 256, Value.int IntKind.i64 131072] 3)) := below_alloc (Below.refl _ _) _
  have zz := alloc_block w9 (Obj.cells #[Value.int IntKind.i64 256, Value.int IntKind.i64 131072] 3)
  rw [hs9] at zz
  refine (linkhouseref4_Ints.calls 4 Ba ea [256, 131072] (some ⟨w7.heap.size + 1, 0, none⟩) 2 [256, 131072] true _ (Kd.C_below (Kd.C_below hDa.out bB) bC) hea (CI2 zz) (Nat.le_refl _) ints2).mono ?_
  rintro e w10 ⟨rfl, hd2⟩
  obtain ⟨m2, rfl⟩ := hd2.out
  have hW10 := Aside0.mk (pw_below_drewN (hW9.trans (bC.mono hW9.size)) m2)
  go_wp2
  go_ret
  exact ⟨rfl, hW10.out⟩
end Go.Proofs.Ytogcgcjhoebooaa
end
section
namespace Go.Proofs.Ytogcgcjhoebooaa
open Go.RowKit Go.Proofs.YtogcgcjhoebooaaW.PrintWords Go.Proofs.Ytogcgcjhoebooaa.PVeneerMatchesSpec
set_option linter.unusedVariables false
set_option linter.unusedSimpArgs false
theorem pass_true {items : List S57} {bs : List S48} {a : List Int} : ∀ (d i : Nat) (far : List Bool) (L : List S54), (pass items bs a d i far L true).2.2 = true
  | 0, _, _, _ => rfl
  | d + 1, i, far, L => by
    rw [pass]
    split
    · exact pass_true d (i + 1) far L
    · exact pass_true d (i + 1) _ _
theorem pass_false {items : List S57} {bs : List S48} {a : List Int} : ∀ (d i : Nat) (far : List Bool) (L : List S54), (pass items bs a d i far L false).2.2 = false →
    pass items bs a d i far L false = (far, L, false) ∧ ∀ j, i ≤ j → j < i + d → (far.getD j false || reach a (bs.getD j z48)) = true
  | 0, i, far, L, h => ⟨rfl, fun j h1 h2 => by omega⟩
  | d + 1, i, far, L, h => by
    rw [pass] at h ⊢
    by_cases c : (far.getD i false || reach a (bs.getD i z48)) = true
    · rw [if_pos c] at h ⊢
      obtain ⟨h1, h2⟩ := pass_false d (i + 1) far L h
      refine ⟨h1, fun j hj1 hj2 => ?_⟩
      by_cases hj : j = i
      · subst hj; exact c
      · exact h2 j (by omega) (by omega)
    · rw [if_neg c] at h
      rw [pass_true] at h
      cases h
end Go.Proofs.Ytogcgcjhoebooaa
end
section
namespace Go.Proofs.Ytogcgcjhoebooaa
open Go.RowKit Go.Proofs.YtogcgcjhoebooaaW.PrintWords Go.Proofs.Ytogcgcjhoebooaa.PVeneerMatchesSpec
set_option linter.unusedVariables false
set_option linter.unusedSimpArgs false
theorem pass_J {items : List S57} {bs : List S48} {a : List Int} (hob : ∀ i, i < bs.length → OkB items.length (bs.getD i z48)) : ∀ (d i : Nat) (far : List Bool) (L : List S54) (ag : Bool), i + d = bs.length → J items bs far L →
    J items bs (pass items bs a d i far L ag).1 (pass items bs a d i far L ag).2.1 ∧ far.count true ≤ (pass items bs a d i far L ag).1.count true ∧ ((pass items bs a d i far L ag).2.2 = true → ag = true ∨ far.count true < (pass items bs a d i far L ag).1.count true)
  | 0, i, far, L, ag, hi, hJ => ⟨hJ, Nat.le_refl _, fun h => .inl h⟩
  | d + 1, i, far, L, ag, hi, hJ => by
    rw [pass]
    by_cases c : (far.getD i false || reach a (bs.getD i z48)) = true
    · rw [if_pos c]
      exact pass_J hob d (i + 1) far L ag (by omega) hJ
    · rw [if_neg c]
      have hf : far.getD i false = false := by
        cases h : far.getD i false with
        | false => rfl
        | true => rw [h] at c; simp at c
      have hJ' := hJ.add (i := i) (by omega) hf (hob i (by omega)).f0.1
      obtain ⟨h1, h2, h3⟩ := pass_J hob d (i + 1) (far.set i true) (addStub items L (bs.getD i z48)) true (by omega) hJ'
      have hc := count_set_true far i (by rw [hJ.fl]; omega) hf
      exact ⟨h1, by omega, fun _ => .inr (by omega)⟩
structure Good (os : List S72) (items : List S57) (bs : List S48) (r : Settled) : Prop where
  j : J items bs r.far r.L
  sg : (assign os (ext items r.L)).code = 0
  ad : r.ad = (assign os (ext items r.L)).ad
  idx : r.idx = 0
  reach : ∀ i, i < bs.length → (r.far.getD i false || reach r.ad (bs.getD i z48)) = true
  ok : ∀ i, i < bs.length → checkCode bs r.ad r.far r.L i = 0
theorem settleFrom_ok {os : List S72} {items : List S57} {bs : List S48} (hob : ∀ i, i < bs.length → OkB items.length (bs.getD i z48)) : ∀ (n : Nat) (far : List Bool) (L : List S54), J items bs far L → bs.length - far.count true < n → (settleFrom os items bs n far L).code = 0 → Good os items bs (settleFrom os items bs n far L)
  | 0, far, L, hJ, hn, h => by omega
  | n + 1, far, L, hJ, hn, h => by
    rw [settleFrom] at h ⊢
    simp only at h ⊢
    by_cases c : (assign os (ext items L)).code ≠ 0
    · rw [if_pos c] at h; exact absurd h c
    · rw [if_neg c] at h ⊢
      obtain ⟨h1, h2, h3⟩ := pass_J (a := (assign os (ext items L)).ad) hob bs.length 0 far L false (by omega) hJ
      cases hp : (pass items bs (assign os (ext items L)).ad bs.length 0 far L false).2.2 with
      | true =>
        rw [hp] at h
        simp only [if_true] at h ⊢
        have hlt : far.count true < (pass items bs (assign os (ext items L)).ad bs.length 0 far L false).1.count true := by
          rcases h3 hp with h' | h'
          · cases h'
          · exact h'
        have hle := List.count_le_length (a := true) (l := (pass items bs (assign os (ext items L)).ad bs.length 0 far L false).1)
        have hfl := h1.fl
        exact settleFrom_ok hob n _ _ h1 (by omega) h
      | false =>
        obtain ⟨e, hr⟩ := pass_false _ _ _ _ hp
        rw [hp] at h
        rw [e] at h ⊢
        simp only [Bool.false_eq_true, if_false] at h ⊢
        cases hs : scan (checkCode bs (assign os (ext items L)).ad far L) bs.length 0 with
        | some ie => rw [hs] at h; exact absurd h (scan_some _ _ hs)
        | none => exact ⟨hJ, by simpa using c, rfl, rfl, fun i hi => hr i (by omega) (by omega), fun i hi => scan_none _ _ hs i (by omega) (by omega)⟩
end Go.Proofs.Ytogcgcjhoebooaa
end
section
namespace Go.Proofs.Ytogcgcjhoebooaa.PVeneerMatchesSpec
open Go.RowKit Go.Proofs.YtogcgcjhoebooaaW.PrintWords Go.Proofs.YtogcgcjhoebooaaW.PrintLast Go.Proofs.YtogcgcjhoebooaaW.PrintMore
set_option linter.unusedVariables false
set_option linter.unusedSimpArgs false
def linkhouseref3_Number.f (a0 : Int) (a1 : Int) (a2 : Int) (a3 : Int) : Option (Int × Bool) := if a0 = 2 then ((linkhouseref3_In.f (wrap64 ((wrap64 ((wrap64 (a1 + a2)) - a3)) - 2)) (-32768) 32767).bind fun t178 => (some (wrap64 ((wrap64 ((wrap64 (a1 + a2)) - a3)) - 2), t178))) else (if a0 = 3 then ((linkhouseref3_In.f (wrap64 ((wrap64 ((wrap64 (a1 + a2)) - a3)) - 1)) (-128) 127).bind fun t179 => (some (wrap64 ((wrap64 ((wrap64 (a1 + a2)) - a3)) - 1), t179))) else ((linkhouseref3_In.f (wrap64 (a1 + a2)) 0 4294967295).bind fun t180 => (some (wrap64 (a1 + a2), t180))))
def linkhouseref4_Address.f (l0 : List Int) (a1 : Int) (a2 : Int) : Option (Int) := if a1 = (-1) then (some a2) else (if 0 ≤ a1 then (if a1 < (l0.length : Int) then (some (wrap64 ((rd l0 a1) + a2))) else (none)) else (none))
def linkhouseref4_serves.f (a0_0 : Int) (a0_1 : Int) (a0_2 : Int) (a0_3 : Int) (a0_4 : Int) (a1_0 : Int) (a1_1 : Int) (a1_2 : Int) (a1_3 : Int) (a1_4 : Int) (a1_5 : Int) : Option (Bool) := if a0_0 = a1_0 then (if a0_2 = a1_4 then (if a0_3 = a1_5 then (some (a0_4 == a1_3)) else (some false)) else (some false)) else (some false)
def linkhouseref4_StubFor.l0 : Nat → List (S54) → Int → Int → Int → Int → Int → Int → Int → Option (Int)
  | 0, _, _, _, _, _, _, _, _ => none
  | k + 1, x0, x5, x185000, x185001, x185002, x185003, x185004, x185005 => if x5 < (x0.length : Int) then (if 0 ≤ x5 then ((linkhouseref4_serves.f ((rd_T54 x0 x5).f0) ((rd_T54 x0 x5).f1) ((rd_T54 x0 x5).f2) ((rd_T54 x0 x5).f3) ((rd_T54 x0 x5).f4) x185000 x185001 x185002 x185003 x185004 x185005).bind fun t186 => (if t186 = true then (some x5) else (linkhouseref4_StubFor.l0 k x0 (wrap64 (x5 + 1)) x185000 x185001 x185002 x185003 x185004 x185005))) else (none)) else (some (-1))
def linkhouseref4_StubFor.f (k : Nat) (l0 : List (S54)) (a1_0 : Int) (a1_1 : Int) (a1_2 : Int) (a1_3 : Int) (a1_4 : Int) (a1_5 : Int) : Option (Int) := linkhouseref4_StubFor.l0 k l0 0 a1_0 a1_1 a1_2 a1_3 a1_4 a1_5
theorem linkhouseref4_StubFor.mono_l : ∀ k, (∀ y0 y1 y2 y3 y4 y5 y6 y7, LeO (linkhouseref4_StubFor.l0 k y0 y1 y2 y3 y4 y5 y6 y7) (linkhouseref4_StubFor.l0 (k + 1) y0 y1 y2 y3 y4 y5 y6 y7))
  | 0 => fun _ _ _ _ _ _ _ _ r h => by simp [linkhouseref4_StubFor.l0] at h
  | k + 1 => by
    have ih0 := linkhouseref4_StubFor.mono_l k
    · intro y0 y1 y2 y3 y4 y5 y6 y7
      unfold linkhouseref4_StubFor.l0
      repeat' first
      | (with_reducible exact ih0 _ _ _ _ _ _ _ _)
      | (with_reducible exact LeO.refl _)
      | (with_reducible exact LeO.none _)
      | (with_reducible refine LeO.ite ?_ ?_)
      | (with_reducible refine LeO.bind ?_ (fun _ => ?_))
      | exact ih0 _ _ _ _ _ _ _ _
      | exact LeO.none _
      | refine LeO.ite ?_ ?_
      | refine LeO.bind ?_ (fun _ => ?_)
theorem linkhouseref4_StubFor.mono : ∀ a0 a1 a2 a3 a4 a5 a6 k, LeO (linkhouseref4_StubFor.f k a0 a1 a2 a3 a4 a5 a6) (linkhouseref4_StubFor.f (k + 1) a0 a1 a2 a3 a4 a5 a6) := by
  intro a0 a1 a2 a3 a4 a5 a6 k
  have ih0 := linkhouseref4_StubFor.mono_l k
  unfold linkhouseref4_StubFor.f
  repeat' first
      | (with_reducible exact ih0 _ _ _ _ _ _ _ _)
      | (with_reducible exact LeO.refl _)
      | (with_reducible exact LeO.none _)
      | (with_reducible refine LeO.ite ?_ ?_)
      | (with_reducible refine LeO.bind ?_ (fun _ => ?_))
      | exact ih0 _ _ _ _ _ _ _ _
      | exact LeO.none _
      | refine LeO.ite ?_ ?_
      | refine LeO.bind ?_ (fun _ => ?_)
def linkhouseref3_Round.l0 : Nat → Int → Int → Option (Int)
  | 0, _, _ => none
  | k + 1, x0, x1 => if x1 = 0 then (none) else (if (Int.tmod x0 x1) = 0 then (some x0) else (linkhouseref3_Round.l0 k (wrap64 (x0 + 1)) x1))
def linkhouseref3_Round.f (k : Nat) (a0 : Int) (a1 : Int) : Option (Int) := linkhouseref3_Round.l0 k a0 a1
theorem linkhouseref3_Round.mono_l : ∀ k, (∀ y0 y1, LeO (linkhouseref3_Round.l0 k y0 y1) (linkhouseref3_Round.l0 (k + 1) y0 y1))
  | 0 => fun _ _ r h => by simp [linkhouseref3_Round.l0] at h
  | k + 1 => by
    have ih0 := linkhouseref3_Round.mono_l k
    · intro y0 y1
      unfold linkhouseref3_Round.l0
      repeat' first
      | (with_reducible exact ih0 _ _)
      | (with_reducible exact LeO.refl _)
      | (with_reducible exact LeO.none _)
      | (with_reducible refine LeO.ite ?_ ?_)
      | (with_reducible refine LeO.bind ?_ (fun _ => ?_))
      | exact ih0 _ _
      | exact LeO.none _
      | refine LeO.ite ?_ ?_
      | refine LeO.bind ?_ (fun _ => ?_)
theorem linkhouseref3_Round.mono : ∀ a0 a1 k, LeO (linkhouseref3_Round.f k a0 a1) (linkhouseref3_Round.f (k + 1) a0 a1) := by
  intro a0 a1 k
  have ih0 := linkhouseref3_Round.mono_l k
  unfold linkhouseref3_Round.f
  repeat' first
      | (with_reducible exact ih0 _ _)
      | (with_reducible exact LeO.refl _)
      | (with_reducible exact LeO.none _)
      | (with_reducible refine LeO.ite ?_ ?_)
      | (with_reducible refine LeO.bind ?_ (fun _ => ?_))
      | exact ih0 _ _
      | exact LeO.none _
      | refine LeO.ite ?_ ?_
      | refine LeO.bind ?_ (fun _ => ?_)
end Go.Proofs.Ytogcgcjhoebooaa.PVeneerMatchesSpec
end
section
namespace Go.Proofs.Ytogcgcjhoebooaa
open Go.RowKit Go.Proofs.YtogcgcjhoebooaaW.PrintWords Go.Proofs.Ytogcgcjhoebooaa.PVeneerMatchesSpec
set_option linter.unusedVariables false
set_option linter.unusedSimpArgs false
def other (s t : S54) : Prop := ¬ (s.f0 = t.f0 ∧ s.f2 = t.f2 ∧ s.f3 = t.f3 ∧ s.f4 = t.f4)
def KP (L : List S54) : Prop := L.Pairwise other
theorem KP.add {L : List S54} (h : KP L) (items : List S57) (b : S48) : KP (addStub items L b) := by
  unfold addStub
  split
  · exact h
  · rename_i ha
    refine List.pairwise_append.2 ⟨h, List.pairwise_singleton _ _, fun s hs t ht => ?_⟩
    rw [List.mem_singleton] at ht
    subst ht
    intro hk
    refine ha (List.any_eq_true.2 ⟨s, hs, decide_eq_true ?_⟩)
    exact hk
theorem KP.pass {items : List S57} {bs : List S48} {a : List Int} : ∀ (d i : Nat) (far : List Bool) (L : List S54) (ag : Bool), KP L → KP (pass items bs a d i far L ag).2.1
  | 0, _, _, _, _, h => h
  | d + 1, i, far, L, ag, h => by
    rw [Proofs.Ytogcgcjhoebooaa.pass]
    split
    · exact KP.pass d (i + 1) far L ag h
    · exact KP.pass d (i + 1) _ _ _ (h.add _ _)
theorem KP.settle {os : List S72} {items : List S57} {bs : List S48} : ∀ (n : Nat) (far : List Bool) (L : List S54), KP L → KP (settleFrom os items bs n far L).L
  | 0, _, _, _ => List.Pairwise.nil
  | n + 1, far, L, h => by
    rw [settleFrom]
    simp only
    split
    · exact List.Pairwise.nil
    · split
      · exact KP.settle n _ _ (h.pass _ _ _ _ _)
      · split
        · exact List.Pairwise.nil
        · exact h.pass _ _ _ _ _
theorem KP.settled (os : List S72) (items : List S57) (bs : List S48) : KP (settled os items bs).L := KP.settle _ _ _ List.Pairwise.nil
theorem mem_ordered {L : List S54} {n : Nat} {s : S54} : s ∈ ordered L n ↔ s ∈ L ∧ ∃ i : Nat, i < n ∧ s.f0 = (i : Int) := by
  unfold ordered
  simp only [List.mem_flatMap, List.mem_range, List.mem_filter, decide_eq_true_eq]
  constructor
  · rintro ⟨i, hi, hs, e⟩; exact ⟨hs, i, hi, e⟩
  · rintro ⟨hs, i, hi, e⟩; exact ⟨i, hi, hs, e⟩
theorem KP.ordered {L : List S54} (h : KP L) (n : Nat) : KP (ordered L n) := by
  unfold Proofs.Ytogcgcjhoebooaa.ordered
  refine List.pairwise_flatMap.2 ⟨fun i _ => h.filter _, ?_⟩
  refine (List.pairwise_lt_range).imp ?_
  intro i j hij x hx y hy e
  simp only [List.mem_filter, decide_eq_true_eq] at hx hy
  have := e.1
  omega
end Go.Proofs.Ytogcgcjhoebooaa
end
section
namespace Go.Proofs.Ytogcgcjhoebooaa
open Go.RowKit Go.Proofs.YtogcgcjhoebooaaW.PrintWords Go.Proofs.Ytogcgcjhoebooaa.PVeneerMatchesSpec
set_option linter.unusedVariables false
set_option linter.unusedSimpArgs false
theorem ordered_succ (L : List S54) (n : Nat) : ordered L (n + 1) = ordered L n ++ L.filter (fun s => decide (s.f0 = (n : Int))) := by
  unfold ordered
  rw [List.range_succ, List.flatMap_append]
  simp
theorem filter_ordered (L : List S54) (j : Nat) : ∀ n : Nat, (ordered L n).filter (fun s => decide (s.f0 = (j : Int))) = if j < n then L.filter (fun s => decide (s.f0 = (j : Int))) else []
  | 0 => rfl
  | n + 1 => by
    rw [ordered_succ, List.filter_append, filter_ordered L j n, List.filter_filter]
    by_cases h : j = n
    · subst h
      rw [if_neg (by omega), if_pos (by omega), List.nil_append]
      congr 1; funext s; simp
    · have e : L.filter (fun s => decide (s.f0 = (j : Int)) && decide (s.f0 = (n : Int))) = [] := by
        rw [List.filter_eq_nil_iff]
        intro s _
        simp only [Bool.and_eq_true, decide_eq_true_eq, not_and]
        omega
      rw [e, List.append_nil]
      by_cases h2 : j < n
      · rw [if_pos h2, if_pos (by omega)]
      · rw [if_neg h2, if_neg (by omega)]
theorem cnt_snoc (T : List S54) (s : S54) (i : Int) : cnt (T ++ [s]) i = cnt T i + if s.f0 = i then 1 else 0 := by
  unfold cnt
  rw [List.filter_append, List.length_append]
  by_cases h : s.f0 = i <;> simp [h]
theorem ext_length (items : List S57) (L : List S54) : (ext items L).length = items.length := by unfold ext; simp
theorem ext_getD (items : List S57) (L : List S54) (i : Nat) (hi : i < items.length) : (ext items L).getD i z57 = extItem L i (items.getD i z57) := by
  unfold ext
  rw [List.getD_eq_getElem?_getD, List.getElem?_mapIdx, List.getD_eq_getElem?_getD, List.getElem?_eq_getElem hi]
  rfl
theorem ext_congr (items : List S57) (L M : List S54) (h : ∀ i : Nat, i < items.length → cnt L i = cnt M i) : ext items L = ext items M := by
  unfold ext
  apply List.ext_getElem?
  intro i
  rw [List.getElem?_mapIdx, List.getElem?_mapIdx]
  by_cases hi : i < items.length
  · rw [List.getElem?_eq_getElem hi]
    simp only [Option.map_some, extItem, h i hi]
  · rw [List.getElem?_eq_none (by omega)]; rfl
theorem ext_ordered (items : List S57) (L : List S54) : ext items (ordered L items.length) = ext items L := by
  refine ext_congr _ _ _ fun i hi => ?_
  unfold cnt
  rw [filter_ordered, if_pos hi]
theorem ext_nil (items : List S57) : ext items [] = items := by
  unfold ext
  apply List.ext_getElem?
  intro i
  rw [List.getElem?_mapIdx]
  cases items[i]? with
  | none => rfl
  | some x => simp [extItem, cnt]
/-- the sizes behind one stub more -/
theorem ext_snoc (items : List S57) (T : List S54) (s : S54) (j : Nat) (hj : s.f0 = (j : Int)) (hlt : j < items.length) (h1 : s.f1 = ((ext items T).getD j z57).f1) :
    ext items (T ++ [s]) = (ext items T).set j ⟨((ext items T).getD j z57).f0, s.f1 + 5, ((ext items T).getD j z57).f2⟩ := by
  rw [h1, ext_getD _ _ _ hlt]
  unfold ext
  apply List.ext_getElem?
  intro i
  rw [List.getElem?_set, List.getElem?_mapIdx, List.getElem?_mapIdx, List.length_mapIdx]
  by_cases hij : j = i
  · subst hij
    rw [if_pos rfl, if_pos hlt, List.getElem?_eq_getElem hlt, List.getD_eq_getElem?_getD, List.getElem?_eq_getElem hlt]
    simp only [Option.map_some, Option.getD_some, extItem, cnt_snoc, if_pos hj, Option.some.injEq]
    congr 1
    omega
  · rw [if_neg hij]
    by_cases hi : i < items.length
    · rw [List.getElem?_eq_getElem hi]
      simp only [Option.map_some, extItem, cnt_snoc, if_neg (show ¬ s.f0 = (i : Int) by omega), Nat.add_zero]
    · rw [List.getElem?_eq_none (by omega)]; rfl
theorem take_snoc {α : Type} (l : List α) (i : Nat) (h : i < l.length) : l.take (i + 1) = l.take i ++ [l[i]] := by
  rw [List.take_succ_eq_append_getElem h]
/-- one stub of those in order: where it stands -/
theorem stub_at {items : List S57} {L : List S54} (ho : OrdL items L) (i : Nat) (hi : i < (ordered L items.length).length) :
    ∃ j : Nat, ((ordered L items.length).getD i z54).f0 = (j : Int) ∧ j < items.length ∧ ((ordered L items.length).getD i z54).f1 = ((ext items ((ordered L items.length).take i)).getD j z57).f1 := by
  have hm : (ordered L items.length).getD i z54 = (ordered L items.length)[i] := by
    rw [List.getD_eq_getElem?_getD, List.getElem?_eq_getElem hi]; rfl
  rw [hm]
  obtain ⟨hL, j, hj, e⟩ := mem_ordered.1 (List.getElem_mem hi)
  refine ⟨j, e, hj, ?_⟩
  have hf := filter_ordered L j items.length
  rw [if_pos hj, ho j] at hf
  have hsplit : ordered L items.length = (ordered L items.length).take i ++ ((ordered L items.length)[i] :: (ordered L items.length).drop (i + 1)) := by
    rw [← List.drop_eq_getElem_cons hi, List.take_append_drop]
  have hg : ((ordered L items.length).filter (fun s => decide (s.f0 = (j : Int))))[cnt ((ordered L items.length).take i) j]? = some (ordered L items.length)[i] := by
    generalize (ordered L items.length)[i] = x at *
    generalize (ordered L items.length).take i = T at *
    generalize (ordered L items.length).drop (i + 1) = D at *
    rw [hsplit, List.filter_append, List.filter_cons, if_pos (by simp [e])]
    unfold cnt
    rw [List.getElem?_append_right (Nat.le_refl _), Nat.sub_self]
    rfl
  rw [hf, List.getElem?_mapIdx] at hg
  rw [ext_getD _ _ _ hj]
  generalize (ordered L items.length)[i] = x at *
  generalize (ordered L items.length).take i = T at *
  cases hq : (goals L j)[cnt T j]? with
  | none => rw [hq] at hg; cases hg
  | some g =>
    rw [hq] at hg
    injection hg with hg
    rw [← hg]
    rfl
theorem assignItems_size {items : List S57} (h : OkI items) (k : Int) : ∀ (d i : Nat) (at_ : Int) (ad : List Int), i + d ≤ items.length → ∀ j, i ≤ j → j < i + d → (items.getD j z57).f0 = k → (items.getD j z57).f1 + at_ ≤ (assignItems items k d i at_ ad).1
  | 0, i, _, _, _, j, h1, h2, _ => by omega
  | d + 1, i, at_, ad, hi, j, h1, h2, hk => by
    obtain ⟨a1, a2, a3, a4⟩ := h.x i (by omega)
    rw [assignItems]
    have hu := upTo_ge (n := at_) a3
    by_cases hj : j = i
    · subst hj
      rw [if_pos hk]
      have := assignItems_ge h k d (j + 1) (upTo at_ (items.getD j z57).f2 + (items.getD j z57).f1) (ad.set j (upTo at_ (items.getD j z57).f2)) (by omega)
      omega
    · split
      · have := assignItems_size h k d (i + 1) (upTo at_ (items.getD i z57).f2 + (items.getD i z57).f1) (ad.set i (upTo at_ (items.getD i z57).f2)) (by omega) j (by omega) (by omega) hk
        omega
      · exact assignItems_size h k d (i + 1) at_ ad (by omega) j (by omega) (by omega) hk
theorem assignFrom_size {os : List S72} {items : List S57} (hv : ValidO os) (h : OkI items) : ∀ (d k : Nat) (end_ : Int) (ad : List Int) (sp : List S80), k + d ≤ os.length → 0 ≤ end_ → (assignFrom os items d k end_ ad sp).code = 0 →
    ∀ j : Nat, j < items.length → (k : Int) ≤ (items.getD j z57).f0 → (items.getD j z57).f0 < (k + d : Nat) → (items.getD j z57).f1 ≤ 1048576
  | 0, k, _, _, _, _, _, _, j, hj, h1, h2 => by omega
  | d + 1, k, end_, ad, sp, hk, h0, hc, j, hj, h1, h2 => by
    obtain ⟨o1, o2, o3, o4⟩ := hv.o k (by omega)
    simp only [assignFrom] at hc
    have hs : 0 ≤ (if (os.getD k z72).f1 < 0 then upTo (upTo end_ 256) (os.getD k z72).f2 else (os.getD k z72).f1) := by
      split
      · have := upTo_ge (n := end_) (al := 256) (by omega)
        have := upTo_ge (n := upTo end_ 256) o3
        omega
      · omega
    generalize (if (os.getD k z72).f1 < 0 then upTo (upTo end_ 256) (os.getD k z72).f2 else (os.getD k z72).f1) = start at *
    split at hc
    · cases hc
    · split at hc
      · cases hc
      · rename_i hy
        by_cases hjk : (items.getD j z57).f0 = (k : Int)
        · have := assignItems_size h k items.length 0 start ad (by omega) j (by omega) (by omega) hjk
          omega
        · have hg := assignItems_ge h k items.length 0 start ad (by omega)
          exact assignFrom_size hv h d (k + 1) _ _ _ (by omega) (by omega) hc j hj (by omega) (by omega)
theorem scan_all {f : Nat → Int} : ∀ (d i : Nat), (∀ j, i ≤ j → j < i + d → f j = 0) → scan f d i = none
  | 0, i, h => rfl
  | d + 1, i, h => by
    rw [scan, if_pos (h i (by omega) (by omega))]
    exact scan_all d (i + 1) (fun j h1 h2 => h j (by omega) (by omega))
theorem items_ok {items : List S57} {n : Nat} (h : (itemsFault items n).1 = 0) : items.length ≤ 200 ∧ ∀ i, i < items.length → itemCode n (items.getD i z57) = 0 := by
  unfold itemsFault at h
  by_cases h8 : 200 < items.length
  · rw [if_pos h8] at h; cases h
  · rw [if_neg h8] at h
    refine ⟨by omega, fun k hk => ?_⟩
    cases hs : scan (fun i => itemCode n (items.getD i z57)) items.length 0 with
    | some p => rw [hs] at h; exact absurd h (scan_some _ _ hs)
    | none => exact scan_none _ _ hs k (by omega) (by omega)
theorem ext_fault {os : List S72} {items : List S57} {L : List S54} (hv : ValidO os) (hi : (itemsFault items os.length).1 = 0) (hx : OkI (ext items L)) (hc : (assign os (ext items L)).code = 0) : itemsFault (ext items L) os.length = (0, 0) := by
  obtain ⟨h1, h2⟩ := items_ok hi
  unfold itemsFault
  rw [ext_length, if_neg (by omega), scan_all]
  intro i _ hlt
  have h3 := h2 i (by omega)
  have h4 := assignFrom_size hv hx os.length 0 256 (List.replicate (ext items L).length 0) [] (by omega) (by omega) hc i (by rw [ext_length]; omega)
  rw [ext_getD _ _ _ (by omega)] at h4 ⊢
  unfold itemCode at h3 ⊢
  generalize items.getD i z57 = x at *
  have e0 : (extItem L i x).f0 = x.f0 := rfl
  have e1 : (extItem L i x).f1 = x.f1 + 5 * cnt L i := rfl
  have e2 : (extItem L i x).f2 = x.f2 := rfl
  rw [e0, e1] at h4
  split at h3
  · cases h3
  · rename_i hb
    simp only [Decidable.not_not] at hb
    obtain ⟨b1, b2, b3, b4, b5⟩ := hb
    refine if_neg (fun hn => hn ?_)
    rw [e0, e1, e2]
    exact ⟨b1, b2, by omega, h4 (by omega) (by omega), b5⟩
end Go.Proofs.Ytogcgcjhoebooaa
end
section
namespace Go.Proofs.Ytogcgcjhoebooaa
open Go.RowKit Go.Proofs.YtogcgcjhoebooaaW.PrintWords Go.Proofs.Ytogcgcjhoebooaa.PVeneerMatchesSpec
set_option linter.unusedVariables false
set_option linter.unusedSimpArgs false
theorem insertFault_ok {os : List S72} {rs : List S76} {items : List S57} {bs : List S48} (h : (insertFault os rs items bs).1 = 0) :
    (scriptFault os rs).1 = 0 ∧ (itemsFault items os.length).1 = 0 ∧ bs.length ≤ 400 ∧ ∀ i, i < bs.length → brCode items (bs.getD i z48) = 0 := by
  by_cases h1 : (scriptFault os rs).1 = 0
  · by_cases h2 : (itemsFault items os.length).1 = 0
    · by_cases h3 : 400 < bs.length
      · rw [insertFault_3 h1 h2 h3] at h; cases h
      · rw [insertFault_4 h1 h2 h3] at h
        refine ⟨h1, h2, by omega, fun i hi => ?_⟩
        cases hs : scan (fun i => brCode items (bs.getD i z48)) bs.length 0 with
        | some p => rw [hs] at h; exact absurd h (scan_some _ _ hs)
        | none => exact scan_none _ _ hs i (by omega) (by omega)
    · rw [insertFault_2 h1 h2] at h; exact absurd h h2
  · rw [insertFault_1 h1] at h; exact absurd h h1
structure Ok (os : List S72) (rs : List S76) (items : List S57) (bs : List S48) (R : Ins) (L : List S54) : Prop where
  sf : (scriptFault os rs).1 = 0
  itf : (itemsFault items os.length).1 = 0
  bl : bs.length ≤ 400
  vo : ValidO os
  vi : ValidI items os.length
  ob : ∀ i, i < bs.length → OkB items.length (bs.getD i z48)
  kp : KP L
  le : L.length ≤ 400
  g : Good os items bs ⟨R.far, L, R.ad, (settled os items bs).sp, 0, 0⟩
  st : R.stubs = ordered L items.length
  code : R.code = 0
  idx : R.idx = 0
  far : R.far.length = bs.length
  ad : OkA items.length R.ad
theorem inserted_ok {os : List S72} {rs : List S76} {items : List S57} {bs : List S48} (h : (inserted os rs items bs).code = 0) : ∃ L, Ok os rs items bs (inserted os rs items bs) L := by
  unfold inserted at h ⊢
  by_cases hf : (insertFault os rs items bs).1 = 0
  · rw [if_neg (by simpa using hf)] at h ⊢
    obtain ⟨h1, h2, h3, h4⟩ := insertFault_ok hf
    have hvo := validO_of h1
    have hvi := validI_of h2
    have hob : ∀ i, i < bs.length → OkB items.length (bs.getD i z48) := fun i hi => okB_of hvi (h4 i hi)
    by_cases hs : (settled os items bs).code = 0
    · rw [if_neg (by simpa using hs)] at h ⊢
      have hk := KP.settled os items bs
      have hg : Good os items bs (settled os items bs) := settleFrom_ok hob (bs.length + 1) _ _ (J.init items bs) (by omega) hs
      generalize hS : settled os items bs = S at *
      obtain ⟨j, sg, ad, idx, rch, ok⟩ := hg
      have hle := j.le h3
      have hin := assign_in hvo (okI_ext hvi hle) sg
      rw [ext_length, ← ad] at hin
      refine ⟨S.L, h1, h2, h3, hvo, hvi, hob, hk, hle, ⟨j, sg, ad, rfl, rch, ok⟩, rfl, rfl, rfl, j.fl, hin.1⟩
    · rw [if_pos hs] at h; exact absurd h hs
  · rw [if_pos hf] at h; exact absurd h hf
theorem inserted_bad {os : List S72} {rs : List S76} {items : List S57} {bs : List S48} (h : (inserted os rs items bs).code ≠ 0) : (inserted os rs items bs).far = [] ∧ (inserted os rs items bs).stubs = [] ∧ (inserted os rs items bs).ad = [] := by
  unfold inserted at h ⊢
  split
  · exact ⟨rfl, rfl, rfl⟩
  · rename_i h1
    rw [if_neg h1] at h
    split
    · exact ⟨rfl, rfl, rfl⟩
    · rename_i h2
      rw [if_neg h2] at h
      exact absurd rfl h
theorem Ok.stub {os : List S72} {rs : List S76} {items : List S57} {bs : List S48} {R : Ins} {L : List S54} (h : Ok os rs items bs R L) (i : Nat) (hi : i < R.stubs.length) :
    ∃ j : Nat, (R.stubs.getD i z54).f0 = (j : Int) ∧ j < items.length ∧ (R.stubs.getD i z54).f1 = ((ext items (R.stubs.take i)).getD j z57).f1 ∧ 0 ≤ (R.stubs.getD i z54).f1 ∧ (R.stubs.getD i z54).f1 ≤ 1048576 + 5 * i := by
  rw [h.st] at hi ⊢
  obtain ⟨j, h1, h2, h3⟩ := stub_at h.g.j.o i hi
  refine ⟨j, h1, h2, h3, ?_⟩
  have h4 := h.vi.x j h2
  have h5 := cnt_le ((ordered L items.length).take i) j
  rw [List.length_take] at h5
  rw [h3, ext_getD _ _ _ h2]
  simp only [extItem]
  omega
theorem ordered_le {items : List S57} {bs : List S48} {far : List Bool} {L : List S54} : (ordered L items.length).length ≤ items.length * L.length := by
  unfold ordered
  rw [List.length_flatMap]
  have : ∀ n : Nat, ((List.range n).map fun (i : Nat) => (L.filter fun s => decide (s.f0 = (i : Int))).length).sum ≤ n * L.length := by
    intro n
    induction n with
    | zero => simp
    | succ n ih =>
      rw [List.range_succ, List.map_append, List.sum_append, Nat.succ_mul]
      have := List.length_filter_le (fun s => decide (s.f0 = (n : Int))) L
      simp only [List.map_cons, List.map_nil, List.sum_cons, List.sum_nil]
      omega
  exact this _
theorem Ok.stubs_le {os : List S72} {rs : List S76} {items : List S57} {bs : List S48} {R : Ins} {L : List S54} (h : Ok os rs items bs R L) : R.stubs.length ≤ 80000 := by
  rw [h.st]
  have h1 := ordered_le (items := items) (bs := bs) (far := R.far) (L := L)
  have h2 := Nat.mul_le_mul h.vi.len h.le
  omega
end Go.Proofs.Ytogcgcjhoebooaa
end
section
namespace Go.Proofs.Ytogcgcjhoebooaa
open Go.RowKit Go.Proofs.YtogcgcjhoebooaaW.PrintWords Go.Proofs.YtogcgcjhoebooaaW.PrintLast Go.Proofs.Ytogcgcjhoebooaa.PVeneerMatchesSpec
set_option linter.unusedVariables false
set_option linter.unusedSimpArgs false
set_option maxHeartbeats 4000000 in
set_option maxRecDepth 100000 in
theorem layout_calls {w : World} {A0 A1 A2 : Option Addr} {c0 c1 c2 : Nat} {os : List S72} {rs : List S76} {items : List S57}
    (h0 : Kd.C k72 w A0 os.length os) (hc0 : os.length ≤ c0) (h1 : Kd.C k76 w A1 rs.length rs) (hc1 : rs.length ≤ c1) (h2 : Kd.C k57 w A2 items.length items) (hc2 : items.length ≤ c2)
    (hs0 : ∀ j, (os.getD j z72).f0.size ≤ 9223372036854775807) (hs1 : ∀ j, (rs.getD j z76).f0.size ≤ 9223372036854775807) (hsf : (scriptFault os rs).1 = 0) (hif : (itemsFault items os.length).1 = 0) (hok : OkI items) :
    Calls Try.prog 18 #[.agg #[.slice A0 os.length c0, .slice A1 rs.length c1], .slice A2 items.length c2] w fun e W' => ∃ v0 v1 : Value, e = .returned (.tuple #[v0, v1, .agg #[.int .i64 (assign os items).code, .int .i64 (assign os items).idx]]) ∧
      RowI w.heap.size W' v0 (assign os items).ad ∧ Below w.heap.size w W' := by
  have hu29 := Try.underlying29
  have hu25 := Try.underlying25
  have hvo := validO_of hsf
  have hol := hvo.len
  have hsf2 := scriptFault_zero hsf
  have hif2 := itemsFault_zero hif
  have hAs := Aside0.mk (fun (W' : World) (hW : Below w.heap.size w W') => assign_calls A0 c0 os A1 c1 rs A2 c2 items W' hvo hok (Kd.C_below h0 hW) hc0 (Kd.C_below h1 hW) hc1 (Kd.C_below h2 hW) hc2)
  have hit := Aside0.mk (fun (W' : World) (hW : Below w.heap.size w W') => items_calls A2 c2 items os.length W' (Kd.C_below h2 hW) hc2 (by omega) (by omega))
  have hv := Aside0.mk (fun (W' : World) (hW : Below w.heap.size w W') => validate_calls name_calls pat_calls A0 c0 os A1 c1 rs W' (Kd.C_below h0 hW) hc0 (Kd.C_below h1 hW) hs0 hs1)
  generalize scriptFault os rs = sf at *
  obtain ⟨code, idx⟩ := sf
  generalize itemsFault items os.length = sf at *
  obtain ⟨code', idx'⟩ := sf
  simp only at hsf hsf2 hif hif2
  subst hsf hsf2 hif hif2
  clear hvo hok h0 h1 h2 hs0 hs1 hol
  go_enter Try.func18, Try.ntmps18
  go_wp2_with fail
  generalize hw0 : (w.alloc (Obj.cells #[Value.slice A0 os.length c0, Value.slice A1 rs.length c1] 25)).alloc (Obj.cells #[Value.int IntKind.i64 0, Value.int IntKind.i64 0] 29) = w0
  have hsz : w0.heap.size = w.heap.size + 2 := by rw [← hw0]; simp
  have hww : Below w.heap.size w w0 := by rw [← hw0]; exact below_alloc (below_alloc (Below.refl _ _) _) _
  have z0 : w0.cell? ⟨w.heap.size, 0, none⟩ = some (.slice A0 os.length c0) := by rw [← hw0]; exact (World.cell?_alloc_past _ _ _ (by simp)).trans (World.cell?_alloc_at _ _ _ _ rfl)
  have z1 : w0.cell? ⟨w.heap.size, 1, none⟩ = some (.slice A1 rs.length c1) := by rw [← hw0]; exact (World.cell?_alloc_past _ _ _ (by simp)).trans (World.cell?_alloc_at _ _ _ _ rfl)
  have zc : w0.heap[w.heap.size + 1]? = some (.cells #[Value.int IntKind.i64 0, Value.int IntKind.i64 0] 29 (0, 0)) := by
    rw [← hw0]
    have h := alloc_block (w.alloc (Obj.cells #[Value.slice A0 os.length c0, Value.slice A1 rs.length c1] 25)) (Obj.cells #[Value.int IntKind.i64 0, Value.int IntKind.i64 0] 29)
    rw [show (w.alloc (Obj.cells #[Value.slice A0 os.length c0, Value.slice A1 rs.length c1] 25)).heap.size = w.heap.size + 1 by simp] at h
    exact h
  clear hw0
  refine (hv.out _ hww).mono ?_
  rintro e w1 ⟨rfl, hb1⟩
  have hW1 := Aside0.mk (hww.trans (hb1.mono (by omega)))
  have hs1z := hb1.size
  have zc1 := (hb1.block _ (by omega)).trans zc
  replace z0 := (hb1.cell (p := ⟨w.heap.size, 0, none⟩) (by simp; omega)).trans z0
  replace z1 := (hb1.cell (p := ⟨w.heap.size, 1, none⟩) (by simp; omega)).trans z1
  clear hv zc hb1 hww
  have hb2 : Below w.heap.size w (w1.alloc (Obj.cells #[Value.int IntKind.i64 0, Value.int IntKind.i64 0] 29)) := below_alloc hW1.out _
  have hlt1 : w.heap.size < w1.heap.size := by omega
  replace zc1 := Aside0.mk (blk_alloc zc1 (Obj.cells #[Value.int IntKind.i64 0, Value.int IntKind.i64 0] 29))
  go_wp2_with (go_at_call 26; refine (hit.out _ hb2).mono ?_)
  rintro e w2 ⟨rfl, hb3⟩
  have hW2 := Aside0.mk (hb2.trans (hb3.mono hb2.size))
  have hsX : w1.heap.size + 1 = (w1.alloc (Obj.cells #[Value.int IntKind.i64 0, Value.int IntKind.i64 0] 29)).heap.size := by simp
  have hs2z := hb3.size
  replace zc1 := Aside0.mk ((hb3.block _ (by omega)).trans zc1.out)
  replace z0 := (hb3.cell (p := ⟨w.heap.size, 0, none⟩) (by simp; omega)).trans ((World.cell?_alloc_past _ _ _ hlt1).trans z0)
  replace z1 := (hb3.cell (p := ⟨w.heap.size, 1, none⟩) (by simp; omega)).trans ((World.cell?_alloc_past _ _ _ hlt1).trans z1)
  have hb4 : Below w.heap.size w (w2.alloc (Obj.cells #[Value.int IntKind.i64 0, Value.int IntKind.i64 0] 29)) := below_alloc hW2.out _
  have hlt2 : w.heap.size + 2 ≤ w2.heap.size := by omega
  clear hb2 hb3 hit hsX hlt1 hs1z hs2z
  replace zc1 := Aside0.mk (blk_alloc zc1.out (Obj.cells #[Value.int IntKind.i64 0, Value.int IntKind.i64 0] 29))
  have hlt3 : w.heap.size < w2.heap.size := by omega
  have y0 := (World.cell?_alloc_past (w := w2) (Obj.cells #[Value.int IntKind.i64 0, Value.int IntKind.i64 0] 29) _ _ hlt3).trans z0
  have y1 := (World.cell?_alloc_past (w := w2) (Obj.cells #[Value.int IntKind.i64 0, Value.int IntKind.i64 0] 29) _ _ hlt3).trans z1
  go_wp2_with fail
  refine (hAs.out _ hb4).mono ?_
  rintro e w3 ⟨v0, v1, rfl, hr0, hr1, hb5⟩
  have zc2 := (hb5.block _ (by simp; omega)).trans zc1.out
  have hW3 := Aside0.mk (hb4.trans (hb5.mono hb4.size))
  obtain ⟨A', c', rfl, hc', hC', hg'⟩ := hr0
  obtain ⟨A'', n'', c'', rfl⟩ := hr1
  have hrow : RowI w.heap.size (w3.setCell ⟨w.heap.size + 1, 0, none⟩ (.int .i64 (assign os items).code)) (.slice A' (assign os items).ad.length c') (assign os items).ad := ⟨A', c', rfl, hc', C_set (fun _ _ _ _ h => h) hC' (fun ad had => by have := hg' ad had; simp at this ⊢; omega), fun ad had => by have := hg' ad had; simp at this; omega⟩
  have hrow' : RowI w.heap.size ((w3.setCell ⟨w.heap.size + 1, 0, none⟩ (.int .i64 (assign os items).code)).setCell ⟨w.heap.size + 1, 1, none⟩ (.int .i64 (assign os items).idx)) (.slice A' (assign os items).ad.length c') (assign os items).ad := by
    obtain ⟨A9, c9, e9, a1, a2, a3⟩ := hrow
    cases e9
    exact ⟨A', c', rfl, hc', C_set (fun _ _ _ _ h => h) a2 (fun ad had => by have := hg' ad had; simp at this ⊢; omega), a3⟩
  replace hrow' := Aside0.mk hrow'
  clear hb4 hb5 hC' hg' hrow hAs z0 z1
  have f4 := blk_frozen zc2 0
  have f5 := blk_frozen zc2 1
  have d4 := (blk_cell zc2 0).trans rfl
  have d5 := (blk_cell zc2 1).trans rfl
  go_wp2
  refine bodyPost_ret (v := .tuple #[.slice A' (assign os items).ad.length c', .slice A'' n'' c'', .agg #[.int .i64 (assign os items).code, .int .i64 (assign os items).idx]]) (by simp [results, Try.results18, go_sem, d4, d5]) rfl ⟨_, _, rfl, hrow'.out, ?_⟩
  exact (hW3.out.setCell (p := ⟨w.heap.size + 1, 0, none⟩) (Nat.le_add_right _ 1) _).setCell (p := ⟨w.heap.size + 1, 1, none⟩) (Nat.le_add_right _ 1) _
end Go.Proofs.Ytogcgcjhoebooaa
end
section
namespace Go.Proofs.Ytogcgcjhoebooaa.PVeneerMatchesSpec
open Go.RowKit Go.Proofs.YtogcgcjhoebooaaW.PrintWords Go.Proofs.YtogcgcjhoebooaaW.PrintLast Go.Proofs.YtogcgcjhoebooaaW.PrintMore
set_option linter.unusedVariables false
set_option linter.unusedSimpArgs false
theorem eqA54 (d : Nat) (w : World) (x0 y0 : Int) (x1 y1 : Int) (x2 y2 : Int) (x3 y3 : Int) (x4 y4 : Int) :
    (Op.equalIn (d + 2) 54 (.agg #[.int .i64 x0, .int .i64 x1, .int .i64 x2, .int .i64 x3, .int .i64 x4]) (.agg #[.int .i64 y0, .int .i64 y1, .int .i64 y2, .int .i64 y3, .int .i64 y4])).run Try.prog w = .ok (x0 == y0 && (x1 == y1 && (x2 == y2 && (x3 == y3 && (x4 == y4))))) w := by
  refine eqA_of Try.underlying54 (by kernel_rfl) ?_
  refine eqf_cons (by rfl) (by go_simp; rfl) (by go_simp; rfl) (by go_simp) ?_
  refine eqf_cons (by rfl) (by go_simp; rfl) (by go_simp; rfl) (by go_simp) ?_
  refine eqf_cons (by rfl) (by go_simp; rfl) (by go_simp; rfl) (by go_simp) ?_
  refine eqf_cons (by rfl) (by go_simp; rfl) (by go_simp; rfl) (by go_simp) ?_
  exact eqf_last (by rfl) (by go_simp; rfl) (by go_simp; rfl) (by go_simp)
end Go.Proofs.Ytogcgcjhoebooaa.PVeneerMatchesSpec
end
section
namespace Go.Proofs.Ytogcgcjhoebooaa
open Go.RowKit Go.Proofs.YtogcgcjhoebooaaW.PrintWords Go.Proofs.YtogcgcjhoebooaaW.PrintLast Go.Proofs.Ytogcgcjhoebooaa.PVeneerMatchesSpec
attribute [local go_sem high] eqA54
set_option linter.unusedVariables false
set_option linter.unusedSimpArgs false
theorem append57 {ops : Array Oper} {rest : List Oper} {o : Oper} {a : Act} {Q : Exit → Act → World → Prop} {W : World} (hgd : o.guard = none) (s x : Operand) (ho : o.op = .call { callee := .builtin .append, args := #[s, x], argTypes := #[26, 26] })
    (A : Option Addr) (c : Nat) (l : List S57) (hs : a.eval s = .slice none 0 0) (hx : a.eval x = .slice A l.length c) (hC : Kd.C k57 W A l.length l) (hm : l.length ≤ 1000)
    (h : ∀ v1 w1, w1.ownsRow W.heap.size 57 3 v1 l.length (cells57 l) → Below W.heap.size W w1 → wpList Try.prog ops Q rest (a.put o.dst v1) w1) : wpList Try.prog ops Q (o :: rest) a W := by
  obtain ⟨i0, hi, hzz⟩ := Option.map_eq_some_iff.1 info57
  simp only [Prod.mk.injEq] at hzz
  obtain ⟨hz0, hz1, hz2⟩ := hzz
  cases A with
  | none =>
    have h0 : l = [] := by
      cases l with
      | nil => rfl
      | cons x l => obtain ⟨ad, e, _⟩ := hC.2.2 (by simp); cases e
    subst h0
    have hr : (Builtin.append_ #[26, 26] o.type #[.slice none 0 0, .slice none 0 c]).run Try.prog W = .ok (.slice none 0 0) W := by
      simp [Builtin.append_, run_underlying Try.underlying26, sizeOf, typeInfo, hi, Builtin.lenOf, Builtin.firstCells]
    refine wpList_plain hgd fun K hK => ?_
    unfold Oper.wp execOp
    simp only [ho, resolve, invoke, builtin, Sem.run_bind, Sem.run_pure, Result.andThen_ok, List.map_toArray, List.map_cons, List.map_nil, hs, hx, List.length_nil, hr]
    exact hK _ _ (h _ _ (World.ownsRow_nil W _ _ _) (Below.refl _ _))
  | some ad =>
    refine wpList_append_own_at W hgd s x 26 ho W.heap.size 57 i0 _ 3 24 Try.underlying26 hi hz0 hz1 hz2 rfl (by decide) _ 0 [] hs (World.ownsRow_nil W _ _ _) ad l.length c (cells57 l) hx (cells57_length l) ?c1 (cells57_one l) (by simp only [maxLen]; omega) (by omega) (Nat.le_refl _) ?_
    case c1 =>
      intro j u hu
      have hj : j < (cells57 l).length := (List.getElem?_eq_some_iff.1 hu).1
      rw [cells57_length] at hj
      obtain ⟨b, o, e, hb, hx'⟩ := open57 hC (by omega)
      cases e
      exact cells57_read rfl hx' j u hu
    · intro v' w' hown hg _ _
      refine h v' w' (by simpa using hown) ?_
      exact (Below.refl W.heap.size W).grown hg (Nat.le_refl _) (fun k hk => by simp [Value.ownBlock] at hk)
theorem ints_self (l : List Int) (hm : l.length ≤ 9223372036854775807) : ∀ (d i k : Nat), i + d = l.length → d < k → linkhouseref4_Ints.l0 k l l i = some true
  | 0, i, k, hi, hk => by
    obtain ⟨k, rfl⟩ : ∃ k', k = k' + 1 := ⟨k - 1, by omega⟩
    rw [linkhouseref4_Ints.l0, if_neg (by omega)]
  | d + 1, i, k, hi, hk => by
    obtain ⟨k, rfl⟩ : ∃ k', k = k' + 1 := ⟨k - 1, by omega⟩
    rw [linkhouseref4_Ints.l0, if_pos (by omega), if_pos (by omega), if_pos (by omega), if_pos rfl, show wrap64 ((i : Int) + 1) = ((i + 1 : Nat) : Int) by unfold wrap64; omega]
    exact ints_self l hm d (i + 1) k (by omega) (by omega)
theorem ints_same (l : List Int) (hm : l.length ≤ 9223372036854775807) : linkhouseref4_Ints.f (l.length + 1) l l = some true := by
  unfold linkhouseref4_Ints.f
  rw [if_pos rfl]
  exact ints_self l hm l.length 0 (l.length + 1) (by omega) (by omega)
theorem own_below {W W1 : World} {base e size n : Nat} {v : Value} {xs : List Value} (h : W.ownsRow base e size v n xs) (hb : Below W.heap.size W W1) : W1.ownsRow base e size v n xs :=
  own_move h (fun k hk => hb.block k (h.lt k hk).2)
set_option maxHeartbeats 4000000 in
set_option maxRecDepth 100000 in
theorem noneNeeded_calls {w : World} {A0 A1 A2 AB : Option Addr} {c0 c1 c2 cB : Nat} {os : List S72} {rs : List S76} {items : List S57} {bs : List S48}
    (h0 : Kd.C k72 w A0 os.length os) (hc0 : os.length ≤ c0) (h1 : Kd.C k76 w A1 rs.length rs) (hc1 : rs.length ≤ c1) (h2 : Kd.C k57 w A2 items.length items) (hc2 : items.length ≤ c2) (hB : Kd.C k48 w AB bs.length bs) (hcB : bs.length ≤ cB)
    (hs0 : ∀ j, (os.getD j z72).f0.size ≤ 9223372036854775807) (hs1 : ∀ j, (rs.getD j z76).f0.size ≤ 9223372036854775807) :
    Calls Try.prog 5 #[.agg #[.slice A0 os.length c0, .slice A1 rs.length c1], .slice A2 items.length c2, .slice AB bs.length cB] w fun e W' => e = .returned (.bool true) ∧ Below w.heap.size w W' := by
  have hu25 := Try.underlying25
  have hu29 := Try.underlying29
  have hu54 := Try.underlying54
  have hu57 := Try.underlying57
  have hbx : Below w.heap.size w (w.alloc (Obj.cells #[.slice A0 os.length c0, .slice A1 rs.length c1] 25)) := below_alloc (Below.refl _ _) _
  have zb := alloc_block w (Obj.cells #[.slice A0 os.length c0, .slice A1 rs.length c1] 25)
  have hI := insert_done (Kd.C_below h0 hbx) hc0 (Kd.C_below h1 hbx) hc1 (Kd.C_below h2 hbx) hc2 (Kd.C_below hB hbx) hcB hs0 hs1
  have hbad := inserted_bad (os := os) (rs := rs) (items := items) (bs := bs)
  have hgood := inserted_ok (os := os) (rs := rs) (items := items) (bs := bs)
  generalize inserted os rs items bs = R at *
  replace h0 := Aside0.mk h0
  replace h1 := Aside0.mk h1
  replace h2 := Aside0.mk h2
  clear hB
  go_enter Try.func5, Try.ntmps5
  go_wp2_with (go_at_call 8; refine hI.mono ?_)
  rintro e w2 ⟨vf, vs, va, rfl, hb2, hf, hs, ha⟩
  have zb2 := (hb2.block w.heap.size (by simp)).trans zb
  have hW2 := Aside0.mk (hbx.trans (hb2.mono (by simp)))
  have hsz2 : w.heap.size < w2.heap.size := by have := hb2.size; simp at this; omega
  clear hI hb2 hbx zb
  obtain ⟨Af, cf, rfl, hcf, hCf, hgf⟩ := hf
  obtain ⟨As, cs, rfl, hcs, hCs, hgs⟩ := hs
  obtain ⟨Aa, ca, rfl, hca, hCa, hga⟩ := ha
  clear hgf hgs hga hCf
  replace hCs := Aside0.mk hCs
  replace hCa := Aside0.mk hCa
  have z2 := alloc_block w2 (Obj.cells #[Value.int IntKind.i64 R.code, Value.int IntKind.i64 R.idx] 29)
  have hbY : Below w2.heap.size w2 (w2.alloc (Obj.cells #[Value.int IntKind.i64 R.code, Value.int IntKind.i64 R.idx] 29)) := below_alloc (Below.refl _ _) _
  have hsY : (w2.alloc (Obj.cells #[Value.int IntKind.i64 R.code, Value.int IntKind.i64 R.idx] 29)).heap.size = w2.heap.size + 1 := by simp
  go_wp2_with fail
  refine (inserts_calls _).mono ?_
  rintro e w3 ⟨rfl, hb3⟩
  have z3 := (hb3.block w2.heap.size (by omega)).trans z2
  have hW3 := Aside0.mk (hbY.trans (hb3.mono (by omega)))
  have hs3 : w2.heap.size < w3.heap.size := by have := hb3.size; omega
  have zb3 := Aside0.mk ((hW3.out.block w.heap.size hsz2).trans zb2)
  clear hb3 hbY hsY z2 zb2
  have q0 := (blk_cell z3 0).trans rfl
  by_cases hcz : R.code = 0
  · obtain ⟨L, ok⟩ := hgood hcz
    have hidx := ok.idx
    have hvl := ok.vi.len
    rw [hcz] at q0
    simp only [hcz, hidx]
    clear hcz hidx z3 hbad hgood
    have hb13 := hW2.out.trans (hW3.out.mono (Nat.le_of_lt hsz2))
    go_wp2_with (at_builtin; refine append57 rfl (.tmp 40) (.tmp 41) rfl A2 c2 items rfl rfl (Kd.C_below h2.out hb13) (by omega) ?_)
    intro v4 w4 hown hb4
    obtain ⟨Av, cv, rfl, hcv, _⟩ := C57_of_own hown (by omega)
    have hW4 := Aside0.mk (hW3.out.trans (hb4.mono (Nat.le_of_lt hs3)))
    have hs4 : w3.heap.size ≤ w4.heap.size := hb4.size
    replace zb3 := Aside0.mk ((hb4.block w.heap.size (by omega)).trans zb3.out)
    replace hown := Aside0.mk hown
    clear q0 hb13 hb4
    go_wp2_with fail
    go_loopg [12] R.stubs.length (fun k v12 wr => ∃ i : Nat, i ≤ R.stubs.length ∧ v12 = .int .i64 i ∧ Aside0 (k = R.stubs.length - i) ∧ Aside0 (wr.ownsRow w3.heap.size 57 3 (.slice Av items.length cv) items.length (cells57 (ext items (R.stubs.take i)))) ∧ Aside0 (Below w3.heap.size w4 wr))
    case atStart => exact ⟨0, Nat.zero_le _, rfl, ⟨rfl⟩, ⟨by rw [List.take_zero, ext_nil]; exact hown.out⟩, ⟨Below.refl _ _ |>.mono hs4⟩⟩
    case round =>
      clear hown
      obtain ⟨i, hi, rfl, hk, hown, hb⟩ := hrel
      have hB2 := Aside0.mk (hW4.out.trans (hb.out.mono (Nat.le_of_lt hs3)))
      have hB1 := Aside0.mk (hW2.out.trans (hB2.out.mono (Nat.le_of_lt hsz2)))
      have hle := ok.stubs_le
      by_cases hlt : i < R.stubs.length
      · obtain ⟨bq, oq, e, hbq, hxq⟩ := open54 hCs.out (by omega)
        subst e
        have HX : Aside0 (∀ W, Below w2.heap.size w2 W → ∀ k, k < R.stubs.length → W.cell? ⟨bq, oq + k * 5, none⟩ = some (.int .i64 (R.stubs.getD k z54).f0) ∧ W.cell? ⟨bq, oq + k * 5 + 1, none⟩ = some (.int .i64 (R.stubs.getD k z54).f1) ∧ W.cell? ⟨bq, oq + k * 5 + 2, none⟩ = some (.int .i64 (R.stubs.getD k z54).f2) ∧ W.cell? ⟨bq, oq + k * 5 + 3, none⟩ = some (.int .i64 (R.stubs.getD k z54).f3) ∧ W.cell? ⟨bq, oq + k * 5 + 4, none⟩ = some (.int .i64 (R.stubs.getD k z54).f4)) := ⟨fun W hW k hk => by
          obtain ⟨a0, a1, a2, a3, a4⟩ := hxq k hk
          exact ⟨(hW.cell (p := ⟨bq, _, none⟩) hbq).trans a0, (hW.cell (p := ⟨bq, _, none⟩) hbq).trans a1, (hW.cell (p := ⟨bq, _, none⟩) hbq).trans a2, (hW.cell (p := ⟨bq, _, none⟩) hbq).trans a3, (hW.cell (p := ⟨bq, _, none⟩) hbq).trans a4⟩⟩
        obtain ⟨j, e0, hj, e1, e2, e3⟩ := ok.stub i hlt
        obtain ⟨x0, x1, x2, x3, x4⟩ := HX.out wr hB2.out i hlt
        obtain ⟨g', cap, e, hgb, hgl⟩ := hown.out.form (by omega)
        cases e
        have hcell := hown.out.cellAt (j * 3 + 1) (by omega)
        rw [(cells57_at (ext items (R.stubs.take i)) j (by rw [ext_length]; exact hj)).2.1, ← e1] at hcell
        have hfr : wr.frozen? ⟨g', j * 3 + 1, none⟩ = false := own_frozen hown.out _
        have hst := (hown.out.stored (j * 3 + 1) (.int .i64 ((R.stubs.getD i z54).f1 + 5))).1
        rw [cells57_set _ _ _ (by rw [ext_length]; exact hj), ← ext_snoc items (R.stubs.take i) _ j e0 hj e1] at hst
        have htk : R.stubs.take i ++ [R.stubs.getD i z54] = R.stubs.take (i + 1) := by
          rw [take_snoc _ _ hlt, List.getD_eq_getElem?_getD, List.getElem?_eq_getElem hlt]; rfl
        rw [htk] at hst
        replace hst := Aside0.mk hst
        have hkp : KP R.stubs := by rw [ok.st]; exact ok.kp.ordered _
        have hoth : Aside0 (∀ k, k < i → other (R.stubs.getD k z54) (R.stubs.getD i z54)) := ⟨fun k hk => by
          have := (List.pairwise_iff_getElem.1 hkp) k i (by omega) hlt hk
          rw [List.getD_eq_getElem?_getD, List.getElem?_eq_getElem (by omega), List.getD_eq_getElem?_getD, List.getElem?_eq_getElem hlt]
          exact this⟩
        have HIn : Aside0 (∀ W', Calls Try.prog 17 #[.int .i64 (j : Int), .int .i64 0, .int .i64 ((items.length : Int) - 1)] W' fun e W'' => e = .returned (.bool true) ∧ Drawn0 W' W'') :=
          ⟨fun W' => linkhouseref4_In.calls (j : Int) 0 ((items.length : Int) - 1) true W' (by unfold linkhouseref4_In.f; rw [if_pos (by omega), decide_eq_true (by omega)])⟩
        clear hxq htk hkp e1
        have e0' := Aside0.mk e0
        rw [e0] at x0
        clear e0
        generalize hsi : R.stubs.getD i z54 = s at *
        replace hsi := Aside0.mk hsi
        have g0 : IntKind.i64.wrap ((items.length : Int) - 1) = (items.length : Int) - 1 := by rw [i64_w]; unfold wrap64; omega
        have g1 : IntKind.i64.wrap (s.f1 + 5) = s.f1 + 5 := by rw [i64_w]; unfold wrap64; omega
        go_wp2_with fail
        go_quiet ((go_at_call 17; exact quiet_drawn (HIn.out _)))
        go_wp2_with fail
        go_region
        go_wp2_with fail
        have hown2 : ((wr.drewN (nq + 1)).setCell ⟨g', j * 3 + 1, none⟩ (.int .i64 (s.f1 + 5))).ownsRow w3.heap.size 57 3 (.slice (some ⟨g', 0, none⟩) items.length cv) items.length (cells57 (ext items (R.stubs.take (i + 1)))) := hst.out
        have hbq' : Below w3.heap.size w4 ((wr.drewN (nq + 1)).setCell ⟨g', j * 3 + 1, none⟩ (.int .i64 (s.f1 + 5))) := (pw_below_drewN hb.out _).setCell hgb _
        have hB2' : Below w2.heap.size w2 ((wr.drewN (nq + 1)).setCell ⟨g', j * 3 + 1, none⟩ (.int .i64 (s.f1 + 5))) := hW4.out.trans (hbq'.mono (Nat.le_of_lt hs3))
        generalize ((wr.drewN (nq + 1)).setCell ⟨g', j * 3 + 1, none⟩ (.int .i64 (s.f1 + 5))) = wq at *
        replace hown2 := Aside0.mk hown2
        replace hbq' := Aside0.mk hbq'
        replace hB2' := Aside0.mk hB2'
        clear hst hown hcell hfr g0 g1 x0 x1 x2 x3 x4 hb hB2 hgl
        obtain ⟨wo, rfl⟩ : ∃ wo : World, wo = wr := ⟨_, rfl⟩
        go_loopg [13] i (fun k v13 wi => ∃ m : Nat, m ≤ i ∧ v13 = .int .i64 m ∧ Aside0 (k = i - m) ∧ Aside0 (Below wq.heap.size wq wi))
        case atStart => exact ⟨0, Nat.zero_le _, rfl, ⟨rfl⟩, ⟨Below.refl _ _⟩⟩
        case round =>
          obtain ⟨m, hmi, rfl, hk2, hbi⟩ := hrel
          have hBi := Aside0.mk (hB2'.out.trans (hbi.out.mono hB2'.out.size))
          by_cases hlt2 : m < i
          · obtain ⟨y0, y1, y2, y3, y4⟩ := HX.out _ hBi.out m (by omega)
            have hne := hoth.out m hlt2
            have hS := HX.out _ hBi.out i hlt
            rw [hsi.out, e0'.out] at hS
            obtain ⟨s0, s1, s2, s3, s4⟩ := hS
            generalize R.stubs.getD m z54 = y at *
            have hne1 : (y.f0 == (j : Int) && (s.f1 == s.f1 && (y.f2 == s.f2 && (y.f3 == s.f3 && (y.f4 == s.f4))))) = false := by
              rw [Bool.eq_false_iff]
              intro h
              simp only [Bool.and_eq_true, beq_iff_eq] at h
              exact hne ⟨by rw [e0'.out]; exact h.1, h.2.2.1, h.2.2.2.1, h.2.2.2.2⟩
            clear hne
            have hbqw : bq < wr.heap.size := Nat.lt_of_lt_of_le hbq hBi.out.size
            go_wp2_with fail
            have k0 : (wr.alloc (Obj.cells #[Value.int IntKind.i64 y.f0, Value.int IntKind.i64 s.f1, Value.int IntKind.i64 y.f2, Value.int IntKind.i64 y.f3, Value.int IntKind.i64 y.f4] 54)).cell? ⟨wr.heap.size, 0, none⟩ = some (.int .i64 y.f0) := by simp
            have k1 : (wr.alloc (Obj.cells #[Value.int IntKind.i64 y.f0, Value.int IntKind.i64 s.f1, Value.int IntKind.i64 y.f2, Value.int IntKind.i64 y.f3, Value.int IntKind.i64 y.f4] 54)).cell? ⟨wr.heap.size, 1, none⟩ = some (.int .i64 s.f1) := by simp
            have k2 : (wr.alloc (Obj.cells #[Value.int IntKind.i64 y.f0, Value.int IntKind.i64 s.f1, Value.int IntKind.i64 y.f2, Value.int IntKind.i64 y.f3, Value.int IntKind.i64 y.f4] 54)).cell? ⟨wr.heap.size, 2, none⟩ = some (.int .i64 y.f2) := by simp
            have k3 : (wr.alloc (Obj.cells #[Value.int IntKind.i64 y.f0, Value.int IntKind.i64 s.f1, Value.int IntKind.i64 y.f2, Value.int IntKind.i64 y.f3, Value.int IntKind.i64 y.f4] 54)).cell? ⟨wr.heap.size, 3, none⟩ = some (.int .i64 y.f3) := by simp
            have k4 : (wr.alloc (Obj.cells #[Value.int IntKind.i64 y.f0, Value.int IntKind.i64 s.f1, Value.int IntKind.i64 y.f2, Value.int IntKind.i64 y.f3, Value.int IntKind.i64 y.f4] 54)).cell? ⟨wr.heap.size, 4, none⟩ = some (.int .i64 y.f4) := by simp
            have hx1 : Below wr.heap.size wr (wr.alloc (Obj.cells #[Value.int IntKind.i64 y.f0, Value.int IntKind.i64 s.f1, Value.int IntKind.i64 y.f2, Value.int IntKind.i64 y.f3, Value.int IntKind.i64 y.f4] 54)) := below_alloc (Below.refl _ _) _
            generalize (wr.alloc (Obj.cells #[Value.int IntKind.i64 y.f0, Value.int IntKind.i64 s.f1, Value.int IntKind.i64 y.f2, Value.int IntKind.i64 y.f3, Value.int IntKind.i64 y.f4] 54)) = X at *
            have r0 := (hx1.cell (p := ⟨bq, oq + i * 5, none⟩) hbqw).trans s0
            have r1 := (hx1.cell (p := ⟨bq, oq + i * 5 + 1, none⟩) hbqw).trans s1
            have r2 := (hx1.cell (p := ⟨bq, oq + i * 5 + 2, none⟩) hbqw).trans s2
            have r3 := (hx1.cell (p := ⟨bq, oq + i * 5 + 3, none⟩) hbqw).trans s3
            have r4 := (hx1.cell (p := ⟨bq, oq + i * 5 + 4, none⟩) hbqw).trans s4
            have hbX := Aside0.mk (hbi.out.trans (hx1.mono hbi.out.size))
            clear s0 s1 s2 s3 s4 y0 y1 y2 y3 y4 hx1
            go_quiet (fail)
            go_wp2_with fail
            next hh =>
              obtain ⟨a1, a2, a3, a4⟩ := hh
              rw [a1, a2, a3, a4] at hne1
              simp at hne1
            go_roundg (i - (m + 1))
            case measure => have := hk2.out; omega
            case rel => exact ⟨m + 1, hlt2, by go_num, ⟨rfl⟩, ⟨by repeat (first | exact hbX.out | apply pw_below_drewN)⟩⟩
          · go_wp2
            go_roundg (R.stubs.length - (i + 1))
            case measure => have := hk.out; omega
            case rel => exact ⟨i + 1, hlt, by go_num, ⟨rfl⟩, ⟨own_below hown2.out hbi.out⟩, ⟨hbq'.out.trans (hbi.out.mono (Nat.le_trans hs4 hbq'.out.size))⟩⟩
      · have hie : i = R.stubs.length := by omega
        subst hie
        have ho := hown.out
        rw [List.take_length, ok.st, ext_ordered] at ho
        have hxl := ext_length items L
        rw [← hxl] at ho
        obtain ⟨A', c', e, hcc, hC⟩ := C57_of_own ho (by omega)
        rw [hxl] at e
        cases e
        have hoke := okI_ext ok.vi ok.le
        have hef := ext_fault ok.vo ok.itf hoke ok.g.sg
        have hin := (assign_in ok.vo hoke ok.g.sg).2
        have had : R.ad = (assign os (ext items L)).ad := ok.g.ad
        have hLay := layout_calls (Kd.C_below h0.out hB1.out) hc0 (Kd.C_below h1.out hB1.out) hc1 hC hcc hs0 hs1 ok.sf (by rw [hef]) hoke
        rw [hxl, ← had, ok.g.sg, hin] at hLay
        have zb4 := (hb.out.block w.heap.size (by omega)).trans zb3.out
        have u0 := (blk_cell zb4 0).trans rfl
        have u1 := (blk_cell zb4 1).trans rfl
        clear ho hC hcc hxl hoke hef hin had zb4
        go_wp2_with (go_at_call 18; refine hLay.mono ?_)
        rintro e w5 ⟨v0, v1, rfl, hr, hb5⟩
        obtain ⟨Ar, cr, rfl, hcr, hCr, _⟩ := hr
        have hB5 := Aside0.mk (hB1.out.trans (hb5.mono hB1.out.size))
        have hbY : Below w5.heap.size w5 (w5.alloc (Obj.cells #[Value.int IntKind.i64 0, Value.int IntKind.i64 0] 29)) := below_alloc (Below.refl _ _) _
        have hi1 := linkhouseref4_Ints.calls (R.ad.length + 1) Aa ca R.ad Ar cr R.ad true (w5.alloc (Obj.cells #[Value.int IntKind.i64 0, Value.int IntKind.i64 0] 29)) (Kd.C_below hCa.out ((hB2.out.trans (hb5.mono hB2.out.size)).trans (hbY.mono (Nat.le_trans hB2.out.size hb5.size)))) hca (Kd.C_below hCr hbY) hcr (ints_same R.ad hCr.2.1)
        go_wp2_with fail
        refine hi1.mono ?_
        rintro e w6 ⟨rfl, hd⟩
        obtain ⟨n, rfl⟩ := hd.out
        go_wp2
        go_ret
        exact ⟨rfl, pw_below_drewN (hB5.out.trans (hbY.mono hB5.out.size)) _⟩
  · obtain ⟨e1, e2, e3⟩ := hbad hcz
    have hcz' : (R.code != 0) = true := by simpa using hcz
    rw [e1]
    simp only [List.length_nil]
    go_wp2_with fail
    refine (inserts_calls _).mono ?_
    rintro e w4 ⟨rfl, hb4⟩
    go_wp2
    go_ret
    exact ⟨rfl, hW2.out.trans ((hW3.out.trans (hb4.mono (by omega))).mono (by omega))⟩
end Go.Proofs.Ytogcgcjhoebooaa
end
section
namespace Go.Proofs.Ytogcgcjhoebooaa
open Go.RowKit Go.Proofs.YtogcgcjhoebooaaW.PrintWords Go.Proofs.Ytogcgcjhoebooaa.PVeneerMatchesSpec
open Go.ChangeShapes Go.WideShapes Go.Deep Go.Joins
set_option linter.unusedVariables false
set_option linter.unusedSimpArgs false
section
variable {H : Type} {enc : TypeId × Value → H} {P : Program} {w : World} {base : Nat} {spare : Nat → Bool} {held : Bool}
theorem open_slice_fields {t e : TypeId} {fs : Array Field} {fuel : Nat} {cs : List Value} {x : DataW H × List MemPlace} (ht : P.underlying t = some (.slice e)) (he : P.underlying e = some (.struct fs))
    (hone : oneCellFields P fs = true) (hC : P.cellsOf e = fs.size) (h : DataW.trod enc P w base spare held fuel t cs = some x) :
    (cs = [.slice none 0 0] ∧ x = (.nil, [])) ∨
    ∃ (a : Addr) (len cap m : Nat) (D : Nat → DataW H) (Pl : Nat → List MemPlace), cs = [.slice (some a) len cap] ∧ base ≤ a.block ∧ len ≤ cap ∧ cap ≤ maxLen ∧ m = (if spare a.block then cap else len) ∧
      x = (.slice ((List.range len).map D) ((List.range (m - len)).map fun j => D (len + j)), MemPlace.row a (m * fs.size) ++ (List.range m).flatMap Pl) ∧
      ∀ i, i < m → ∃ (ys : List (DataW H × List MemPlace)) (n : Nat), D i = .agg (ys.map (·.1)) ∧ Pl i = ys.flatMap (·.2) ∧ ys.length = fs.size ∧
        ∀ (j : Nat) (f : Field), fs[j]? = some f → ∃ (v : Value) (y : DataW H × List MemPlace), w.cell? (a.add (i * fs.size + j)) = some v ∧ ys[j]? = some y ∧ DataW.trod enc P w base spare held n f.type [v] = some y := by
  rcases open_slice ht h with h0 | ⟨a, len, cap, m, n, D, Pl, hcs, hb, hl, hm, hmm, hx, hi⟩
  · exact .inl h0
  · refine .inr ⟨a, len, cap, m, D, Pl, hcs, hb, hl, hm, hmm, by rw [hC] at hx; exact hx, fun i him => ?_⟩
    obtain ⟨cs', hc, ht'⟩ := hi i him
    rw [hC] at hc
    obtain ⟨ys, n', hn', hy, hlen, hyl, hf⟩ := DataW.trod_struct he ht'
    obtain ⟨_, hcl, hat⟩ := World.cells?_some hc
    simp only [Prod.mk.injEq] at hy
    refine ⟨ys, n', hy.1, hy.2, hyl, fun j f hj => ?_⟩
    obtain ⟨ho, hk⟩ := hone_of hone j f hj
    have hjl : j < fs.size := (Array.getElem?_eq_some_iff.1 hj).1
    have hcell := hat j hjl
    have hv : cs'[j]? = some (cs'[j]'(by omega)) := List.getElem?_eq_getElem (by omega)
    have h1 := hf j f hj
    rw [ho, hk] at h1
    have hone' : (cs'.drop j).take 1 = [cs'[j]'(by omega)] := by
      rw [List.drop_eq_getElem_cons (by omega)]
      rfl
    rw [hone'] at h1
    have hys : ys[j]? = some (ys[j]'(by omega)) := List.getElem?_eq_getElem (by omega)
    refine ⟨_, _, ?_, hys, h1.trans hys⟩
    rw [← Go.Deep.add_add, hcell, hv]
end
theorem C_build {α : Type} {d : Kd α} {w : World} {a : Addr} {n : Nat} {Q : α → Prop} (hn : n ≤ 9223372036854775807)
    (h : ∀ i, i < n → ∃ (p : α) (c : List Value), c.length = d.sz ∧ d.K w p c ∧ (∀ j u, c[j]? = some u → w.cell? (a.add (i * d.sz + j)) = some u) ∧ Q p) :
    ∃ xs : List α, xs.length = n ∧ Kd.C d w (some a) n xs ∧ ∀ p ∈ xs, Q p := by
  have h' : ∀ i : Fin n, ∃ p : α, ∃ c : List Value, c.length = d.sz ∧ d.K w p c ∧ (∀ j u, c[j]? = some u → w.cell? (a.add (i * d.sz + j)) = some u) ∧ Q p := fun i => h i i.2
  obtain ⟨f, hf⟩ := Classical.axiomOfChoice h'
  refine ⟨List.ofFn f, List.length_ofFn, ⟨List.length_ofFn, hn, fun h0 => ⟨a, rfl, fun i p hi => ?_⟩⟩, fun p hp => ?_⟩
  · rw [List.getElem?_ofFn] at hi
    split at hi
    · rename_i hlt
      injection hi with hi
      subst hi
      obtain ⟨c, h1, h2, h3, h4⟩ := hf ⟨i, hlt⟩
      exact ⟨c, h1, h2, h3⟩
    · cases hi
  · rw [List.mem_ofFn] at hp
    obtain ⟨i, rfl⟩ := hp
    obtain ⟨c, h1, h2, h3, h4⟩ := hf i
    exact h4
theorem C_nil {α : Type} (d : Kd α) (w : World) : Kd.C d w none 0 ([] : List α) := ⟨rfl, by omega, fun hp => absurd hp (by omega)⟩
theorem in72 {H : Type} {enc : TypeId × Value → H} {w : World} {base : Nat} {spare : Nat → Bool} {held : Bool} {n : Nat} {v : Value} {y : DataW H × List MemPlace} (h : DataW.trod enc Try.prog w base spare held n 22 [v] = some y) :
    ∃ (A : Option Addr) (c : Nat) (xs : List S72), v = .slice A xs.length c ∧ xs.length ≤ c ∧ Kd.C k72 w A xs.length xs ∧ ∀ p ∈ xs, p.f0.size ≤ 9223372036854775807 := by
  rcases open_slice_fields Try.underlying22 Try.underlying72 (by kernel_rfl) (by kernel_rfl) h with ⟨h0, _⟩ | ⟨a, len, cap, m, D, Pl, hcs, hb, hl, hc, hm, hx, hf⟩
  · injection h0 with h0
    subst h0
    exact ⟨none, 0, [], rfl, Nat.le_refl _, C_nil _ _, fun p hp => by cases hp⟩
  · injection hcs with hcs
    have hml : len ≤ m := by rw [hm]; split <;> omega
    obtain ⟨xs, e, hC, hq⟩ := C_build (d := k72) (w := w) (a := a) (n := len) (Q := fun p => p.f0.size ≤ 9223372036854775807) (Nat.le_trans hl hc) (fun i hi => by
      obtain ⟨ys, n', _, _, _, hfd⟩ := hf i (by omega)
      obtain ⟨v0, y0, hc0, _, ht0⟩ := hfd 0 _ rfl
      obtain ⟨x0, e0, _, hq0⟩ := DataW.trod_string Try.underlying9 ht0
      injection e0 with e0
      subst e0
      obtain ⟨v1, y1, hc1, _, ht1⟩ := hfd 1 _ rfl
      obtain ⟨x1, e1, _, hq1⟩ := DataW.trod_int Try.underlying3 ht1
      injection e1 with e1
      subst e1
      obtain ⟨v2, y2, hc2, _, ht2⟩ := hfd 2 _ rfl
      obtain ⟨x2, e2, _, hq2⟩ := DataW.trod_int Try.underlying3 ht2
      injection e2 with e2
      subst e2
      obtain ⟨v3, y3, hc3, _, ht3⟩ := hfd 3 _ rfl
      obtain ⟨x3, e3, _, hq3⟩ := DataW.trod_int Try.underlying3 ht3
      injection e3 with e3
      subst e3
      refine ⟨⟨x0, x1, x2, x3⟩, [.string x0, .int .i64 x1, .int .i64 x2, .int .i64 x3], rfl, k72_mk _ _, fun j u hj => ?_, hq0⟩
      match j, hj with
      | 0, hj => injection hj with hj; subst hj; exact hc0
      | 1, hj => injection hj with hj; subst hj; exact hc1
      | 2, hj => injection hj with hj; subst hj; exact hc2
      | 3, hj => injection hj with hj; subst hj; exact hc3
      | j + 4, hj => cases hj)
    subst e
    exact ⟨some a, cap, xs, hcs, hl, hC, hq⟩
theorem in76 {H : Type} {enc : TypeId × Value → H} {w : World} {base : Nat} {spare : Nat → Bool} {held : Bool} {n : Nat} {v : Value} {y : DataW H × List MemPlace} (h : DataW.trod enc Try.prog w base spare held n 23 [v] = some y) :
    ∃ (A : Option Addr) (c : Nat) (xs : List S76), v = .slice A xs.length c ∧ xs.length ≤ c ∧ Kd.C k76 w A xs.length xs ∧ ∀ p ∈ xs, p.f0.size ≤ 9223372036854775807 := by
  rcases open_slice_fields Try.underlying23 Try.underlying76 (by kernel_rfl) (by kernel_rfl) h with ⟨h0, _⟩ | ⟨a, len, cap, m, D, Pl, hcs, hb, hl, hc, hm, hx, hf⟩
  · injection h0 with h0
    subst h0
    exact ⟨none, 0, [], rfl, Nat.le_refl _, C_nil _ _, fun p hp => by cases hp⟩
  · injection hcs with hcs
    have hml : len ≤ m := by rw [hm]; split <;> omega
    obtain ⟨xs, e, hC, hq⟩ := C_build (d := k76) (w := w) (a := a) (n := len) (Q := fun p => p.f0.size ≤ 9223372036854775807) (Nat.le_trans hl hc) (fun i hi => by
      obtain ⟨ys, n', _, _, _, hfd⟩ := hf i (by omega)
      obtain ⟨v0, y0, hc0, _, ht0⟩ := hfd 0 _ rfl
      obtain ⟨x0, e0, _, hq0⟩ := DataW.trod_string Try.underlying9 ht0
      injection e0 with e0
      subst e0
      obtain ⟨v1, y1, hc1, _, ht1⟩ := hfd 1 _ rfl
      obtain ⟨x1, e1, _, hq1⟩ := DataW.trod_int Try.underlying3 ht1
      injection e1 with e1
      subst e1
      obtain ⟨v2, y2, hc2, _, ht2⟩ := hfd 2 _ rfl
      obtain ⟨x2, e2, _, hq2⟩ := DataW.trod_int Try.underlying3 ht2
      injection e2 with e2
      subst e2
      refine ⟨⟨x0, x1, x2⟩, [.string x0, .int .i64 x1, .int .i64 x2], rfl, k76_mk _ _, fun j u hj => ?_, hq0⟩
      match j, hj with
      | 0, hj => injection hj with hj; subst hj; exact hc0
      | 1, hj => injection hj with hj; subst hj; exact hc1
      | 2, hj => injection hj with hj; subst hj; exact hc2
      | j + 3, hj => cases hj)
    subst e
    exact ⟨some a, cap, xs, hcs, hl, hC, hq⟩
theorem in57 {H : Type} {enc : TypeId × Value → H} {w : World} {base : Nat} {spare : Nat → Bool} {held : Bool} {n : Nat} {v : Value} {y : DataW H × List MemPlace} (h : DataW.trod enc Try.prog w base spare held n 26 [v] = some y) :
    ∃ (A : Option Addr) (c : Nat) (xs : List S57), v = .slice A xs.length c ∧ xs.length ≤ c ∧ Kd.C k57 w A xs.length xs ∧ ∀ p ∈ xs, True := by
  rcases open_slice_fields Try.underlying26 Try.underlying57 (by kernel_rfl) (by kernel_rfl) h with ⟨h0, _⟩ | ⟨a, len, cap, m, D, Pl, hcs, hb, hl, hc, hm, hx, hf⟩
  · injection h0 with h0
    subst h0
    exact ⟨none, 0, [], rfl, Nat.le_refl _, C_nil _ _, fun p hp => by cases hp⟩
  · injection hcs with hcs
    have hml : len ≤ m := by rw [hm]; split <;> omega
    obtain ⟨xs, e, hC, hq⟩ := C_build (d := k57) (w := w) (a := a) (n := len) (Q := fun p => True) (Nat.le_trans hl hc) (fun i hi => by
      obtain ⟨ys, n', _, _, _, hfd⟩ := hf i (by omega)
      obtain ⟨v0, y0, hc0, _, ht0⟩ := hfd 0 _ rfl
      obtain ⟨x0, e0, _, hq0⟩ := DataW.trod_int Try.underlying3 ht0
      injection e0 with e0
      subst e0
      obtain ⟨v1, y1, hc1, _, ht1⟩ := hfd 1 _ rfl
      obtain ⟨x1, e1, _, hq1⟩ := DataW.trod_int Try.underlying3 ht1
      injection e1 with e1
      subst e1
      obtain ⟨v2, y2, hc2, _, ht2⟩ := hfd 2 _ rfl
      obtain ⟨x2, e2, _, hq2⟩ := DataW.trod_int Try.underlying3 ht2
      injection e2 with e2
      subst e2
      refine ⟨⟨x0, x1, x2⟩, [.int .i64 x0, .int .i64 x1, .int .i64 x2], rfl, k57_mk _ _, fun j u hj => ?_, trivial⟩
      match j, hj with
      | 0, hj => injection hj with hj; subst hj; exact hc0
      | 1, hj => injection hj with hj; subst hj; exact hc1
      | 2, hj => injection hj with hj; subst hj; exact hc2
      | j + 3, hj => cases hj)
    subst e
    exact ⟨some a, cap, xs, hcs, hl, hC, hq⟩
theorem in48 {H : Type} {enc : TypeId × Value → H} {w : World} {base : Nat} {spare : Nat → Bool} {held : Bool} {n : Nat} {v : Value} {y : DataW H × List MemPlace} (h : DataW.trod enc Try.prog w base spare held n 27 [v] = some y) :
    ∃ (A : Option Addr) (c : Nat) (xs : List S48), v = .slice A xs.length c ∧ xs.length ≤ c ∧ Kd.C k48 w A xs.length xs ∧ ∀ p ∈ xs, True := by
  rcases open_slice_fields Try.underlying27 Try.underlying48 (by kernel_rfl) (by kernel_rfl) h with ⟨h0, _⟩ | ⟨a, len, cap, m, D, Pl, hcs, hb, hl, hc, hm, hx, hf⟩
  · injection h0 with h0
    subst h0
    exact ⟨none, 0, [], rfl, Nat.le_refl _, C_nil _ _, fun p hp => by cases hp⟩
  · injection hcs with hcs
    have hml : len ≤ m := by rw [hm]; split <;> omega
    obtain ⟨xs, e, hC, hq⟩ := C_build (d := k48) (w := w) (a := a) (n := len) (Q := fun p => True) (Nat.le_trans hl hc) (fun i hi => by
      obtain ⟨ys, n', _, _, _, hfd⟩ := hf i (by omega)
      obtain ⟨v0, y0, hc0, _, ht0⟩ := hfd 0 _ rfl
      obtain ⟨x0, e0, _, hq0⟩ := DataW.trod_int Try.underlying3 ht0
      injection e0 with e0
      subst e0
      obtain ⟨v1, y1, hc1, _, ht1⟩ := hfd 1 _ rfl
      obtain ⟨x1, e1, _, hq1⟩ := DataW.trod_int Try.underlying3 ht1
      injection e1 with e1
      subst e1
      obtain ⟨v2, y2, hc2, _, ht2⟩ := hfd 2 _ rfl
      obtain ⟨x2, e2, _, hq2⟩ := DataW.trod_int Try.underlying3 ht2
      injection e2 with e2
      subst e2
      obtain ⟨v3, y3, hc3, _, ht3⟩ := hfd 3 _ rfl
      obtain ⟨x3, e3, _, hq3⟩ := DataW.trod_int Try.underlying3 ht3
      injection e3 with e3
      subst e3
      obtain ⟨v4, y4, hc4, _, ht4⟩ := hfd 4 _ rfl
      obtain ⟨x4, e4, _, hq4⟩ := DataW.trod_int Try.underlying3 ht4
      injection e4 with e4
      subst e4
      obtain ⟨v5, y5, hc5, _, ht5⟩ := hfd 5 _ rfl
      obtain ⟨x5, e5, _, hq5⟩ := DataW.trod_int Try.underlying3 ht5
      injection e5 with e5
      subst e5
      refine ⟨⟨x0, x1, x2, x3, x4, x5⟩, [.int .i64 x0, .int .i64 x1, .int .i64 x2, .int .i64 x3, .int .i64 x4, .int .i64 x5], rfl, k48_mk _ _, fun j u hj => ?_, trivial⟩
      match j, hj with
      | 0, hj => injection hj with hj; subst hj; exact hc0
      | 1, hj => injection hj with hj; subst hj; exact hc1
      | 2, hj => injection hj with hj; subst hj; exact hc2
      | 3, hj => injection hj with hj; subst hj; exact hc3
      | 4, hj => injection hj with hj; subst hj; exact hc4
      | 5, hj => injection hj with hj; subst hj; exact hc5
      | j + 6, hj => cases hj)
    subst e
    exact ⟨some a, cap, xs, hcs, hl, hC, hq⟩
theorem getD_size {α : Type} {P : α → Prop} {xs : List α} {z : α} (hz : P z) (h : ∀ p ∈ xs, P p) (j : Nat) : P (xs.getD j z) := by
  rw [List.getD_eq_getElem?_getD]
  cases hj : xs[j]? with
  | none => exact hz
  | some p => exact h p (List.mem_of_getElem? hj)
end Go.Proofs.Ytogcgcjhoebooaa
end
section
namespace Go.Proofs.Ytogcgcjhoebooaa.veneerNoneNeeded
open Go.ChangeShapes Go.WideShapes Go.ChangeAt Go.RowKit Go.Joins Go.Deep Go.Proofs.Ytogcgcjhoebooaa.PVeneerMatchesSpec
open Go.ChangeMaps (open_string shut_string)
set_option linter.unusedVariables false
theorem own : ownKnob Try.prog.godebug = none := by kernel_rfl
theorem laidOut : laidOutB Try.prog = true := by kernel_rfl
set_option maxRecDepth 100000 in
theorem lifted (os : Os) (started : os.Started) (H : Type) (enc : TypeId × Value → H) :
    ReturnsInHanded {} Try.checked os 5 .any (Rows.veneerNoneNeededSpec.pre6 enc Try.prog Try.f5 Rows.veneerNoneNeededRow.domain false) (Rows.veneerNoneNeededSpec.post enc Try.prog Try.f5 false true false false) := by
  refine returnsInHanded_of_change_sized (C := Try.checked) own started (by kernel_rfl) Try.func5
    (ChangeSpec.witness6 (enc := enc) (C := Try.checked) false ⟨#[], #[.agg #[.slice none 0 0, .slice none 0 0], .slice none 0 0, .slice none 0 0], []⟩ 8 (by kernel_rfl) (by kernel_rfl) (by kernel_rfl) (by kernel_rfl)) ?_
  intro W base args ds gs before hval0 hW hcnd hsz0 _
  have hval : ∀ (j : Nat) t v, Try.f5.params[j]? = some t → args[j]? = some v → Value.okWide Try.prog W .any base t v := hval0
  have hW' := hW
  obtain ⟨p, q, hA0, hV, rfl, hfz, hnd⟩ := hW
  have hA : DataW.TrodAll enc Try.prog W 0 (fun _ => true) true Try.f5.params.toList args.toList ds p := hA0
  rw [Try.params5] at hA hval
  obtain ⟨v0, vs0, d0, ds0, p0, q0, hargs, rfl, rfl, h0, r0⟩ := trodAll_cons hA
  obtain ⟨v1, vs1, d1, ds1, p1, q1, rfl, rfl, rfl, h1, r1⟩ := trodAll_cons r0
  obtain ⟨v2, vs2, d2, ds2, p2, q2, rfl, rfl, rfl, h2, r2⟩ := trodAll_cons r1
  obtain ⟨rfl, rfl, rfl⟩ := trodAll_nil r2
  obtain rfl : args = #[v0, v1, v2] := by cases args; simp_all
  obtain ⟨rfl, rfl⟩ := trodVars_none hV
  have k0 := h0
  have k1 := h1
  have k2 := h2
  have lt0 : ∀ x ∈ p0, x.block < W.heap.size := by obtain ⟨m, hm⟩ := k0; exact DataW.trod_lt m _ _ _ hm
  have lt1 : ∀ x ∈ p1, x.block < W.heap.size := by obtain ⟨m, hm⟩ := k1; exact DataW.trod_lt m _ _ _ hm
  have lt2 : ∀ x ∈ p2, x.block < W.heap.size := by obtain ⟨m, hm⟩ := k2; exact DataW.trod_lt m _ _ _ hm
  obtain ⟨u0, u1, y0, y1, n0, rfl, _, _, t0, t1⟩ := open_agg2 Try.underlying25 (by kernel_rfl) (by kernel_rfl) (hval 0 25 v0 rfl rfl) h0
  obtain ⟨B0, c0, xs0, rfl, hc0, hC0, hz0⟩ := in72 t0
  obtain ⟨B1, c1, xs1, rfl, hc1, hC1, hz1⟩ := in76 t1
  obtain ⟨a1, len1, cap1, rfl⟩ := okWide_slice Try.underlying26 (hval 1 26 v1 rfl rfl)
  obtain ⟨a2, len2, cap2, rfl⟩ := okWide_slice Try.underlying27 (hval 2 27 v2 rfl rfl)
  obtain ⟨m1, h1⟩ := h1
  obtain ⟨m2, h2⟩ := h2
  obtain ⟨B2, c2, xs2, e2, hc2, hC2, _⟩ := in57 h1
  obtain ⟨B3, c3, xs3, e3, hc3, hC3, _⟩ := in48 h2
  cases e2
  cases e3
  clear hA0 hval0 hsz0
  refine (noneNeeded_calls hC0 hc0 hC1 hc1 hC2 hc2 hC3 hc3 (fun j => getD_size (P := fun p : S72 => p.f0.size ≤ 9223372036854775807) (by decide) hz0 j) (fun j => getD_size (P := fun p : S76 => p.f0.size ≤ 9223372036854775807) (by decide) hz1 j)).mono fun e W' ⟨he, bel⟩ => ?_
  subst he
  exact ⟨_, rfl, _, _, _, [], _, [], hW', trodAll_mk1 (shut_bool Try.underlying4 _), (trodAll_cons_mk (Below.trod laidOut (by kernel_rfl) (of_decide_eq_true (by kernel_rfl)) k0 bel lt0) (trodAll_cons_mk (Below.trod laidOut (by kernel_rfl) (of_decide_eq_true (by kernel_rfl)) k1 bel lt1) (trodAll_cons_mk (Below.trod laidOut (by kernel_rfl) (of_decide_eq_true (by kernel_rfl)) k2 bel lt2) trodAll_mk0))), rfl, bel.frame _, fun h => by cases h⟩
theorem over : Rows.veneerNoneNeededRow.holds Try.pinned (OpenSpec.ofChange Rows.veneerNoneNeededSpec) :=
  OpenClaim.holds_of_wide 5 Try.f5 rfl rfl rfl rfl rfl rfl rfl ⟨rfl, rfl, rfl, rfl, rfl⟩ rfl rfl rfl rfl rfl (by kernel_rfl) Try.func5 (by kernel_rfl)
    (of_decide_eq_true (by kernel_rfl)) (by unfold Func.isWrapper; first | (rw [if_pos (by decide +kernel)]; kernel_rfl) | (rw [if_neg (by decide +kernel)]; exact ⟨rfl, rfl⟩))
    (fun os started H enc _ => lifted os started H enc)
theorem proved : Rows.VeneerNoneNeededSaid := over
#print axioms proved
end Go.Proofs.Ytogcgcjhoebooaa.veneerNoneNeeded
namespace Go.Proofs.Ytogcgcjhoebooaa
/-- The row, under a short name, for the claim. -/
theorem veneerNoneNeeded_holds : Rows.VeneerNoneNeededSaid := veneerNoneNeeded.proved
end Go.Proofs.Ytogcgcjhoebooaa
end

/- The law VeneerMatchesSpec: for every script, list of items and list of branches the law returns true, and the arguments read as before. No conditions. (Part 5 of 6 of the proof. Lines of the texts that print.sh printed for this seat are among it, cut to what is used.) -/
import Derived.Test.YtogcgcjhoebooaaD4
section
set_option linter.unusedVariables false
set_option linter.unusedSimpArgs false
namespace Go.Proofs.Ytogcgcjhoebooaa.PVeneerMatchesSpec
open Go.RowKit Go.Proofs.YtogcgcjhoebooaaW.PrintWords Go.Proofs.YtogcgcjhoebooaaW.PrintLast Go.Proofs.YtogcgcjhoebooaaW.PrintMore
mutual
def linkhouseref4_BranchCode.j0 : Nat → List (S57) → Bool → Int → Int → Int → Int → Int → Int → Option (Int)
 | 0, _, _, _, _, _, _, _, _ => none
 | k + 1, x0, x13, x167000, x167001, x167002, x167003, x167004, x167005 => if x13 = true then (some 4) else ((linkhouseref4_In.f x167000 0 (wrap64 ((x0.length : Int) - 1))).bind fun t167 => (if t167 = true then ((linkhouseref4_In.f x167004 (-1) (wrap64 ((x0.length : Int) - 1))).bind fun t168 => (if t168 = true then (if 0 ≤ x167000 then (if x167000 < (x0.length : Int) then ((linkhouseref3_Width.f k x167002).bind fun t170 => ((linkhouseref4_In.f x167001 0 (wrap64 (((rd_T57 x0 x167000).f1) - t170))).bind fun t171 => (if t171 = true then ((linkhouseref4_In.f x167003 (-1048576) 1048576).bind fun t172 => (linkhouseref4_BranchCode.j1 k x0 (!t172) x167000 x167001 x167002 x167003 x167004 x167005)) else (linkhouseref4_BranchCode.j1 k x0 true x167000 x167001 x167002 x167003 x167004 x167005)))) else (none)) else (none)) else (linkhouseref4_BranchCode.j1 k x0 true x167000 x167001 x167002 x167003 x167004 x167005))) else (linkhouseref4_BranchCode.j1 k x0 true x167000 x167001 x167002 x167003 x167004 x167005)))
def linkhouseref4_BranchCode.j1 : Nat → List (S57) → Bool → Int → Int → Int → Int → Int → Int → Option (Int)
 | 0, _, _, _, _, _, _, _, _ => none
 | k + 1, x0, x51, x167000, x167001, x167002, x167003, x167004, x167005 => if x51 = true then (some 3) else (if x167004 ≥ 0 then (if 0 ≤ x167004 then (if x167004 < (x0.length : Int) then ((linkhouseref4_In.f x167005 0 ((rd_T57 x0 x167004).f1)).bind fun t174 => (if t174 = true then (some 0) else (some 3))) else (none)) else (none)) else ((linkhouseref4_In.f x167005 0 4294967295).bind fun t175 => (if t175 = true then (some 0) else (some 3))))
end
def linkhouseref4_BranchCode.f (k : Nat) (l0 : List (S57)) (a1_0 : Int) (a1_1 : Int) (a1_2 : Int) (a1_3 : Int) (a1_4 : Int) (a1_5 : Int) : Option (Int) := if a1_2 = 2 then (linkhouseref4_BranchCode.j0 k l0 false a1_0 a1_1 a1_2 a1_3 a1_4 a1_5) else (linkhouseref4_BranchCode.j0 k l0 (a1_2 != 3) a1_0 a1_1 a1_2 a1_3 a1_4 a1_5)
theorem linkhouseref4_BranchCode.mono_l : ∀ k, (∀ y0 y1 y2 y3 y4 y5 y6 y7, LeO (linkhouseref4_BranchCode.j0 k y0 y1 y2 y3 y4 y5 y6 y7) (linkhouseref4_BranchCode.j0 (k + 1) y0 y1 y2 y3 y4 y5 y6 y7)) ∧ (∀ y0 y1 y2 y3 y4 y5 y6 y7, LeO (linkhouseref4_BranchCode.j1 k y0 y1 y2 y3 y4 y5 y6 y7) (linkhouseref4_BranchCode.j1 (k + 1) y0 y1 y2 y3 y4 y5 y6 y7))
 | 0 => ⟨fun _ _ _ _ _ _ _ _ r h => by simp [linkhouseref4_BranchCode.j0] at h, fun _ _ _ _ _ _ _ _ r h => by simp [linkhouseref4_BranchCode.j1] at h⟩
 | k + 1 => by
  obtain ⟨ih0, ih1⟩ := linkhouseref4_BranchCode.mono_l k
  refine ⟨?_, ?_⟩
  ·intro y0 y1 y2 y3 y4 y5 y6 y7
   unfold linkhouseref4_BranchCode.j0
   repeat' first
   | (with_reducible exact ih0 _ _ _ _ _ _ _ _)
   | (with_reducible exact ih1 _ _ _ _ _ _ _ _)
   | (with_reducible exact linkhouseref3_Width.mono _ _)
   | (with_reducible exact LeO.refl _)
   | (with_reducible exact LeO.none _)
   | (with_reducible refine LeO.ite ?_ ?_)
   | (with_reducible refine LeO.bind ?_ (fun _ => ?_))
   | exact ih0 _ _ _ _ _ _ _ _
   | exact ih1 _ _ _ _ _ _ _ _
   | exact linkhouseref3_Width.mono _ _
   | exact LeO.none _
   | refine LeO.ite ?_ ?_
   | refine LeO.bind ?_ (fun _ => ?_)
  ·intro y0 y1 y2 y3 y4 y5 y6 y7
   unfold linkhouseref4_BranchCode.j1
   repeat' first
   | (with_reducible exact ih0 _ _ _ _ _ _ _ _)
   | (with_reducible exact ih1 _ _ _ _ _ _ _ _)
   | (with_reducible exact linkhouseref3_Width.mono _ _)
   | (with_reducible exact LeO.refl _)
   | (with_reducible exact LeO.none _)
   | (with_reducible refine LeO.ite ?_ ?_)
   | (with_reducible refine LeO.bind ?_ (fun _ => ?_))
   | exact ih0 _ _ _ _ _ _ _ _
   | exact ih1 _ _ _ _ _ _ _ _
   | exact linkhouseref3_Width.mono _ _
   | exact LeO.none _
   | refine LeO.ite ?_ ?_
   | refine LeO.bind ?_ (fun _ => ?_)
theorem linkhouseref4_BranchCode.mono : ∀ a0 a1 a2 a3 a4 a5 a6 k, LeO (linkhouseref4_BranchCode.f k a0 a1 a2 a3 a4 a5 a6) (linkhouseref4_BranchCode.f (k + 1) a0 a1 a2 a3 a4 a5 a6) := by
 intro a0 a1 a2 a3 a4 a5 a6 k
 obtain ⟨ih0, ih1⟩ := linkhouseref4_BranchCode.mono_l k
 unfold linkhouseref4_BranchCode.f
 repeat' first
   | (with_reducible exact ih0 _ _ _ _ _ _ _ _)
   | (with_reducible exact ih1 _ _ _ _ _ _ _ _)
   | (with_reducible exact linkhouseref3_Width.mono _ _)
   | (with_reducible exact LeO.refl _)
   | (with_reducible exact LeO.none _)
   | (with_reducible refine LeO.ite ?_ ?_)
   | (with_reducible refine LeO.bind ?_ (fun _ => ?_))
   | exact ih0 _ _ _ _ _ _ _ _
   | exact ih1 _ _ _ _ _ _ _ _
   | exact linkhouseref3_Width.mono _ _
   | exact LeO.none _
   | refine LeO.ite ?_ ?_
   | refine LeO.bind ?_ (fun _ => ?_)
def linkhouseref4_BranchCode.T3 : Bool × List (List Nat × List Nat) := (true, [([], []), ([0], [0]), ([], []), ([2], [2]), ([3], [3]), ([1, 4], [1, 4]), ([5], [5]), ([6, 5], [6]), ([7], [7]), ([8, 7], [7, 8]), ([7], [7]), ([10, 7], [7, 10]), ([11, 7], [7, 11]), ([9, 12, 7, 7], [7, 9, 12]), ([13, 7], [7, 13]), ([7, 14], [7, 14]), ([15, 13], [15]), ([16], [16]), ([17, 16], [16, 17]), ([16], [16]), ([16], [16]), ([20, 16], [16, 20]), ([19, 21, 16], [16, 19, 21]), ([22, 16], [16, 22]), ([23, 16], [16, 23]), ([16], [16]), ([25, 16], [16, 25]), ([26, 16, 16], [16, 26]), ([24, 27, 16], [16, 24, 27]), ([18, 28, 27, 16], [16, 18, 28]), ([29, 16], [16, 29]), ([16, 30], [16, 30]), ([31, 29], [31]), ([32], [32]), ([33, 32], [32, 33]), ([34, 32, 32], [32, 34]), ([35, 32], [32, 35]), ([32, 36], [32, 36])])
def linkhouseref4_BranchCode.B3 : List Nat := [0, 1, 0, 4, 12, 31, 63, 127, 255, 511, 255, 1279, 3327, 8191, 16383, 32767, 65535, 131071, 262143, 131071, 131071, 1179647, 3801087, 7995391, 16383999, 131071, 33685503, 100794367, 268042239, 536870911, 1073741823, 2147483647, 4294967295, 8589934591, 17179869183, 34359738367, 68719476735, 137438953471]
theorem linkhouseref4_BranchCode.tab3 : rtab .any (opsOf Try.f22 3) = linkhouseref4_BranchCode.T3 := by kernel_rfl
theorem linkhouseref4_BranchCode.bits3 : waitsOk linkhouseref4_BranchCode.T3.2 linkhouseref4_BranchCode.B3 = true := by kernel_rfl
set_option maxHeartbeats 8000000 in
set_option maxRecDepth 100000 in
theorem linkhouseref4_BranchCode.calls (k : Nat) (A0 : Option Addr) (c0 : Nat) (l0 : List (S57)) (a1_0 : Int) (a1_1 : Int) (a1_2 : Int) (a1_3 : Int) (a1_4 : Int) (a1_5 : Int) (r : Int) (w : World) (hr0 : Kd.C k57 w A0 l0.length l0) (hc0 : l0.length ≤ c0) (h : linkhouseref4_BranchCode.f k l0 a1_0 a1_1 a1_2 a1_3 a1_4 a1_5 = some r) :
  Calls Try.prog 22 #[.slice A0 l0.length c0, .agg #[.int .i64 a1_0, .int .i64 a1_1, .int .i64 a1_2, .int .i64 a1_3, .int .i64 a1_4, .int .i64 a1_5]] w fun e w' => e = .returned (.int .i64 r) ∧ Below w.heap.size w w' := by
 have hu48 := Try.underlying48
 have HR0 := Aside0.mk hr0
 have HC0 := Aside0.mk hc0
 clear hr0 hc0
 have HB := Aside0.mk (Below.refl w.heap.size w)
 have H : (if a1_2 = 2 then (linkhouseref4_BranchCode.j0 k l0 false a1_0 a1_1 a1_2 a1_3 a1_4 a1_5) else (linkhouseref4_BranchCode.j0 k l0 (a1_2 != 3) a1_0 a1_1 a1_2 a1_3 a1_4 a1_5)) = some r := h
 clear h
 have HC3 := Aside0.mk H
 clear H
 go_enter Try.func22, Try.ntmps22
 go_upto_region 1 with (first | ((with_reducible refine gate_dst (N := 3) rfl ?_); (try (refine gate_guard (by rfl) ?_; dsimp only)); refine box_event ?hg (N := 3) ?hd (cs := #[.int .i64 a1_0, .int .i64 a1_1, .int .i64 a1_2, .int .i64 a1_3, .int .i64 a1_4, .int .i64 a1_5]) (t := 48) ?hr ?_; (case hd => rfl); (case hg => rfl); (case hr => first | (go_simp; done) | (go_simp; rfl)); intro gb166 hg w4 hbox hb; have n0_ := Aside0.mk (below_step (by repeat (first | (with_reducible first | exact HB.out | apply below_alloc | apply pw_below_drewN | apply below_drew1) | exact HB.out)) hb); have n1_ := Aside0.mk (hbox); have n2_ := Aside0.mk ((by rw [hg]; exact (below_size (by repeat (first | (with_reducible first | exact HB.out | apply below_alloc | apply pw_below_drewN | apply below_drew1) | exact HB.out))) : w.heap.size ≤ gb166)); have n3_ := Aside0.mk ((by rw [hg]; exact (below_size (by repeat (first | (with_reducible first | exact HB.out | apply below_alloc | apply pw_below_drewN | apply below_drew1) | exact HB.out))) : w.heap.size ≤ gb166)); clear HB; have HB := n0_; have BK166 := n1_; have GW166 := n2_; have GE166 := n3_; clear n0_ n1_ n2_ n3_; clear hb hbox hg))
 (try simp only [Act.put, List.setIfInBounds_toArray, List.set_cons_zero, List.set_cons_succ])
 go_cut [13] (fun v13 wc => ∃ (kq : Nat) (x13_2 : Bool), v13 = .bool x13_2 ∧ Aside0 (linkhouseref4_BranchCode.j0 kq l0 x13_2 a1_0 a1_1 a1_2 a1_3 a1_4 a1_5 = some r) ∧ Aside0 (kq ≤ k) ∧ Aside0 (wc.heap[gb166]? = some (.cells #[.int .i64 a1_0, .int .i64 a1_1, .int .i64 a1_2, .int .i64 a1_3, .int .i64 a1_4, .int .i64 a1_5] 48 (0, 0))) ∧ Aside0 (Below w.heap.size w wc))
 case first =>
  have H := HC3.out
  clear HC3
  by_cases c5 : a1_2 = 2
  ·rw [if_pos c5] at H
   have c5b0 : (a1_2 == 2) = true := beq_iff_eq.mpr c5
   have c5b1 : (a1_2 != 2) = false := bne_eq_false_iff_eq.mpr c5
   clear c5
   (first | rw [c5b0] | (simp only [i64_w, i32_w]; rw [c5b0]) | skip)
   have H' := Aside0.mk H
   clear H
   have hcz6_0 : w4.cell? ⟨gb166, 0, none⟩ = some (.int .i64 a1_0) := (blk_cell BK166.out 0).trans rfl
   have hcz6_1 : w4.cell? ⟨gb166, 1, none⟩ = some (.int .i64 a1_1) := (blk_cell BK166.out 1).trans rfl
   have hcz6_2 : w4.cell? ⟨gb166, 2, none⟩ = some (.int .i64 a1_2) := (blk_cell BK166.out 2).trans rfl
   have hcz6_3 : w4.cell? ⟨gb166, 3, none⟩ = some (.int .i64 a1_3) := (blk_cell BK166.out 3).trans rfl
   have hcz6_4 : w4.cell? ⟨gb166, 4, none⟩ = some (.int .i64 a1_4) := (blk_cell BK166.out 4).trans rfl
   have hcz6_5 : w4.cell? ⟨gb166, 5, none⟩ = some (.int .i64 a1_5) := (blk_cell BK166.out 5).trans rfl
   have hfz6_0 := blk_frozen BK166.out 0
   have hfz6_1 := blk_frozen BK166.out 1
   have hfz6_2 := blk_frozen BK166.out 2
   have hfz6_3 := blk_frozen BK166.out 3
   have hfz6_4 := blk_frozen BK166.out 4
   have hfz6_5 := blk_frozen BK166.out 5
   go_wp2
   go_meet
   case rel => exact ⟨_, (false), (by first | rfl | (simp; done) | (simp [*]; done)), H', ⟨by first | omega | exact Nat.le_refl _⟩, ⟨by (with_reducible repeat (first | refine blk_drewN ?_ _ | refine blk_drew ?_ | refine blk_alloc ?_ _)); exact BK166.out⟩, ⟨by repeat (first | (with_reducible first | exact HB.out | apply below_alloc | apply pw_below_drewN | apply below_drew1 | refine below_set ?_ GE166.out) | exact HB.out)⟩⟩
  ·rw [if_neg c5] at H
   have c5b0 : (a1_2 == 2) = false := beq_eq_false_iff_ne.mpr c5
   have c5b1 : (a1_2 != 2) = true := bne_iff_ne.mpr c5
   (first | rw [c5b0] | (simp only [i64_w, i32_w]; rw [c5b0]) | skip)
   have H' := Aside0.mk H
   clear H
   have hcz7_0 : w4.cell? ⟨gb166, 0, none⟩ = some (.int .i64 a1_0) := (blk_cell BK166.out 0).trans rfl
   have hcz7_1 : w4.cell? ⟨gb166, 1, none⟩ = some (.int .i64 a1_1) := (blk_cell BK166.out 1).trans rfl
   have hcz7_2 : w4.cell? ⟨gb166, 2, none⟩ = some (.int .i64 a1_2) := (blk_cell BK166.out 2).trans rfl
   have hcz7_3 : w4.cell? ⟨gb166, 3, none⟩ = some (.int .i64 a1_3) := (blk_cell BK166.out 3).trans rfl
   have hcz7_4 : w4.cell? ⟨gb166, 4, none⟩ = some (.int .i64 a1_4) := (blk_cell BK166.out 4).trans rfl
   have hcz7_5 : w4.cell? ⟨gb166, 5, none⟩ = some (.int .i64 a1_5) := (blk_cell BK166.out 5).trans rfl
   have hfz7_0 := blk_frozen BK166.out 0
   have hfz7_1 := blk_frozen BK166.out 1
   have hfz7_2 := blk_frozen BK166.out 2
   have hfz7_3 := blk_frozen BK166.out 3
   have hfz7_4 := blk_frozen BK166.out 4
   have hfz7_5 := blk_frozen BK166.out 5
   go_wp2
   go_meet
   case rel => exact ⟨_, ((a1_2 != 3)), (by first | rfl | (simp; done) | (simp [*]; done)), H', ⟨by first | omega | exact Nat.le_refl _⟩, ⟨by (with_reducible repeat (first | refine blk_drewN ?_ _ | refine blk_drew ?_ | refine blk_alloc ?_ _)); exact BK166.out⟩, ⟨by repeat (first | (with_reducible first | exact HB.out | apply below_alloc | apply pw_below_drewN | apply below_drew1 | refine below_set ?_ GE166.out) | exact HB.out)⟩⟩
 case rest =>
  clear HC3
  try clear c2
  try clear p2
  try clear c5
  try clear c5b0
  try clear c5b1
  try clear hcz6_0
  try clear hcz6_1
  try clear hcz6_2
  try clear hcz6_3
  try clear hcz6_4
  try clear hcz6_5
  try clear hcz7_0
  try clear hcz7_1
  try clear hcz7_2
  try clear hcz7_3
  try clear hcz7_4
  try clear hcz7_5
  try clear hfz6_0
  try clear hfz6_1
  try clear hfz6_2
  try clear hfz6_3
  try clear hfz6_4
  try clear hfz6_5
  try clear hfz7_0
  try clear hfz7_1
  try clear hfz7_2
  try clear hfz7_3
  try clear hfz7_4
  try clear hfz7_5
  obtain ⟨kq, x13_2, rfl, HA, HJ2, BK166, HB⟩ := hcut
  cases kq with
  | zero => exact absurd HA.out (by simp [linkhouseref4_BranchCode.j0])
  | succ kj2 =>
   have H := HA.out
   clear HA
   simp only [linkhouseref4_BranchCode.j0] at H
   by_cases c8 : x13_2 = true
   ·subst c8
    have H1 : (some 4) = some r := by rw [if_pos rfl] at H; exact H
    clear H
    have H := H1
    clear H1
    obtain rfl := Option.some.inj H
    go_wp2
    go_ret
    exact ⟨by first | rfl | (simp [errW_none, errW_some] <;> rfl) | (simp [*, errW_none, errW_some] <;> rfl), by repeat (first | (with_reducible first | exact HB.out | apply below_alloc | apply pw_below_drewN | apply below_drew1 | refine below_set ?_ GE166.out) | exact HB.out)⟩
   ·replace c8 := Bool.eq_false_iff.mpr c8
    subst c8
    have H1 : ((linkhouseref4_In.f a1_0 0 (wrap64 ((l0.length : Int) - 1))).bind fun t167 => (if t167 = true then ((linkhouseref4_In.f a1_4 (-1) (wrap64 ((l0.length : Int) - 1))).bind fun t168 => (if t168 = true then (if 0 ≤ a1_0 then (if a1_0 < (l0.length : Int) then ((linkhouseref3_Width.f kj2 a1_2).bind fun t170 => ((linkhouseref4_In.f a1_1 0 (wrap64 (((rd_T57 l0 a1_0).f1) - t170))).bind fun t171 => (if t171 = true then ((linkhouseref4_In.f a1_3 (-1048576) 1048576).bind fun t172 => (linkhouseref4_BranchCode.j1 kj2 l0 (!t172) a1_0 a1_1 a1_2 a1_3 a1_4 a1_5)) else (linkhouseref4_BranchCode.j1 kj2 l0 true a1_0 a1_1 a1_2 a1_3 a1_4 a1_5)))) else (none)) else (none)) else (linkhouseref4_BranchCode.j1 kj2 l0 true a1_0 a1_1 a1_2 a1_3 a1_4 a1_5))) else (linkhouseref4_BranchCode.j1 kj2 l0 true a1_0 a1_1 a1_2 a1_3 a1_4 a1_5))) = some r := by rw [if_neg (show ¬ (false = true) by decide)] at H; exact H
    clear H
    have H := H1
    clear H1
    have HC9 := Aside0.mk H
    clear H
    go_upto_region 3 with (fail)
    go_cut [51] (fun v51 wc => ∃ (kq : Nat) (x51_8 : Bool), v51 = .bool x51_8 ∧ Aside0 (linkhouseref4_BranchCode.j1 kq l0 x51_8 a1_0 a1_1 a1_2 a1_3 a1_4 a1_5 = some r) ∧ Aside0 (kq ≤ kj2) ∧ Aside0 (wc.heap[gb166]? = some (.cells #[.int .i64 a1_0, .int .i64 a1_1, .int .i64 a1_2, .int .i64 a1_3, .int .i64 a1_4, .int .i64 a1_5] 48 (0, 0))) ∧ Aside0 (Below w.heap.size w wc))
    case first =>
     have H := HC9.out
     clear HC9
     replace H := Option.bind_eq_some_iff.mp H
     obtain ⟨t167, A100, H⟩ := H
     replace H : (if t167 = true then ((linkhouseref4_In.f a1_4 (-1) (wrap64 ((l0.length : Int) - 1))).bind fun t168 => (if t168 = true then (if 0 ≤ a1_0 then (if a1_0 < (l0.length : Int) then ((linkhouseref3_Width.f kj2 a1_2).bind fun t170 => ((linkhouseref4_In.f a1_1 0 (wrap64 (((rd_T57 l0 a1_0).f1) - t170))).bind fun t171 => (if t171 = true then ((linkhouseref4_In.f a1_3 (-1048576) 1048576).bind fun t172 => (linkhouseref4_BranchCode.j1 kj2 l0 (!t172) a1_0 a1_1 a1_2 a1_3 a1_4 a1_5)) else (linkhouseref4_BranchCode.j1 kj2 l0 true a1_0 a1_1 a1_2 a1_3 a1_4 a1_5)))) else (none)) else (none)) else (linkhouseref4_BranchCode.j1 kj2 l0 true a1_0 a1_1 a1_2 a1_3 a1_4 a1_5))) else (linkhouseref4_BranchCode.j1 kj2 l0 true a1_0 a1_1 a1_2 a1_3 a1_4 a1_5)) = some r := H
     have A10 := Aside0.mk A100
     clear A100
     by_cases c11 : t167 = true
     ·subst c11
      have H1 : ((linkhouseref4_In.f a1_4 (-1) (wrap64 ((l0.length : Int) - 1))).bind fun t168 => (if t168 = true then (if 0 ≤ a1_0 then (if a1_0 < (l0.length : Int) then ((linkhouseref3_Width.f kj2 a1_2).bind fun t170 => ((linkhouseref4_In.f a1_1 0 (wrap64 (((rd_T57 l0 a1_0).f1) - t170))).bind fun t171 => (if t171 = true then ((linkhouseref4_In.f a1_3 (-1048576) 1048576).bind fun t172 => (linkhouseref4_BranchCode.j1 kj2 l0 (!t172) a1_0 a1_1 a1_2 a1_3 a1_4 a1_5)) else (linkhouseref4_BranchCode.j1 kj2 l0 true a1_0 a1_1 a1_2 a1_3 a1_4 a1_5)))) else (none)) else (none)) else (linkhouseref4_BranchCode.j1 kj2 l0 true a1_0 a1_1 a1_2 a1_3 a1_4 a1_5))) = some r := by rw [if_pos rfl] at H; exact H
      clear H
      have H := H1
      clear H1
      replace H := Option.bind_eq_some_iff.mp H
      obtain ⟨t168, A120, H⟩ := H
      replace H : (if t168 = true then (if 0 ≤ a1_0 then (if a1_0 < (l0.length : Int) then ((linkhouseref3_Width.f kj2 a1_2).bind fun t170 => ((linkhouseref4_In.f a1_1 0 (wrap64 (((rd_T57 l0 a1_0).f1) - t170))).bind fun t171 => (if t171 = true then ((linkhouseref4_In.f a1_3 (-1048576) 1048576).bind fun t172 => (linkhouseref4_BranchCode.j1 kj2 l0 (!t172) a1_0 a1_1 a1_2 a1_3 a1_4 a1_5)) else (linkhouseref4_BranchCode.j1 kj2 l0 true a1_0 a1_1 a1_2 a1_3 a1_4 a1_5)))) else (none)) else (none)) else (linkhouseref4_BranchCode.j1 kj2 l0 true a1_0 a1_1 a1_2 a1_3 a1_4 a1_5)) = some r := H
      have A12 := Aside0.mk A120
      clear A120
      by_cases c13 : t168 = true
      ·subst c13
       have H1 : (if 0 ≤ a1_0 then (if a1_0 < (l0.length : Int) then ((linkhouseref3_Width.f kj2 a1_2).bind fun t170 => ((linkhouseref4_In.f a1_1 0 (wrap64 (((rd_T57 l0 a1_0).f1) - t170))).bind fun t171 => (if t171 = true then ((linkhouseref4_In.f a1_3 (-1048576) 1048576).bind fun t172 => (linkhouseref4_BranchCode.j1 kj2 l0 (!t172) a1_0 a1_1 a1_2 a1_3 a1_4 a1_5)) else (linkhouseref4_BranchCode.j1 kj2 l0 true a1_0 a1_1 a1_2 a1_3 a1_4 a1_5)))) else (none)) else (none)) = some r := by rw [if_pos rfl] at H; exact H
       clear H
       have H := H1
       clear H1
       by_cases c14 : 0 ≤ a1_0
       ·rw [if_pos c14] at H
        have c14b0 : decide (0 ≤ a1_0) = true := decide_eq_true c14
        clear c14
        (first | rw [c14b0] | (simp only [i64_w, i32_w]; rw [c14b0]) | skip)
        by_cases c15 : a1_0 < (l0.length : Int)
        ·rw [if_pos c15] at H
         have c15b0 : decide (a1_0 < (l0.length : Int)) = true := decide_eq_true c15
         clear c15
         replace H := Option.bind_eq_some_iff.mp H
         obtain ⟨t170, A160, H⟩ := H
         replace H : ((linkhouseref4_In.f a1_1 0 (wrap64 (((rd_T57 l0 a1_0).f1) - t170))).bind fun t171 => (if t171 = true then ((linkhouseref4_In.f a1_3 (-1048576) 1048576).bind fun t172 => (linkhouseref4_BranchCode.j1 kj2 l0 (!t172) a1_0 a1_1 a1_2 a1_3 a1_4 a1_5)) else (linkhouseref4_BranchCode.j1 kj2 l0 true a1_0 a1_1 a1_2 a1_3 a1_4 a1_5))) = some r := H
         have A16 := Aside0.mk A160
         clear A160
         replace H := Option.bind_eq_some_iff.mp H
         obtain ⟨t171, A170, H⟩ := H
         replace H : (if t171 = true then ((linkhouseref4_In.f a1_3 (-1048576) 1048576).bind fun t172 => (linkhouseref4_BranchCode.j1 kj2 l0 (!t172) a1_0 a1_1 a1_2 a1_3 a1_4 a1_5)) else (linkhouseref4_BranchCode.j1 kj2 l0 true a1_0 a1_1 a1_2 a1_3 a1_4 a1_5)) = some r := H
         have A17 := Aside0.mk A170
         clear A170
         by_cases c18 : t171 = true
         ·subst c18
          have H1 : ((linkhouseref4_In.f a1_3 (-1048576) 1048576).bind fun t172 => (linkhouseref4_BranchCode.j1 kj2 l0 (!t172) a1_0 a1_1 a1_2 a1_3 a1_4 a1_5)) = some r := by rw [if_pos rfl] at H; exact H
          clear H
          have H := H1
          clear H1
          replace H := Option.bind_eq_some_iff.mp H
          obtain ⟨t172, A190, H⟩ := H
          replace H : (linkhouseref4_BranchCode.j1 kj2 l0 (!t172) a1_0 a1_1 a1_2 a1_3 a1_4 a1_5) = some r := H
          have A19 := Aside0.mk A190
          clear A190
          have H' := Aside0.mk H
          clear H
          try go_wp2
          have n0_ := Aside0.mk (blk_drew BK166.out)
          have n1_ := Aside0.mk (below_drew1 HB.out)
          clear BK166
          clear HB
          have BK166 := n0_
          have HB := n1_
          clear n0_ n1_
          have p169 : 0 ≤ (a1_0 : Int) := of_decide_eq_true (by first | (with_reducible assumption) | assumption)
          have q169 : a1_0 < (l0.length : Int) := of_decide_eq_true (by first | (with_reducible assumption) | assumption)
          obtain ⟨ad169, e169, hx169_0, hx169_1, hx169_2⟩ := at_T57 HR0.out a1_0 p169 q169
          have hw169_2 := hx169_2
          have hw169_1 := hx169_1
          have hw169_0 := hx169_0
          cases e169
          replace hx169_0 := (HB.out.cell (World.block_lt_of_cell? w _ hx169_0)).trans hx169_0
          replace hx169_1 := (HB.out.cell (World.block_lt_of_cell? w _ hx169_1)).trans hx169_1
          replace hx169_2 := (HB.out.cell (World.block_lt_of_cell? w _ hx169_2)).trans hx169_2
          replace p169 := eq_true p169
          replace q169 := eq_true q169
          refine start_ (n := 38) (S := fun w' => w'.cell? ⟨gb166, 0, none⟩ = some (.int .i64 a1_0) ∧ w'.cell? ⟨gb166, 1, none⟩ = some (.int .i64 a1_1) ∧ w'.cell? ⟨gb166, 2, none⟩ = some (.int .i64 a1_2) ∧ w'.cell? ⟨gb166, 3, none⟩ = some (.int .i64 a1_3) ∧ w'.cell? ⟨gb166, 4, none⟩ = some (.int .i64 a1_4) ∧ w'.cell? ⟨gb166, 5, none⟩ = some (.int .i64 a1_5) ∧ w'.cell? (ad169.add ((a1_0).toNat * 3)) = some (.int .i64 ((rd_T57 l0 a1_0).f0)) ∧ w'.cell? ⟨(ad169.add ((a1_0).toNat * 3)).block, (ad169.add ((a1_0).toNat * 3)).off + 1, none⟩ = some (.int .i64 ((rd_T57 l0 a1_0).f1)) ∧ w'.cell? ⟨(ad169.add ((a1_0).toNat * 3)).block, (ad169.add ((a1_0).toNat * 3)).off + 2, none⟩ = some (.int .i64 ((rd_T57 l0 a1_0).f2))) (ds := []) #[false, false, false, false, false, false, false, false, false, false, false, false, false, false, false, false, false, false, false, false, false, false, false, false, false, false, false, false, false, false, false, false, false, false, false, false, false, false] (by kernel_rfl) rfl rfl ⟨(blk_cell BK166.out 0).trans rfl, (blk_cell BK166.out 1).trans rfl, (blk_cell BK166.out 2).trans rfl, (blk_cell BK166.out 3).trans rfl, (blk_cell BK166.out 4).trans rfl, (blk_cell BK166.out 5).trans rfl, ((HB.out.cell (World.block_lt_of_cell? w _ hw169_0)).trans hw169_0), ((HB.out.cell (World.block_lt_of_cell? w _ hw169_1)).trans hw169_1), ((HB.out.cell (World.block_lt_of_cell? w _ hw169_2)).trans hw169_2)⟩ (fun hHeld => ?_); refine with_tabW linkhouseref4_BranchCode.tab3 linkhouseref4_BranchCode.bits3 (fun HT_ HW_ => ?_)
          generalize wc.drew = w20 at BK166 HB hx169_0 hx169_1 hx169_2 hHeld ⊢
          refine pure_ (i := 0) (N := some 14) (v := ?_) (a' := ?_) #[true, false, false, false, false, false, false, false, false, false, false, false, false, false, false, false, false, false, false, false, false, false, false, false, false, false, false, false, false, false, false, false, false, false, false, false, false, false] rfl rfl (any_of HT_.out (by kernel_rfl)) (fun _ _ _ h => h) (Or.inl ⟨by rfl, ?_⟩) ?_ ?_
          rotate_left
          ·intro w'
           go_simp
           with_reducible rfl
          rotate_left
          ·simp only [Act.put, List.setIfInBounds_toArray, List.set_cons_zero, List.set_cons_succ, i64_w, i32_w]
           rfl
          refine pure_ (i := 2) (N := some 16) (v := ?_) (a' := ?_) #[true, false, true, false, false, false, false, false, false, false, false, false, false, false, false, false, false, false, false, false, false, false, false, false, false, false, false, false, false, false, false, false, false, false, false, false, false, false] rfl rfl (any_of HT_.out (by kernel_rfl)) (fun _ _ _ h => h) (Or.inl ⟨by rfl, ?_⟩) ?_ ?_
          rotate_left
          ·intro w'
           go_simp
           with_reducible rfl
          rotate_left
          ·simp only [Act.put, List.setIfInBounds_toArray, List.set_cons_zero, List.set_cons_succ, i64_w, i32_w]
           rfl
          refine pure_ (i := 3) (N := some 17) (v := ?_) (a' := ?_) #[true, false, true, true, false, false, false, false, false, false, false, false, false, false, false, false, false, false, false, false, false, false, false, false, false, false, false, false, false, false, false, false, false, false, false, false, false, false] rfl rfl (any_of HT_.out (by kernel_rfl)) (fun _ _ _ h => h) (Or.inl ⟨by rfl, ?_⟩) ?_ ?_
          rotate_left
          ·intro w'
           go_simp
           with_reducible rfl
          rotate_left
          ·simp only [Act.put, List.setIfInBounds_toArray, List.set_cons_zero, List.set_cons_succ, i64_w, i32_w]
           rfl
          refine pure_ (i := 4) (N := some 18) (v := ?_) (a' := ?_) #[true, false, true, true, true, false, false, false, false, false, false, false, false, false, false, false, false, false, false, false, false, false, false, false, false, false, false, false, false, false, false, false, false, false, false, false, false, false] rfl rfl (any_of HT_.out (by kernel_rfl)) (fun _ _ _ h => h) (Or.inl ⟨by rfl, ?_⟩) ?_ ?_
          rotate_left
          ·intro w'
           go_simp
           with_reducible rfl
          rotate_left
          ·simp only [Act.put, List.setIfInBounds_toArray, List.set_cons_zero, List.set_cons_succ, i64_w, i32_w]
           rfl
          refine take_ (i := 1) (N := some 15) (v := ?_) (a' := ?_) #[true, true, true, true, true, false, false, false, false, false, false, false, false, false, false, false, false, false, false, false, false, false, false, false, false, false, false, false, false, false, false, false, false, false, false, false, false, false] rfl rfl (take_ofW HT_.out HW_.out (by kernel_rfl)) (fun _ _ _ h => h) (Or.inl ⟨by rfl, ?_⟩) hHeld ?_ ?_
          rotate_left
          ·rintro w' ⟨s0, s1, s2, s3, s4, s5, s6, s7, s8⟩
           go_simp
           with_reducible rfl
          rotate_left
          ·simp only [Act.put, List.setIfInBounds_toArray, List.set_cons_zero, List.set_cons_succ, i64_w, i32_w]
           rfl
          refine one_ (i := 5) (N := some 19) #[true, true, true, true, true, true, false, false, false, false, false, false, false, false, false, false, false, false, false, false, false, false, false, false, false, false, false, false, false, false, false, false, false, false, false, false, false, false] rfl rfl (one_of HT_.out (by kernel_rfl)) (by decide) (fun K hK => ?_)
          refine goes_ Try.func17 (by kernel_rfl) rfl #[.int .i64 a1_0, .int .i64 0, .int .i64 (wrap64 ((l0.length : Int) - 1))] (by rfl) rfl rfl (by (try simp only [List.map_toArray, List.map_cons, List.map_nil]); first | done | rfl | (simp only [List.length_drop, List.length_take]; rfl)) ?_
          with_reducible refine (linkhouseref4_In.calls a1_0 0 (wrap64 ((l0.length : Int) - 1)) true _ A10.out).mono ?_
          rintro e w' ⟨rfl, ⟨nd, rfl⟩⟩
          refine ⟨_, rfl, ?_⟩
          refine hK.out _ _ ⟨(blk_cell BK166.out 0).trans rfl, (blk_cell BK166.out 1).trans rfl, (blk_cell BK166.out 2).trans rfl, (blk_cell BK166.out 3).trans rfl, (blk_cell BK166.out 4).trans rfl, (blk_cell BK166.out 5).trans rfl, ((HB.out.cell (World.block_lt_of_cell? w _ hw169_0)).trans hw169_0), ((HB.out.cell (World.block_lt_of_cell? w _ hw169_1)).trans hw169_1), ((HB.out.cell (World.block_lt_of_cell? w _ hw169_2)).trans hw169_2)⟩ (fun hHeld => ?_)
          clear hK K
          refine norm_ (a' := ?_) ?_ ?_
          rotate_left
          ·show Act.put _ (some 19) _ = _
           simp only [Act.put, List.setIfInBounds_toArray, List.set_cons_zero, List.set_cons_succ, i64_w, i32_w]
           rfl
          refine pure_ (i := 6) (N := some 20) (v := ?_) (a' := ?_) #[true, true, true, true, true, true, true, false, false, false, false, false, false, false, false, false, false, false, false, false, false, false, false, false, false, false, false, false, false, false, false, false, false, false, false, false, false, false] rfl rfl (any_of HT_.out (by kernel_rfl)) (fun _ _ _ h => h) (Or.inl ⟨by rfl, ?_⟩) ?_ ?_
          rotate_left
          ·intro w'
           go_simp
           with_reducible rfl
          rotate_left
          ·simp only [Act.put, List.setIfInBounds_toArray, List.set_cons_zero, List.set_cons_succ, i64_w, i32_w]
           rfl
          refine pure_ (i := 7) (N := some 21) (v := ?_) (a' := ?_) #[true, true, true, true, true, true, true, true, false, false, false, false, false, false, false, false, false, false, false, false, false, false, false, false, false, false, false, false, false, false, false, false, false, false, false, false, false, false] rfl rfl (any_of HT_.out (by kernel_rfl)) (fun _ _ _ h => h) (Or.inl ⟨by rfl, ?_⟩) ?_ ?_
          rotate_left
          ·intro w'
           go_simp
           with_reducible rfl
          rotate_left
          ·simp only [Act.put, List.setIfInBounds_toArray, List.set_cons_zero, List.set_cons_succ, i64_w, i32_w]
           rfl
          refine pure_ (i := 8) (N := some 22) (v := ?_) (a' := ?_) #[true, true, true, true, true, true, true, true, true, false, false, false, false, false, false, false, false, false, false, false, false, false, false, false, false, false, false, false, false, false, false, false, false, false, false, false, false, false] rfl rfl (any_of HT_.out (by kernel_rfl)) (fun _ _ _ h => h) (Or.inl ⟨by rfl, ?_⟩) ?_ ?_
          rotate_left
          ·intro w'
           go_simp
           with_reducible rfl
          rotate_left
          ·simp only [Act.put, List.setIfInBounds_toArray, List.set_cons_zero, List.set_cons_succ, i64_w, i32_w]
           rfl
          refine pure_ (i := 10) (N := some 24) (v := ?_) (a' := ?_) #[true, true, true, true, true, true, true, true, true, false, true, false, false, false, false, false, false, false, false, false, false, false, false, false, false, false, false, false, false, false, false, false, false, false, false, false, false, false] rfl rfl (any_of HT_.out (by kernel_rfl)) (fun _ _ _ h => h) (Or.inl ⟨by rfl, ?_⟩) ?_ ?_
          rotate_left
          ·intro w'
           go_simp
           with_reducible rfl
          rotate_left
          ·simp only [Act.put, List.setIfInBounds_toArray, List.set_cons_zero, List.set_cons_succ, i64_w, i32_w]
           rfl
          refine pure_ (i := 11) (N := some 25) (v := ?_) (a' := ?_) #[true, true, true, true, true, true, true, true, true, false, true, true, false, false, false, false, false, false, false, false, false, false, false, false, false, false, false, false, false, false, false, false, false, false, false, false, false, false] rfl rfl (any_of HT_.out (by kernel_rfl)) (fun _ _ _ h => h) (Or.inl ⟨by rfl, ?_⟩) ?_ ?_
          rotate_left
          ·intro w'
           go_simp
           with_reducible rfl
          rotate_left
          ·simp only [Act.put, List.setIfInBounds_toArray, List.set_cons_zero, List.set_cons_succ, i64_w, i32_w]
           rfl
          refine pure_ (i := 12) (N := some 26) (v := ?_) (a' := ?_) #[true, true, true, true, true, true, true, true, true, false, true, true, true, false, false, false, false, false, false, false, false, false, false, false, false, false, false, false, false, false, false, false, false, false, false, false, false, false] rfl rfl (any_of HT_.out (by kernel_rfl)) (fun _ _ _ h => h) (Or.inl ⟨by rfl, ?_⟩) ?_ ?_
          rotate_left
          ·intro w'
           go_simp
           with_reducible rfl
          rotate_left
          ·simp only [Act.put, List.setIfInBounds_toArray, List.set_cons_zero, List.set_cons_succ, i64_w, i32_w]
           rfl
          refine take_ (i := 9) (N := some 23) (v := ?_) (a' := ?_) #[true, true, true, true, true, true, true, true, true, true, true, true, true, false, false, false, false, false, false, false, false, false, false, false, false, false, false, false, false, false, false, false, false, false, false, false, false, false] rfl rfl (take_ofW HT_.out HW_.out (by kernel_rfl)) (fun _ _ _ h => h) (Or.inl ⟨by rfl, ?_⟩) hHeld ?_ ?_
          rotate_left
          ·rintro w' ⟨s0, s1, s2, s3, s4, s5, s6, s7, s8⟩
           go_simp
           with_reducible rfl
          rotate_left
          ·simp only [Act.put, List.setIfInBounds_toArray, List.set_cons_zero, List.set_cons_succ, i64_w, i32_w]
           rfl
          refine one_ (i := 13) (N := some 27) #[true, true, true, true, true, true, true, true, true, true, true, true, true, true, false, false, false, false, false, false, false, false, false, false, false, false, false, false, false, false, false, false, false, false, false, false, false, false] rfl rfl (one_of HT_.out (by kernel_rfl)) (by decide) (fun K hK => ?_)
          refine goes_ Try.func17 (by kernel_rfl) rfl #[.int .i64 a1_4, .int .i64 (-1), .int .i64 (wrap64 ((l0.length : Int) - 1))] (by rfl) rfl rfl (by (try simp only [List.map_toArray, List.map_cons, List.map_nil]); first | done | rfl | (simp only [List.length_drop, List.length_take]; rfl)) ?_
          with_reducible refine (linkhouseref4_In.calls a1_4 (-1) (wrap64 ((l0.length : Int) - 1)) true _ A12.out).mono ?_
          rintro e w' ⟨rfl, ⟨nd, rfl⟩⟩
          refine ⟨_, rfl, ?_⟩
          refine hK.out _ _ ⟨(blk_cell BK166.out 0).trans rfl, (blk_cell BK166.out 1).trans rfl, (blk_cell BK166.out 2).trans rfl, (blk_cell BK166.out 3).trans rfl, (blk_cell BK166.out 4).trans rfl, (blk_cell BK166.out 5).trans rfl, ((HB.out.cell (World.block_lt_of_cell? w _ hw169_0)).trans hw169_0), ((HB.out.cell (World.block_lt_of_cell? w _ hw169_1)).trans hw169_1), ((HB.out.cell (World.block_lt_of_cell? w _ hw169_2)).trans hw169_2)⟩ (fun hHeld => ?_)
          clear hK K
          refine norm_ (a' := ?_) ?_ ?_
          rotate_left
          ·show Act.put _ (some 27) _ = _
           simp only [Act.put, List.setIfInBounds_toArray, List.set_cons_zero, List.set_cons_succ, i64_w, i32_w]
           rfl
          refine pure_ (i := 14) (N := some 28) (v := ?_) (a' := ?_) #[true, true, true, true, true, true, true, true, true, true, true, true, true, true, true, false, false, false, false, false, false, false, false, false, false, false, false, false, false, false, false, false, false, false, false, false, false, false] rfl rfl (any_of HT_.out (by kernel_rfl)) (fun _ _ _ h => h) (Or.inl ⟨by rfl, ?_⟩) ?_ ?_
          rotate_left
          ·intro w'
           go_simp
           with_reducible rfl
          rotate_left
          ·simp only [Act.put, List.setIfInBounds_toArray, List.set_cons_zero, List.set_cons_succ, i64_w, i32_w]
           rfl
          refine pure_ (i := 15) (N := some 29) (v := ?_) (a' := ?_) #[true, true, true, true, true, true, true, true, true, true, true, true, true, true, true, true, false, false, false, false, false, false, false, false, false, false, false, false, false, false, false, false, false, false, false, false, false, false] rfl rfl (any_of HT_.out (by kernel_rfl)) (fun _ _ _ h => h) (Or.inl ⟨by rfl, ?_⟩) ?_ ?_
          rotate_left
          ·intro w'
           go_simp
           with_reducible rfl
          rotate_left
          ·simp only [Act.put, List.setIfInBounds_toArray, List.set_cons_zero, List.set_cons_succ, i64_w, i32_w]
           rfl
          refine pure_ (i := 16) (N := some 30) (v := ?_) (a' := ?_) #[true, true, true, true, true, true, true, true, true, true, true, true, true, true, true, true, true, false, false, false, false, false, false, false, false, false, false, false, false, false, false, false, false, false, false, false, false, false] rfl rfl (any_of HT_.out (by kernel_rfl)) (fun _ _ _ h => h) (Or.inl ⟨by rfl, ?_⟩) ?_ ?_
          rotate_left
          ·intro w'
           go_simp
           with_reducible rfl
          rotate_left
          ·simp only [Act.put, List.setIfInBounds_toArray, List.set_cons_zero, List.set_cons_succ, i64_w, i32_w]
           rfl
          refine pure_ (i := 17) (N := some 31) (v := ?_) (a' := ?_) #[true, true, true, true, true, true, true, true, true, true, true, true, true, true, true, true, true, true, false, false, false, false, false, false, false, false, false, false, false, false, false, false, false, false, false, false, false, false] rfl rfl (any_of HT_.out (by kernel_rfl)) (fun _ _ _ h => h) (Or.inl ⟨by rfl, ?_⟩) ?_ ?_
          rotate_left
          ·intro w'
           go_simp
           with_reducible rfl
          rotate_left
          ·simp only [Act.put, List.setIfInBounds_toArray, List.set_cons_zero, List.set_cons_succ, i64_w, i32_w]
           rfl
          refine pure_ (i := 19) (N := some 33) (v := ?_) (a' := ?_) #[true, true, true, true, true, true, true, true, true, true, true, true, true, true, true, true, true, true, false, true, false, false, false, false, false, false, false, false, false, false, false, false, false, false, false, false, false, false] rfl rfl (any_of HT_.out (by kernel_rfl)) (fun _ _ _ h => h) (Or.inl ⟨by rfl, ?_⟩) ?_ ?_
          rotate_left
          ·intro w'
           go_simp
           with_reducible rfl
          rotate_left
          ·simp only [Act.put, List.setIfInBounds_toArray, List.set_cons_zero, List.set_cons_succ, i64_w, i32_w]
           rfl
          refine pure_ (i := 20) (N := some 34) (v := ?_) (a' := ?_) #[true, true, true, true, true, true, true, true, true, true, true, true, true, true, true, true, true, true, false, true, true, false, false, false, false, false, false, false, false, false, false, false, false, false, false, false, false, false] rfl rfl (any_of HT_.out (by kernel_rfl)) (fun _ _ _ h => h) (Or.inl ⟨by rfl, ?_⟩) ?_ ?_
          rotate_left
          ·intro w'
           go_simp
           with_reducible rfl
          rotate_left
          ·simp only [Act.put, List.setIfInBounds_toArray, List.set_cons_zero, List.set_cons_succ, i64_w, i32_w]
           rfl
          refine pure_ (i := 25) (N := some 39) (v := ?_) (a' := ?_) #[true, true, true, true, true, true, true, true, true, true, true, true, true, true, true, true, true, true, false, true, true, false, false, false, false, true, false, false, false, false, false, false, false, false, false, false, false, false] rfl rfl (any_of HT_.out (by kernel_rfl)) (fun _ _ _ h => h) (Or.inl ⟨by rfl, ?_⟩) ?_ ?_
          rotate_left
          ·intro w'
           go_simp
           with_reducible rfl
          rotate_left
          ·simp only [Act.put, List.setIfInBounds_toArray, List.set_cons_zero, List.set_cons_succ, i64_w, i32_w]
           rfl
          refine take_ (i := 18) (N := some 32) (v := ?_) (a' := ?_) #[true, true, true, true, true, true, true, true, true, true, true, true, true, true, true, true, true, true, true, true, true, false, false, false, false, true, false, false, false, false, false, false, false, false, false, false, false, false] rfl rfl (take_ofW HT_.out HW_.out (by kernel_rfl)) (fun _ _ _ h => h) (Or.inl ⟨by rfl, ?_⟩) hHeld ?_ ?_
          rotate_left
          ·rintro w' ⟨s0, s1, s2, s3, s4, s5, s6, s7, s8⟩
           go_simp
           with_reducible rfl
          rotate_left
          ·simp only [Act.put, List.setIfInBounds_toArray, List.set_cons_zero, List.set_cons_succ, i64_w, i32_w]
           rfl
          refine take_ (i := 21) (N := some 35) (v := ?_) (a' := ?_) #[true, true, true, true, true, true, true, true, true, true, true, true, true, true, true, true, true, true, true, true, true, true, false, false, false, true, false, false, false, false, false, false, false, false, false, false, false, false] rfl rfl (take_ofW HT_.out HW_.out (by kernel_rfl)) (fun _ _ _ h => h) (Or.inl ⟨by rfl, ?_⟩) hHeld ?_ ?_
          rotate_left
          ·rintro w' ⟨s0, s1, s2, s3, s4, s5, s6, s7, s8⟩
           go_simp
           with_reducible rfl
          rotate_left
          ·simp only [Act.put, List.setIfInBounds_toArray, List.set_cons_zero, List.set_cons_succ, i64_w, i32_w]
           rfl
          refine pure_ (i := 22) (N := some 36) (v := ?_) (a' := ?_) #[true, true, true, true, true, true, true, true, true, true, true, true, true, true, true, true, true, true, true, true, true, true, true, false, false, true, false, false, false, false, false, false, false, false, false, false, false, false] rfl rfl (any_of HT_.out (by kernel_rfl)) (fun _ _ _ h => h) (Or.inl ⟨by rfl, ?_⟩) ?_ ?_
          rotate_left
          ·intro w'
           go_simp
           with_reducible rfl
          rotate_left
          ·simp only [Act.put, List.setIfInBounds_toArray, List.set_cons_zero, List.set_cons_succ, i64_w, i32_w]
           rfl
          refine pure_ (i := 23) (N := some 37) (v := ?_) (a' := ?_) #[true, true, true, true, true, true, true, true, true, true, true, true, true, true, true, true, true, true, true, true, true, true, true, true, false, true, false, false, false, false, false, false, false, false, false, false, false, false] rfl rfl (any_of HT_.out (by kernel_rfl)) (fun _ _ _ h => h) (Or.inl ⟨by rfl, ?_⟩) ?_ ?_
          rotate_left
          ·intro w'
           go_simp
           with_reducible rfl
          rotate_left
          ·simp only [Act.put, List.setIfInBounds_toArray, List.set_cons_zero, List.set_cons_succ, i64_w, i32_w]
           rfl
          refine take_ (i := 24) (N := some 38) (v := ?_) (a' := ?_) #[true, true, true, true, true, true, true, true, true, true, true, true, true, true, true, true, true, true, true, true, true, true, true, true, true, true, false, false, false, false, false, false, false, false, false, false, false, false] rfl rfl (take_ofW HT_.out HW_.out (by kernel_rfl)) (fun _ _ _ h => h) (Or.inl ⟨by rfl, ?_⟩) hHeld ?_ ?_
          rotate_left
          ·rintro w' ⟨s0, s1, s2, s3, s4, s5, s6, s7, s8⟩
           go_simp
           with_reducible rfl
          rotate_left
          ·simp only [Act.put, List.setIfInBounds_toArray, List.set_cons_zero, List.set_cons_succ, i64_w, i32_w]
           rfl
          refine take_ (i := 26) (N := some 40) (v := ?_) (a' := ?_) #[true, true, true, true, true, true, true, true, true, true, true, true, true, true, true, true, true, true, true, true, true, true, true, true, true, true, true, false, false, false, false, false, false, false, false, false, false, false] rfl rfl (take_ofW HT_.out HW_.out (by kernel_rfl)) (fun _ _ _ h => h) (Or.inl ⟨by rfl, ?_⟩) hHeld ?_ ?_
          rotate_left
          ·rintro w' ⟨s0, s1, s2, s3, s4, s5, s6, s7, s8⟩
           go_simp
           with_reducible rfl
          rotate_left
          ·simp only [Act.put, List.setIfInBounds_toArray, List.set_cons_zero, List.set_cons_succ, i64_w, i32_w]
           rfl
          refine one_ (i := 27) (N := some 41) #[true, true, true, true, true, true, true, true, true, true, true, true, true, true, true, true, true, true, true, true, true, true, true, true, true, true, true, true, false, false, false, false, false, false, false, false, false, false] rfl rfl (one_of HT_.out (by kernel_rfl)) (by decide) (fun K hK => ?_)
          refine goes_ Try.func37 (by kernel_rfl) rfl #[.int .i64 a1_2] (by rfl) rfl rfl (by (try simp only [List.map_toArray, List.map_cons, List.map_nil]); first | done | rfl | (simp only [List.length_drop, List.length_take]; rfl)) ?_
          with_reducible refine (linkhouseref3_Width.calls kj2 a1_2 t170 _ A16.out).mono ?_
          rintro e w' ⟨rfl, ⟨nd, rfl⟩⟩
          refine ⟨_, rfl, ?_⟩
          refine hK.out _ _ ⟨(blk_cell BK166.out 0).trans rfl, (blk_cell BK166.out 1).trans rfl, (blk_cell BK166.out 2).trans rfl, (blk_cell BK166.out 3).trans rfl, (blk_cell BK166.out 4).trans rfl, (blk_cell BK166.out 5).trans rfl, ((HB.out.cell (World.block_lt_of_cell? w _ hw169_0)).trans hw169_0), ((HB.out.cell (World.block_lt_of_cell? w _ hw169_1)).trans hw169_1), ((HB.out.cell (World.block_lt_of_cell? w _ hw169_2)).trans hw169_2)⟩ (fun hHeld => ?_)
          clear hK K
          refine norm_ (a' := ?_) ?_ ?_
          rotate_left
          ·show Act.put _ (some 41) _ = _
           simp only [Act.put, List.setIfInBounds_toArray, List.set_cons_zero, List.set_cons_succ, i64_w, i32_w]
           rfl
          refine pure_ (i := 28) (N := some 42) (v := ?_) (a' := ?_) #[true, true, true, true, true, true, true, true, true, true, true, true, true, true, true, true, true, true, true, true, true, true, true, true, true, true, true, true, true, false, false, false, false, false, false, false, false, false] rfl rfl (any_of HT_.out (by kernel_rfl)) (fun _ _ _ h => h) (Or.inl ⟨by rfl, ?_⟩) ?_ ?_
          rotate_left
          ·intro w'
           go_simp
           with_reducible rfl
          rotate_left
          ·simp only [Act.put, List.setIfInBounds_toArray, List.set_cons_zero, List.set_cons_succ, i64_w, i32_w]
           rfl
          refine one_ (i := 29) (N := some 43) #[true, true, true, true, true, true, true, true, true, true, true, true, true, true, true, true, true, true, true, true, true, true, true, true, true, true, true, true, true, true, false, false, false, false, false, false, false, false] rfl rfl (one_of HT_.out (by kernel_rfl)) (by decide) (fun K hK => ?_)
          refine goes_ Try.func17 (by kernel_rfl) rfl #[.int .i64 a1_1, .int .i64 0, .int .i64 (wrap64 (((rd_T57 l0 a1_0).f1) - t170))] (by rfl) rfl rfl (by (try simp only [List.map_toArray, List.map_cons, List.map_nil]); first | done | rfl | (simp only [List.length_drop, List.length_take]; rfl)) ?_
          with_reducible refine (linkhouseref4_In.calls a1_1 0 (wrap64 (((rd_T57 l0 a1_0).f1) - t170)) true _ A17.out).mono ?_
          rintro e w' ⟨rfl, ⟨nd, rfl⟩⟩
          refine ⟨_, rfl, ?_⟩
          refine hK.out _ _ ⟨(blk_cell BK166.out 0).trans rfl, (blk_cell BK166.out 1).trans rfl, (blk_cell BK166.out 2).trans rfl, (blk_cell BK166.out 3).trans rfl, (blk_cell BK166.out 4).trans rfl, (blk_cell BK166.out 5).trans rfl, ((HB.out.cell (World.block_lt_of_cell? w _ hw169_0)).trans hw169_0), ((HB.out.cell (World.block_lt_of_cell? w _ hw169_1)).trans hw169_1), ((HB.out.cell (World.block_lt_of_cell? w _ hw169_2)).trans hw169_2)⟩ (fun hHeld => ?_)
          clear hK K
          refine norm_ (a' := ?_) ?_ ?_
          rotate_left
          ·show Act.put _ (some 43) _ = _
           simp only [Act.put, List.setIfInBounds_toArray, List.set_cons_zero, List.set_cons_succ, i64_w, i32_w]
           rfl
          refine pure_ (i := 30) (N := some 44) (v := ?_) (a' := ?_) #[true, true, true, true, true, true, true, true, true, true, true, true, true, true, true, true, true, true, true, true, true, true, true, true, true, true, true, true, true, true, true, false, false, false, false, false, false, false] rfl rfl (any_of HT_.out (by kernel_rfl)) (fun _ _ _ h => h) (Or.inl ⟨by rfl, ?_⟩) ?_ ?_
          rotate_left
          ·intro w'
           go_simp
           with_reducible rfl
          rotate_left
          ·simp only [Act.put, List.setIfInBounds_toArray, List.set_cons_zero, List.set_cons_succ, i64_w, i32_w]
           rfl
          refine pure_ (i := 31) (N := some 45) (v := ?_) (a' := ?_) #[true, true, true, true, true, true, true, true, true, true, true, true, true, true, true, true, true, true, true, true, true, true, true, true, true, true, true, true, true, true, true, true, false, false, false, false, false, false] rfl rfl (any_of HT_.out (by kernel_rfl)) (fun _ _ _ h => h) (Or.inl ⟨by rfl, ?_⟩) ?_ ?_
          rotate_left
          ·intro w'
           go_simp
           with_reducible rfl
          rotate_left
          ·simp only [Act.put, List.setIfInBounds_toArray, List.set_cons_zero, List.set_cons_succ, i64_w, i32_w]
           rfl
          refine pure_ (i := 32) (N := some 46) (v := ?_) (a' := ?_) #[true, true, true, true, true, true, true, true, true, true, true, true, true, true, true, true, true, true, true, true, true, true, true, true, true, true, true, true, true, true, true, true, true, false, false, false, false, false] rfl rfl (any_of HT_.out (by kernel_rfl)) (fun _ _ _ h => h) (Or.inl ⟨by rfl, ?_⟩) ?_ ?_
          rotate_left
          ·intro w'
           go_simp
           with_reducible rfl
          rotate_left
          ·simp only [Act.put, List.setIfInBounds_toArray, List.set_cons_zero, List.set_cons_succ, i64_w, i32_w]
           rfl
          refine pure_ (i := 33) (N := some 47) (v := ?_) (a' := ?_) #[true, true, true, true, true, true, true, true, true, true, true, true, true, true, true, true, true, true, true, true, true, true, true, true, true, true, true, true, true, true, true, true, true, true, false, false, false, false] rfl rfl (any_of HT_.out (by kernel_rfl)) (fun _ _ _ h => h) (Or.inl ⟨by rfl, ?_⟩) ?_ ?_
          rotate_left
          ·intro w'
           go_simp
           with_reducible rfl
          rotate_left
          ·simp only [Act.put, List.setIfInBounds_toArray, List.set_cons_zero, List.set_cons_succ, i64_w, i32_w]
           rfl
          refine take_ (i := 34) (N := some 48) (v := ?_) (a' := ?_) #[true, true, true, true, true, true, true, true, true, true, true, true, true, true, true, true, true, true, true, true, true, true, true, true, true, true, true, true, true, true, true, true, true, true, true, false, false, false] rfl rfl (take_ofW HT_.out HW_.out (by kernel_rfl)) (fun _ _ _ h => h) (Or.inl ⟨by rfl, ?_⟩) hHeld ?_ ?_
          rotate_left
          ·rintro w' ⟨s0, s1, s2, s3, s4, s5, s6, s7, s8⟩
           go_simp
           with_reducible rfl
          rotate_left
          ·simp only [Act.put, List.setIfInBounds_toArray, List.set_cons_zero, List.set_cons_succ, i64_w, i32_w]
           rfl
          refine one_ (i := 35) (N := some 49) #[true, true, true, true, true, true, true, true, true, true, true, true, true, true, true, true, true, true, true, true, true, true, true, true, true, true, true, true, true, true, true, true, true, true, true, true, false, false] rfl rfl (one_of HT_.out (by kernel_rfl)) (by decide) (fun K hK => ?_)
          refine goes_ Try.func17 (by kernel_rfl) rfl #[.int .i64 a1_3, .int .i64 (-1048576), .int .i64 1048576] (by rfl) rfl rfl (by (try simp only [List.map_toArray, List.map_cons, List.map_nil]); first | done | rfl | (simp only [List.length_drop, List.length_take]; rfl)) ?_
          with_reducible refine (linkhouseref4_In.calls a1_3 (-1048576) 1048576 t172 _ A19.out).mono ?_
          rintro e w' ⟨rfl, ⟨nd, rfl⟩⟩
          refine ⟨_, rfl, ?_⟩
          refine hK.out _ _ ⟨(blk_cell BK166.out 0).trans rfl, (blk_cell BK166.out 1).trans rfl, (blk_cell BK166.out 2).trans rfl, (blk_cell BK166.out 3).trans rfl, (blk_cell BK166.out 4).trans rfl, (blk_cell BK166.out 5).trans rfl, ((HB.out.cell (World.block_lt_of_cell? w _ hw169_0)).trans hw169_0), ((HB.out.cell (World.block_lt_of_cell? w _ hw169_1)).trans hw169_1), ((HB.out.cell (World.block_lt_of_cell? w _ hw169_2)).trans hw169_2)⟩ (fun hHeld => ?_)
          clear hK K
          refine norm_ (a' := ?_) ?_ ?_
          rotate_left
          ·show Act.put _ (some 49) _ = _
           simp only [Act.put, List.setIfInBounds_toArray, List.set_cons_zero, List.set_cons_succ, i64_w, i32_w]
           rfl
          refine pure_ (i := 36) (N := some 50) (v := ?_) (a' := ?_) #[true, true, true, true, true, true, true, true, true, true, true, true, true, true, true, true, true, true, true, true, true, true, true, true, true, true, true, true, true, true, true, true, true, true, true, true, true, false] rfl rfl (any_of HT_.out (by kernel_rfl)) (fun _ _ _ h => h) (Or.inl ⟨by rfl, ?_⟩) ?_ ?_
          rotate_left
          ·intro w'
           go_simp
           with_reducible rfl
          rotate_left
          ·simp only [Act.put, List.setIfInBounds_toArray, List.set_cons_zero, List.set_cons_succ, i64_w, i32_w]
           rfl
          refine pure_ (i := 37) (N := some 51) (v := ?_) (a' := ?_) #[true, true, true, true, true, true, true, true, true, true, true, true, true, true, true, true, true, true, true, true, true, true, true, true, true, true, true, true, true, true, true, true, true, true, true, true, true, true] rfl rfl (any_of HT_.out (by kernel_rfl)) (fun _ _ _ h => h) (Or.inl ⟨by rfl, ?_⟩) ?_ ?_
          rotate_left
          ·intro w'
           go_simp
           with_reducible rfl
          rotate_left
          ·simp only [Act.put, List.setIfInBounds_toArray, List.set_cons_zero, List.set_cons_succ, i64_w, i32_w]
           rfl
          refine done_ (done_of HT_.out (by kernel_rfl)) ?_
          try go_wp2
          go_meet
          case rel => exact ⟨_, (!t172), (by first | rfl | (simp; done) | (simp [*]; done)), H', ⟨by have := HJ2.out; first | omega | exact Nat.le_refl _⟩, ⟨by (with_reducible repeat (first | refine blk_drewN ?_ _ | refine blk_drew ?_ | refine blk_alloc ?_ _)); exact BK166.out⟩, ⟨by repeat (first | (with_reducible first | exact HB.out | apply below_alloc | apply pw_below_drewN | apply below_drew1 | refine below_set ?_ GE166.out) | exact HB.out)⟩⟩
         ·replace c18 := Bool.eq_false_iff.mpr c18
          subst c18
          have H1 : (linkhouseref4_BranchCode.j1 kj2 l0 true a1_0 a1_1 a1_2 a1_3 a1_4 a1_5) = some r := by rw [if_neg (show ¬ (false = true) by decide)] at H; exact H
          clear H
          have H := H1
          clear H1
          have H' := Aside0.mk H
          clear H
          try go_wp2
          have n0_ := Aside0.mk (blk_drew BK166.out)
          have n1_ := Aside0.mk (below_drew1 HB.out)
          clear BK166
          clear HB
          have BK166 := n0_
          have HB := n1_
          clear n0_ n1_
          have p169 : 0 ≤ (a1_0 : Int) := of_decide_eq_true (by first | (with_reducible assumption) | assumption)
          have q169 : a1_0 < (l0.length : Int) := of_decide_eq_true (by first | (with_reducible assumption) | assumption)
          obtain ⟨ad169, e169, hx169_0, hx169_1, hx169_2⟩ := at_T57 HR0.out a1_0 p169 q169
          have hw169_2 := hx169_2
          have hw169_1 := hx169_1
          have hw169_0 := hx169_0
          cases e169
          replace hx169_0 := (HB.out.cell (World.block_lt_of_cell? w _ hx169_0)).trans hx169_0
          replace hx169_1 := (HB.out.cell (World.block_lt_of_cell? w _ hx169_1)).trans hx169_1
          replace hx169_2 := (HB.out.cell (World.block_lt_of_cell? w _ hx169_2)).trans hx169_2
          replace p169 := eq_true p169
          replace q169 := eq_true q169
          refine start_ (n := 38) (S := fun w' => w'.cell? ⟨gb166, 0, none⟩ = some (.int .i64 a1_0) ∧ w'.cell? ⟨gb166, 1, none⟩ = some (.int .i64 a1_1) ∧ w'.cell? ⟨gb166, 2, none⟩ = some (.int .i64 a1_2) ∧ w'.cell? ⟨gb166, 3, none⟩ = some (.int .i64 a1_3) ∧ w'.cell? ⟨gb166, 4, none⟩ = some (.int .i64 a1_4) ∧ w'.cell? ⟨gb166, 5, none⟩ = some (.int .i64 a1_5) ∧ w'.cell? (ad169.add ((a1_0).toNat * 3)) = some (.int .i64 ((rd_T57 l0 a1_0).f0)) ∧ w'.cell? ⟨(ad169.add ((a1_0).toNat * 3)).block, (ad169.add ((a1_0).toNat * 3)).off + 1, none⟩ = some (.int .i64 ((rd_T57 l0 a1_0).f1)) ∧ w'.cell? ⟨(ad169.add ((a1_0).toNat * 3)).block, (ad169.add ((a1_0).toNat * 3)).off + 2, none⟩ = some (.int .i64 ((rd_T57 l0 a1_0).f2))) (ds := []) #[false, false, false, false, false, false, false, false, false, false, false, false, false, false, false, false, false, false, false, false, false, false, false, false, false, false, false, false, false, false, false, false, false, false, false, false, false, false] (by kernel_rfl) rfl rfl ⟨(blk_cell BK166.out 0).trans rfl, (blk_cell BK166.out 1).trans rfl, (blk_cell BK166.out 2).trans rfl, (blk_cell BK166.out 3).trans rfl, (blk_cell BK166.out 4).trans rfl, (blk_cell BK166.out 5).trans rfl, ((HB.out.cell (World.block_lt_of_cell? w _ hw169_0)).trans hw169_0), ((HB.out.cell (World.block_lt_of_cell? w _ hw169_1)).trans hw169_1), ((HB.out.cell (World.block_lt_of_cell? w _ hw169_2)).trans hw169_2)⟩ (fun hHeld => ?_); refine with_tabW linkhouseref4_BranchCode.tab3 linkhouseref4_BranchCode.bits3 (fun HT_ HW_ => ?_)
          generalize wc.drew = w21 at BK166 HB hx169_0 hx169_1 hx169_2 hHeld ⊢
          refine pure_ (i := 0) (N := some 14) (v := ?_) (a' := ?_) #[true, false, false, false, false, false, false, false, false, false, false, false, false, false, false, false, false, false, false, false, false, false, false, false, false, false, false, false, false, false, false, false, false, false, false, false, false, false] rfl rfl (any_of HT_.out (by kernel_rfl)) (fun _ _ _ h => h) (Or.inl ⟨by rfl, ?_⟩) ?_ ?_
          rotate_left
          ·intro w'
           go_simp
           with_reducible rfl
          rotate_left
          ·simp only [Act.put, List.setIfInBounds_toArray, List.set_cons_zero, List.set_cons_succ, i64_w, i32_w]
           rfl
          refine pure_ (i := 2) (N := some 16) (v := ?_) (a' := ?_) #[true, false, true, false, false, false, false, false, false, false, false, false, false, false, false, false, false, false, false, false, false, false, false, false, false, false, false, false, false, false, false, false, false, false, false, false, false, false] rfl rfl (any_of HT_.out (by kernel_rfl)) (fun _ _ _ h => h) (Or.inl ⟨by rfl, ?_⟩) ?_ ?_
          rotate_left
          ·intro w'
           go_simp
           with_reducible rfl
          rotate_left
          ·simp only [Act.put, List.setIfInBounds_toArray, List.set_cons_zero, List.set_cons_succ, i64_w, i32_w]
           rfl
          refine pure_ (i := 3) (N := some 17) (v := ?_) (a' := ?_) #[true, false, true, true, false, false, false, false, false, false, false, false, false, false, false, false, false, false, false, false, false, false, false, false, false, false, false, false, false, false, false, false, false, false, false, false, false, false] rfl rfl (any_of HT_.out (by kernel_rfl)) (fun _ _ _ h => h) (Or.inl ⟨by rfl, ?_⟩) ?_ ?_
          rotate_left
          ·intro w'
           go_simp
           with_reducible rfl
          rotate_left
          ·simp only [Act.put, List.setIfInBounds_toArray, List.set_cons_zero, List.set_cons_succ, i64_w, i32_w]
           rfl
          refine pure_ (i := 4) (N := some 18) (v := ?_) (a' := ?_) #[true, false, true, true, true, false, false, false, false, false, false, false, false, false, false, false, false, false, false, false, false, false, false, false, false, false, false, false, false, false, false, false, false, false, false, false, false, false] rfl rfl (any_of HT_.out (by kernel_rfl)) (fun _ _ _ h => h) (Or.inl ⟨by rfl, ?_⟩) ?_ ?_
          rotate_left
          ·intro w'
           go_simp
           with_reducible rfl
          rotate_left
          ·simp only [Act.put, List.setIfInBounds_toArray, List.set_cons_zero, List.set_cons_succ, i64_w, i32_w]
           rfl
          refine take_ (i := 1) (N := some 15) (v := ?_) (a' := ?_) #[true, true, true, true, true, false, false, false, false, false, false, false, false, false, false, false, false, false, false, false, false, false, false, false, false, false, false, false, false, false, false, false, false, false, false, false, false, false] rfl rfl (take_ofW HT_.out HW_.out (by kernel_rfl)) (fun _ _ _ h => h) (Or.inl ⟨by rfl, ?_⟩) hHeld ?_ ?_
          rotate_left
          ·rintro w' ⟨s0, s1, s2, s3, s4, s5, s6, s7, s8⟩
           go_simp
           with_reducible rfl
          rotate_left
          ·simp only [Act.put, List.setIfInBounds_toArray, List.set_cons_zero, List.set_cons_succ, i64_w, i32_w]
           rfl
          refine one_ (i := 5) (N := some 19) #[true, true, true, true, true, true, false, false, false, false, false, false, false, false, false, false, false, false, false, false, false, false, false, false, false, false, false, false, false, false, false, false, false, false, false, false, false, false] rfl rfl (one_of HT_.out (by kernel_rfl)) (by decide) (fun K hK => ?_)
          refine goes_ Try.func17 (by kernel_rfl) rfl #[.int .i64 a1_0, .int .i64 0, .int .i64 (wrap64 ((l0.length : Int) - 1))] (by rfl) rfl rfl (by (try simp only [List.map_toArray, List.map_cons, List.map_nil]); first | done | rfl | (simp only [List.length_drop, List.length_take]; rfl)) ?_
          with_reducible refine (linkhouseref4_In.calls a1_0 0 (wrap64 ((l0.length : Int) - 1)) true _ A10.out).mono ?_
          rintro e w' ⟨rfl, ⟨nd, rfl⟩⟩
          refine ⟨_, rfl, ?_⟩
          refine hK.out _ _ ⟨(blk_cell BK166.out 0).trans rfl, (blk_cell BK166.out 1).trans rfl, (blk_cell BK166.out 2).trans rfl, (blk_cell BK166.out 3).trans rfl, (blk_cell BK166.out 4).trans rfl, (blk_cell BK166.out 5).trans rfl, ((HB.out.cell (World.block_lt_of_cell? w _ hw169_0)).trans hw169_0), ((HB.out.cell (World.block_lt_of_cell? w _ hw169_1)).trans hw169_1), ((HB.out.cell (World.block_lt_of_cell? w _ hw169_2)).trans hw169_2)⟩ (fun hHeld => ?_)
          clear hK K
          refine norm_ (a' := ?_) ?_ ?_
          rotate_left
          ·show Act.put _ (some 19) _ = _
           simp only [Act.put, List.setIfInBounds_toArray, List.set_cons_zero, List.set_cons_succ, i64_w, i32_w]
           rfl
          refine pure_ (i := 6) (N := some 20) (v := ?_) (a' := ?_) #[true, true, true, true, true, true, true, false, false, false, false, false, false, false, false, false, false, false, false, false, false, false, false, false, false, false, false, false, false, false, false, false, false, false, false, false, false, false] rfl rfl (any_of HT_.out (by kernel_rfl)) (fun _ _ _ h => h) (Or.inl ⟨by rfl, ?_⟩) ?_ ?_
          rotate_left
          ·intro w'
           go_simp
           with_reducible rfl
          rotate_left
          ·simp only [Act.put, List.setIfInBounds_toArray, List.set_cons_zero, List.set_cons_succ, i64_w, i32_w]
           rfl
          refine pure_ (i := 7) (N := some 21) (v := ?_) (a' := ?_) #[true, true, true, true, true, true, true, true, false, false, false, false, false, false, false, false, false, false, false, false, false, false, false, false, false, false, false, false, false, false, false, false, false, false, false, false, false, false] rfl rfl (any_of HT_.out (by kernel_rfl)) (fun _ _ _ h => h) (Or.inl ⟨by rfl, ?_⟩) ?_ ?_
          rotate_left
          ·intro w'
           go_simp
           with_reducible rfl
          rotate_left
          ·simp only [Act.put, List.setIfInBounds_toArray, List.set_cons_zero, List.set_cons_succ, i64_w, i32_w]
           rfl
          refine pure_ (i := 8) (N := some 22) (v := ?_) (a' := ?_) #[true, true, true, true, true, true, true, true, true, false, false, false, false, false, false, false, false, false, false, false, false, false, false, false, false, false, false, false, false, false, false, false, false, false, false, false, false, false] rfl rfl (any_of HT_.out (by kernel_rfl)) (fun _ _ _ h => h) (Or.inl ⟨by rfl, ?_⟩) ?_ ?_
          rotate_left
          ·intro w'
           go_simp
           with_reducible rfl
          rotate_left
          ·simp only [Act.put, List.setIfInBounds_toArray, List.set_cons_zero, List.set_cons_succ, i64_w, i32_w]
           rfl
          refine pure_ (i := 10) (N := some 24) (v := ?_) (a' := ?_) #[true, true, true, true, true, true, true, true, true, false, true, false, false, false, false, false, false, false, false, false, false, false, false, false, false, false, false, false, false, false, false, false, false, false, false, false, false, false] rfl rfl (any_of HT_.out (by kernel_rfl)) (fun _ _ _ h => h) (Or.inl ⟨by rfl, ?_⟩) ?_ ?_
          rotate_left
          ·intro w'
           go_simp
           with_reducible rfl
          rotate_left
          ·simp only [Act.put, List.setIfInBounds_toArray, List.set_cons_zero, List.set_cons_succ, i64_w, i32_w]
           rfl
          refine pure_ (i := 11) (N := some 25) (v := ?_) (a' := ?_) #[true, true, true, true, true, true, true, true, true, false, true, true, false, false, false, false, false, false, false, false, false, false, false, false, false, false, false, false, false, false, false, false, false, false, false, false, false, false] rfl rfl (any_of HT_.out (by kernel_rfl)) (fun _ _ _ h => h) (Or.inl ⟨by rfl, ?_⟩) ?_ ?_
          rotate_left
          ·intro w'
           go_simp
           with_reducible rfl
          rotate_left
          ·simp only [Act.put, List.setIfInBounds_toArray, List.set_cons_zero, List.set_cons_succ, i64_w, i32_w]
           rfl
          refine pure_ (i := 12) (N := some 26) (v := ?_) (a' := ?_) #[true, true, true, true, true, true, true, true, true, false, true, true, true, false, false, false, false, false, false, false, false, false, false, false, false, false, false, false, false, false, false, false, false, false, false, false, false, false] rfl rfl (any_of HT_.out (by kernel_rfl)) (fun _ _ _ h => h) (Or.inl ⟨by rfl, ?_⟩) ?_ ?_
          rotate_left
          ·intro w'
           go_simp
           with_reducible rfl
          rotate_left
          ·simp only [Act.put, List.setIfInBounds_toArray, List.set_cons_zero, List.set_cons_succ, i64_w, i32_w]
           rfl
          refine take_ (i := 9) (N := some 23) (v := ?_) (a' := ?_) #[true, true, true, true, true, true, true, true, true, true, true, true, true, false, false, false, false, false, false, false, false, false, false, false, false, false, false, false, false, false, false, false, false, false, false, false, false, false] rfl rfl (take_ofW HT_.out HW_.out (by kernel_rfl)) (fun _ _ _ h => h) (Or.inl ⟨by rfl, ?_⟩) hHeld ?_ ?_
          rotate_left
          ·rintro w' ⟨s0, s1, s2, s3, s4, s5, s6, s7, s8⟩
           go_simp
           with_reducible rfl
          rotate_left
          ·simp only [Act.put, List.setIfInBounds_toArray, List.set_cons_zero, List.set_cons_succ, i64_w, i32_w]
           rfl
          refine one_ (i := 13) (N := some 27) #[true, true, true, true, true, true, true, true, true, true, true, true, true, true, false, false, false, false, false, false, false, false, false, false, false, false, false, false, false, false, false, false, false, false, false, false, false, false] rfl rfl (one_of HT_.out (by kernel_rfl)) (by decide) (fun K hK => ?_)
          refine goes_ Try.func17 (by kernel_rfl) rfl #[.int .i64 a1_4, .int .i64 (-1), .int .i64 (wrap64 ((l0.length : Int) - 1))] (by rfl) rfl rfl (by (try simp only [List.map_toArray, List.map_cons, List.map_nil]); first | done | rfl | (simp only [List.length_drop, List.length_take]; rfl)) ?_
          with_reducible refine (linkhouseref4_In.calls a1_4 (-1) (wrap64 ((l0.length : Int) - 1)) true _ A12.out).mono ?_
          rintro e w' ⟨rfl, ⟨nd, rfl⟩⟩
          refine ⟨_, rfl, ?_⟩
          refine hK.out _ _ ⟨(blk_cell BK166.out 0).trans rfl, (blk_cell BK166.out 1).trans rfl, (blk_cell BK166.out 2).trans rfl, (blk_cell BK166.out 3).trans rfl, (blk_cell BK166.out 4).trans rfl, (blk_cell BK166.out 5).trans rfl, ((HB.out.cell (World.block_lt_of_cell? w _ hw169_0)).trans hw169_0), ((HB.out.cell (World.block_lt_of_cell? w _ hw169_1)).trans hw169_1), ((HB.out.cell (World.block_lt_of_cell? w _ hw169_2)).trans hw169_2)⟩ (fun hHeld => ?_)
          clear hK K
          refine norm_ (a' := ?_) ?_ ?_
          rotate_left
          ·show Act.put _ (some 27) _ = _
           simp only [Act.put, List.setIfInBounds_toArray, List.set_cons_zero, List.set_cons_succ, i64_w, i32_w]
           rfl
          refine pure_ (i := 14) (N := some 28) (v := ?_) (a' := ?_) #[true, true, true, true, true, true, true, true, true, true, true, true, true, true, true, false, false, false, false, false, false, false, false, false, false, false, false, false, false, false, false, false, false, false, false, false, false, false] rfl rfl (any_of HT_.out (by kernel_rfl)) (fun _ _ _ h => h) (Or.inl ⟨by rfl, ?_⟩) ?_ ?_
          rotate_left
          ·intro w'
           go_simp
           with_reducible rfl
          rotate_left
          ·simp only [Act.put, List.setIfInBounds_toArray, List.set_cons_zero, List.set_cons_succ, i64_w, i32_w]
           rfl
          refine pure_ (i := 15) (N := some 29) (v := ?_) (a' := ?_) #[true, true, true, true, true, true, true, true, true, true, true, true, true, true, true, true, false, false, false, false, false, false, false, false, false, false, false, false, false, false, false, false, false, false, false, false, false, false] rfl rfl (any_of HT_.out (by kernel_rfl)) (fun _ _ _ h => h) (Or.inl ⟨by rfl, ?_⟩) ?_ ?_
          rotate_left
          ·intro w'
           go_simp
           with_reducible rfl
          rotate_left
          ·simp only [Act.put, List.setIfInBounds_toArray, List.set_cons_zero, List.set_cons_succ, i64_w, i32_w]
           rfl
          refine pure_ (i := 16) (N := some 30) (v := ?_) (a' := ?_) #[true, true, true, true, true, true, true, true, true, true, true, true, true, true, true, true, true, false, false, false, false, false, false, false, false, false, false, false, false, false, false, false, false, false, false, false, false, false] rfl rfl (any_of HT_.out (by kernel_rfl)) (fun _ _ _ h => h) (Or.inl ⟨by rfl, ?_⟩) ?_ ?_
          rotate_left
          ·intro w'
           go_simp
           with_reducible rfl
          rotate_left
          ·simp only [Act.put, List.setIfInBounds_toArray, List.set_cons_zero, List.set_cons_succ, i64_w, i32_w]
           rfl
          refine pure_ (i := 17) (N := some 31) (v := ?_) (a' := ?_) #[true, true, true, true, true, true, true, true, true, true, true, true, true, true, true, true, true, true, false, false, false, false, false, false, false, false, false, false, false, false, false, false, false, false, false, false, false, false] rfl rfl (any_of HT_.out (by kernel_rfl)) (fun _ _ _ h => h) (Or.inl ⟨by rfl, ?_⟩) ?_ ?_
          rotate_left
          ·intro w'
           go_simp
           with_reducible rfl
          rotate_left
          ·simp only [Act.put, List.setIfInBounds_toArray, List.set_cons_zero, List.set_cons_succ, i64_w, i32_w]
           rfl
          refine pure_ (i := 19) (N := some 33) (v := ?_) (a' := ?_) #[true, true, true, true, true, true, true, true, true, true, true, true, true, true, true, true, true, true, false, true, false, false, false, false, false, false, false, false, false, false, false, false, false, false, false, false, false, false] rfl rfl (any_of HT_.out (by kernel_rfl)) (fun _ _ _ h => h) (Or.inl ⟨by rfl, ?_⟩) ?_ ?_
          rotate_left
          ·intro w'
           go_simp
           with_reducible rfl
          rotate_left
          ·simp only [Act.put, List.setIfInBounds_toArray, List.set_cons_zero, List.set_cons_succ, i64_w, i32_w]
           rfl
          refine pure_ (i := 20) (N := some 34) (v := ?_) (a' := ?_) #[true, true, true, true, true, true, true, true, true, true, true, true, true, true, true, true, true, true, false, true, true, false, false, false, false, false, false, false, false, false, false, false, false, false, false, false, false, false] rfl rfl (any_of HT_.out (by kernel_rfl)) (fun _ _ _ h => h) (Or.inl ⟨by rfl, ?_⟩) ?_ ?_
          rotate_left
          ·intro w'
           go_simp
           with_reducible rfl
          rotate_left
          ·simp only [Act.put, List.setIfInBounds_toArray, List.set_cons_zero, List.set_cons_succ, i64_w, i32_w]
           rfl
          refine pure_ (i := 25) (N := some 39) (v := ?_) (a' := ?_) #[true, true, true, true, true, true, true, true, true, true, true, true, true, true, true, true, true, true, false, true, true, false, false, false, false, true, false, false, false, false, false, false, false, false, false, false, false, false] rfl rfl (any_of HT_.out (by kernel_rfl)) (fun _ _ _ h => h) (Or.inl ⟨by rfl, ?_⟩) ?_ ?_
          rotate_left
          ·intro w'
           go_simp
           with_reducible rfl
          rotate_left
          ·simp only [Act.put, List.setIfInBounds_toArray, List.set_cons_zero, List.set_cons_succ, i64_w, i32_w]
           rfl
          refine take_ (i := 18) (N := some 32) (v := ?_) (a' := ?_) #[true, true, true, true, true, true, true, true, true, true, true, true, true, true, true, true, true, true, true, true, true, false, false, false, false, true, false, false, false, false, false, false, false, false, false, false, false, false] rfl rfl (take_ofW HT_.out HW_.out (by kernel_rfl)) (fun _ _ _ h => h) (Or.inl ⟨by rfl, ?_⟩) hHeld ?_ ?_
          rotate_left
          ·rintro w' ⟨s0, s1, s2, s3, s4, s5, s6, s7, s8⟩
           go_simp
           with_reducible rfl
          rotate_left
          ·simp only [Act.put, List.setIfInBounds_toArray, List.set_cons_zero, List.set_cons_succ, i64_w, i32_w]
           rfl
          refine take_ (i := 21) (N := some 35) (v := ?_) (a' := ?_) #[true, true, true, true, true, true, true, true, true, true, true, true, true, true, true, true, true, true, true, true, true, true, false, false, false, true, false, false, false, false, false, false, false, false, false, false, false, false] rfl rfl (take_ofW HT_.out HW_.out (by kernel_rfl)) (fun _ _ _ h => h) (Or.inl ⟨by rfl, ?_⟩) hHeld ?_ ?_
          rotate_left
          ·rintro w' ⟨s0, s1, s2, s3, s4, s5, s6, s7, s8⟩
           go_simp
           with_reducible rfl
          rotate_left
          ·simp only [Act.put, List.setIfInBounds_toArray, List.set_cons_zero, List.set_cons_succ, i64_w, i32_w]
           rfl
          refine pure_ (i := 22) (N := some 36) (v := ?_) (a' := ?_) #[true, true, true, true, true, true, true, true, true, true, true, true, true, true, true, true, true, true, true, true, true, true, true, false, false, true, false, false, false, false, false, false, false, false, false, false, false, false] rfl rfl (any_of HT_.out (by kernel_rfl)) (fun _ _ _ h => h) (Or.inl ⟨by rfl, ?_⟩) ?_ ?_
          rotate_left
          ·intro w'
           go_simp
           with_reducible rfl
          rotate_left
          ·simp only [Act.put, List.setIfInBounds_toArray, List.set_cons_zero, List.set_cons_succ, i64_w, i32_w]
           rfl
          refine pure_ (i := 23) (N := some 37) (v := ?_) (a' := ?_) #[true, true, true, true, true, true, true, true, true, true, true, true, true, true, true, true, true, true, true, true, true, true, true, true, false, true, false, false, false, false, false, false, false, false, false, false, false, false] rfl rfl (any_of HT_.out (by kernel_rfl)) (fun _ _ _ h => h) (Or.inl ⟨by rfl, ?_⟩) ?_ ?_
          rotate_left
          ·intro w'
           go_simp
           with_reducible rfl
          rotate_left
          ·simp only [Act.put, List.setIfInBounds_toArray, List.set_cons_zero, List.set_cons_succ, i64_w, i32_w]
           rfl
          refine take_ (i := 24) (N := some 38) (v := ?_) (a' := ?_) #[true, true, true, true, true, true, true, true, true, true, true, true, true, true, true, true, true, true, true, true, true, true, true, true, true, true, false, false, false, false, false, false, false, false, false, false, false, false] rfl rfl (take_ofW HT_.out HW_.out (by kernel_rfl)) (fun _ _ _ h => h) (Or.inl ⟨by rfl, ?_⟩) hHeld ?_ ?_
          rotate_left
          ·rintro w' ⟨s0, s1, s2, s3, s4, s5, s6, s7, s8⟩
           go_simp
           with_reducible rfl
          rotate_left
          ·simp only [Act.put, List.setIfInBounds_toArray, List.set_cons_zero, List.set_cons_succ, i64_w, i32_w]
           rfl
          refine take_ (i := 26) (N := some 40) (v := ?_) (a' := ?_) #[true, true, true, true, true, true, true, true, true, true, true, true, true, true, true, true, true, true, true, true, true, true, true, true, true, true, true, false, false, false, false, false, false, false, false, false, false, false] rfl rfl (take_ofW HT_.out HW_.out (by kernel_rfl)) (fun _ _ _ h => h) (Or.inl ⟨by rfl, ?_⟩) hHeld ?_ ?_
          rotate_left
          ·rintro w' ⟨s0, s1, s2, s3, s4, s5, s6, s7, s8⟩
           go_simp
           with_reducible rfl
          rotate_left
          ·simp only [Act.put, List.setIfInBounds_toArray, List.set_cons_zero, List.set_cons_succ, i64_w, i32_w]
           rfl
          refine one_ (i := 27) (N := some 41) #[true, true, true, true, true, true, true, true, true, true, true, true, true, true, true, true, true, true, true, true, true, true, true, true, true, true, true, true, false, false, false, false, false, false, false, false, false, false] rfl rfl (one_of HT_.out (by kernel_rfl)) (by decide) (fun K hK => ?_)
          refine goes_ Try.func37 (by kernel_rfl) rfl #[.int .i64 a1_2] (by rfl) rfl rfl (by (try simp only [List.map_toArray, List.map_cons, List.map_nil]); first | done | rfl | (simp only [List.length_drop, List.length_take]; rfl)) ?_
          with_reducible refine (linkhouseref3_Width.calls kj2 a1_2 t170 _ A16.out).mono ?_
          rintro e w' ⟨rfl, ⟨nd, rfl⟩⟩
          refine ⟨_, rfl, ?_⟩
          refine hK.out _ _ ⟨(blk_cell BK166.out 0).trans rfl, (blk_cell BK166.out 1).trans rfl, (blk_cell BK166.out 2).trans rfl, (blk_cell BK166.out 3).trans rfl, (blk_cell BK166.out 4).trans rfl, (blk_cell BK166.out 5).trans rfl, ((HB.out.cell (World.block_lt_of_cell? w _ hw169_0)).trans hw169_0), ((HB.out.cell (World.block_lt_of_cell? w _ hw169_1)).trans hw169_1), ((HB.out.cell (World.block_lt_of_cell? w _ hw169_2)).trans hw169_2)⟩ (fun hHeld => ?_)
          clear hK K
          refine norm_ (a' := ?_) ?_ ?_
          rotate_left
          ·show Act.put _ (some 41) _ = _
           simp only [Act.put, List.setIfInBounds_toArray, List.set_cons_zero, List.set_cons_succ, i64_w, i32_w]
           rfl
          refine pure_ (i := 28) (N := some 42) (v := ?_) (a' := ?_) #[true, true, true, true, true, true, true, true, true, true, true, true, true, true, true, true, true, true, true, true, true, true, true, true, true, true, true, true, true, false, false, false, false, false, false, false, false, false] rfl rfl (any_of HT_.out (by kernel_rfl)) (fun _ _ _ h => h) (Or.inl ⟨by rfl, ?_⟩) ?_ ?_
          rotate_left
          ·intro w'
           go_simp
           with_reducible rfl
          rotate_left
          ·simp only [Act.put, List.setIfInBounds_toArray, List.set_cons_zero, List.set_cons_succ, i64_w, i32_w]
           rfl
          refine one_ (i := 29) (N := some 43) #[true, true, true, true, true, true, true, true, true, true, true, true, true, true, true, true, true, true, true, true, true, true, true, true, true, true, true, true, true, true, false, false, false, false, false, false, false, false] rfl rfl (one_of HT_.out (by kernel_rfl)) (by decide) (fun K hK => ?_)
          refine goes_ Try.func17 (by kernel_rfl) rfl #[.int .i64 a1_1, .int .i64 0, .int .i64 (wrap64 (((rd_T57 l0 a1_0).f1) - t170))] (by rfl) rfl rfl (by (try simp only [List.map_toArray, List.map_cons, List.map_nil]); first | done | rfl | (simp only [List.length_drop, List.length_take]; rfl)) ?_
          with_reducible refine (linkhouseref4_In.calls a1_1 0 (wrap64 (((rd_T57 l0 a1_0).f1) - t170)) false _ A17.out).mono ?_
          rintro e w' ⟨rfl, ⟨nd, rfl⟩⟩
          refine ⟨_, rfl, ?_⟩
          refine hK.out _ _ ⟨(blk_cell BK166.out 0).trans rfl, (blk_cell BK166.out 1).trans rfl, (blk_cell BK166.out 2).trans rfl, (blk_cell BK166.out 3).trans rfl, (blk_cell BK166.out 4).trans rfl, (blk_cell BK166.out 5).trans rfl, ((HB.out.cell (World.block_lt_of_cell? w _ hw169_0)).trans hw169_0), ((HB.out.cell (World.block_lt_of_cell? w _ hw169_1)).trans hw169_1), ((HB.out.cell (World.block_lt_of_cell? w _ hw169_2)).trans hw169_2)⟩ (fun hHeld => ?_)
          clear hK K
          refine norm_ (a' := ?_) ?_ ?_
          rotate_left
          ·show Act.put _ (some 43) _ = _
           simp only [Act.put, List.setIfInBounds_toArray, List.set_cons_zero, List.set_cons_succ, i64_w, i32_w]
           rfl
          refine pure_ (i := 30) (N := some 44) (v := ?_) (a' := ?_) #[true, true, true, true, true, true, true, true, true, true, true, true, true, true, true, true, true, true, true, true, true, true, true, true, true, true, true, true, true, true, true, false, false, false, false, false, false, false] rfl rfl (any_of HT_.out (by kernel_rfl)) (fun _ _ _ h => h) (Or.inl ⟨by rfl, ?_⟩) ?_ ?_
          rotate_left
          ·intro w'
           go_simp
           with_reducible rfl
          rotate_left
          ·simp only [Act.put, List.setIfInBounds_toArray, List.set_cons_zero, List.set_cons_succ, i64_w, i32_w]
           rfl
          refine pure_ (i := 31) (N := some 45) (v := ?_) (a' := ?_) #[true, true, true, true, true, true, true, true, true, true, true, true, true, true, true, true, true, true, true, true, true, true, true, true, true, true, true, true, true, true, true, true, false, false, false, false, false, false] rfl rfl (any_of HT_.out (by kernel_rfl)) (fun _ _ _ h => h) (Or.inl ⟨by rfl, ?_⟩) ?_ ?_
          rotate_left
          ·intro w'
           go_simp
           with_reducible rfl
          rotate_left
          ·simp only [Act.put, List.setIfInBounds_toArray, List.set_cons_zero, List.set_cons_succ, i64_w, i32_w]
           rfl
          refine pure_ (i := 32) (N := some 46) (v := ?_) (a' := ?_) #[true, true, true, true, true, true, true, true, true, true, true, true, true, true, true, true, true, true, true, true, true, true, true, true, true, true, true, true, true, true, true, true, true, false, false, false, false, false] rfl rfl (any_of HT_.out (by kernel_rfl)) (fun _ _ _ h => h) (Or.inl ⟨by rfl, ?_⟩) ?_ ?_
          rotate_left
          ·intro w'
           go_simp
           with_reducible rfl
          rotate_left
          ·simp only [Act.put, List.setIfInBounds_toArray, List.set_cons_zero, List.set_cons_succ, i64_w, i32_w]
           rfl
          refine pure_ (i := 33) (N := some 47) (v := undef) (a' := ?_) #[true, true, true, true, true, true, true, true, true, true, true, true, true, true, true, true, true, true, true, true, true, true, true, true, true, true, true, true, true, true, true, true, true, true, false, false, false, false] rfl rfl (any_of HT_.out (by kernel_rfl)) (fun _ _ _ h => h) (Or.inr ⟨by rfl, rfl⟩) ?_ ?_
          rotate_left
          ·simp only [Act.put, List.setIfInBounds_toArray, List.set_cons_zero, List.set_cons_succ, i64_w, i32_w]
           rfl
          refine pure_ (i := 34) (N := some 48) (v := undef) (a' := ?_) #[true, true, true, true, true, true, true, true, true, true, true, true, true, true, true, true, true, true, true, true, true, true, true, true, true, true, true, true, true, true, true, true, true, true, true, false, false, false] rfl rfl (any_of HT_.out (by kernel_rfl)) (fun _ _ _ h => h) (Or.inr ⟨by rfl, rfl⟩) ?_ ?_
          rotate_left
          ·simp only [Act.put, List.setIfInBounds_toArray, List.set_cons_zero, List.set_cons_succ, i64_w, i32_w]
           rfl
          refine pure_ (i := 35) (N := some 49) (v := undef) (a' := ?_) #[true, true, true, true, true, true, true, true, true, true, true, true, true, true, true, true, true, true, true, true, true, true, true, true, true, true, true, true, true, true, true, true, true, true, true, true, false, false] rfl rfl (any_of HT_.out (by kernel_rfl)) (fun _ _ _ h => h) (Or.inr ⟨by rfl, rfl⟩) ?_ ?_
          rotate_left
          ·simp only [Act.put, List.setIfInBounds_toArray, List.set_cons_zero, List.set_cons_succ, i64_w, i32_w]
           rfl
          refine pure_ (i := 36) (N := some 50) (v := undef) (a' := ?_) #[true, true, true, true, true, true, true, true, true, true, true, true, true, true, true, true, true, true, true, true, true, true, true, true, true, true, true, true, true, true, true, true, true, true, true, true, true, false] rfl rfl (any_of HT_.out (by kernel_rfl)) (fun _ _ _ h => h) (Or.inr ⟨by rfl, rfl⟩) ?_ ?_
          rotate_left
          ·simp only [Act.put, List.setIfInBounds_toArray, List.set_cons_zero, List.set_cons_succ, i64_w, i32_w]
           rfl
          refine pure_ (i := 37) (N := some 51) (v := ?_) (a' := ?_) #[true, true, true, true, true, true, true, true, true, true, true, true, true, true, true, true, true, true, true, true, true, true, true, true, true, true, true, true, true, true, true, true, true, true, true, true, true, true] rfl rfl (any_of HT_.out (by kernel_rfl)) (fun _ _ _ h => h) (Or.inl ⟨by rfl, ?_⟩) ?_ ?_
          rotate_left
          ·intro w'
           go_simp
           with_reducible rfl
          rotate_left
          ·simp only [Act.put, List.setIfInBounds_toArray, List.set_cons_zero, List.set_cons_succ, i64_w, i32_w]
           rfl
          refine done_ (done_of HT_.out (by kernel_rfl)) ?_
          try go_wp2
          go_meet
          case rel => exact ⟨_, (true), (by first | rfl | (simp; done) | (simp [*]; done)), H', ⟨by have := HJ2.out; first | omega | exact Nat.le_refl _⟩, ⟨by (with_reducible repeat (first | refine blk_drewN ?_ _ | refine blk_drew ?_ | refine blk_alloc ?_ _)); exact BK166.out⟩, ⟨by repeat (first | (with_reducible first | exact HB.out | apply below_alloc | apply pw_below_drewN | apply below_drew1 | refine below_set ?_ GE166.out) | exact HB.out)⟩⟩
        ·rw [if_neg c15] at H
         exact absurd H (by simp)
       ·rw [if_neg c14] at H
        exact absurd H (by simp)
      ·replace c13 := Bool.eq_false_iff.mpr c13
       subst c13
       have H1 : (linkhouseref4_BranchCode.j1 kj2 l0 true a1_0 a1_1 a1_2 a1_3 a1_4 a1_5) = some r := by rw [if_neg (show ¬ (false = true) by decide)] at H; exact H
       clear H
       have H := H1
       clear H1
       have H' := Aside0.mk H
       clear H
       try go_wp2
       have n0_ := Aside0.mk (blk_drew BK166.out)
       have n1_ := Aside0.mk (below_drew1 HB.out)
       clear BK166
       clear HB
       have BK166 := n0_
       have HB := n1_
       clear n0_ n1_
       refine start_ (n := 38) (S := fun w' => w'.cell? ⟨gb166, 0, none⟩ = some (.int .i64 a1_0) ∧ w'.cell? ⟨gb166, 1, none⟩ = some (.int .i64 a1_1) ∧ w'.cell? ⟨gb166, 2, none⟩ = some (.int .i64 a1_2) ∧ w'.cell? ⟨gb166, 3, none⟩ = some (.int .i64 a1_3) ∧ w'.cell? ⟨gb166, 4, none⟩ = some (.int .i64 a1_4) ∧ w'.cell? ⟨gb166, 5, none⟩ = some (.int .i64 a1_5)) (ds := []) #[false, false, false, false, false, false, false, false, false, false, false, false, false, false, false, false, false, false, false, false, false, false, false, false, false, false, false, false, false, false, false, false, false, false, false, false, false, false] (by kernel_rfl) rfl rfl ⟨(blk_cell BK166.out 0).trans rfl, (blk_cell BK166.out 1).trans rfl, (blk_cell BK166.out 2).trans rfl, (blk_cell BK166.out 3).trans rfl, (blk_cell BK166.out 4).trans rfl, (blk_cell BK166.out 5).trans rfl⟩ (fun hHeld => ?_); refine with_tabW linkhouseref4_BranchCode.tab3 linkhouseref4_BranchCode.bits3 (fun HT_ HW_ => ?_)
       generalize wc.drew = w22 at BK166 HB hHeld ⊢
       refine pure_ (i := 0) (N := some 14) (v := ?_) (a' := ?_) #[true, false, false, false, false, false, false, false, false, false, false, false, false, false, false, false, false, false, false, false, false, false, false, false, false, false, false, false, false, false, false, false, false, false, false, false, false, false] rfl rfl (any_of HT_.out (by kernel_rfl)) (fun _ _ _ h => h) (Or.inl ⟨by rfl, ?_⟩) ?_ ?_
       rotate_left
       ·intro w'
        go_simp
        with_reducible rfl
       rotate_left
       ·simp only [Act.put, List.setIfInBounds_toArray, List.set_cons_zero, List.set_cons_succ, i64_w, i32_w]
        rfl
       refine pure_ (i := 2) (N := some 16) (v := ?_) (a' := ?_) #[true, false, true, false, false, false, false, false, false, false, false, false, false, false, false, false, false, false, false, false, false, false, false, false, false, false, false, false, false, false, false, false, false, false, false, false, false, false] rfl rfl (any_of HT_.out (by kernel_rfl)) (fun _ _ _ h => h) (Or.inl ⟨by rfl, ?_⟩) ?_ ?_
       rotate_left
       ·intro w'
        go_simp
        with_reducible rfl
       rotate_left
       ·simp only [Act.put, List.setIfInBounds_toArray, List.set_cons_zero, List.set_cons_succ, i64_w, i32_w]
        rfl
       refine pure_ (i := 3) (N := some 17) (v := ?_) (a' := ?_) #[true, false, true, true, false, false, false, false, false, false, false, false, false, false, false, false, false, false, false, false, false, false, false, false, false, false, false, false, false, false, false, false, false, false, false, false, false, false] rfl rfl (any_of HT_.out (by kernel_rfl)) (fun _ _ _ h => h) (Or.inl ⟨by rfl, ?_⟩) ?_ ?_
       rotate_left
       ·intro w'
        go_simp
        with_reducible rfl
       rotate_left
       ·simp only [Act.put, List.setIfInBounds_toArray, List.set_cons_zero, List.set_cons_succ, i64_w, i32_w]
        rfl
       refine pure_ (i := 4) (N := some 18) (v := ?_) (a' := ?_) #[true, false, true, true, true, false, false, false, false, false, false, false, false, false, false, false, false, false, false, false, false, false, false, false, false, false, false, false, false, false, false, false, false, false, false, false, false, false] rfl rfl (any_of HT_.out (by kernel_rfl)) (fun _ _ _ h => h) (Or.inl ⟨by rfl, ?_⟩) ?_ ?_
       rotate_left
       ·intro w'
        go_simp
        with_reducible rfl
       rotate_left
       ·simp only [Act.put, List.setIfInBounds_toArray, List.set_cons_zero, List.set_cons_succ, i64_w, i32_w]
        rfl
       refine take_ (i := 1) (N := some 15) (v := ?_) (a' := ?_) #[true, true, true, true, true, false, false, false, false, false, false, false, false, false, false, false, false, false, false, false, false, false, false, false, false, false, false, false, false, false, false, false, false, false, false, false, false, false] rfl rfl (take_ofW HT_.out HW_.out (by kernel_rfl)) (fun _ _ _ h => h) (Or.inl ⟨by rfl, ?_⟩) hHeld ?_ ?_
       rotate_left
       ·rintro w' ⟨s0, s1, s2, s3, s4, s5⟩
        go_simp
        with_reducible rfl
       rotate_left
       ·simp only [Act.put, List.setIfInBounds_toArray, List.set_cons_zero, List.set_cons_succ, i64_w, i32_w]
        rfl
       refine one_ (i := 5) (N := some 19) #[true, true, true, true, true, true, false, false, false, false, false, false, false, false, false, false, false, false, false, false, false, false, false, false, false, false, false, false, false, false, false, false, false, false, false, false, false, false] rfl rfl (one_of HT_.out (by kernel_rfl)) (by decide) (fun K hK => ?_)
       refine goes_ Try.func17 (by kernel_rfl) rfl #[.int .i64 a1_0, .int .i64 0, .int .i64 (wrap64 ((l0.length : Int) - 1))] (by rfl) rfl rfl (by (try simp only [List.map_toArray, List.map_cons, List.map_nil]); first | done | rfl | (simp only [List.length_drop, List.length_take]; rfl)) ?_
       with_reducible refine (linkhouseref4_In.calls a1_0 0 (wrap64 ((l0.length : Int) - 1)) true _ A10.out).mono ?_
       rintro e w' ⟨rfl, ⟨nd, rfl⟩⟩
       refine ⟨_, rfl, ?_⟩
       refine hK.out _ _ ⟨(blk_cell BK166.out 0).trans rfl, (blk_cell BK166.out 1).trans rfl, (blk_cell BK166.out 2).trans rfl, (blk_cell BK166.out 3).trans rfl, (blk_cell BK166.out 4).trans rfl, (blk_cell BK166.out 5).trans rfl⟩ (fun hHeld => ?_)
       clear hK K
       refine norm_ (a' := ?_) ?_ ?_
       rotate_left
       ·show Act.put _ (some 19) _ = _
        simp only [Act.put, List.setIfInBounds_toArray, List.set_cons_zero, List.set_cons_succ, i64_w, i32_w]
        rfl
       refine pure_ (i := 6) (N := some 20) (v := ?_) (a' := ?_) #[true, true, true, true, true, true, true, false, false, false, false, false, false, false, false, false, false, false, false, false, false, false, false, false, false, false, false, false, false, false, false, false, false, false, false, false, false, false] rfl rfl (any_of HT_.out (by kernel_rfl)) (fun _ _ _ h => h) (Or.inl ⟨by rfl, ?_⟩) ?_ ?_
       rotate_left
       ·intro w'
        go_simp
        with_reducible rfl
       rotate_left
       ·simp only [Act.put, List.setIfInBounds_toArray, List.set_cons_zero, List.set_cons_succ, i64_w, i32_w]
        rfl
       refine pure_ (i := 7) (N := some 21) (v := ?_) (a' := ?_) #[true, true, true, true, true, true, true, true, false, false, false, false, false, false, false, false, false, false, false, false, false, false, false, false, false, false, false, false, false, false, false, false, false, false, false, false, false, false] rfl rfl (any_of HT_.out (by kernel_rfl)) (fun _ _ _ h => h) (Or.inl ⟨by rfl, ?_⟩) ?_ ?_
       rotate_left
       ·intro w'
        go_simp
        with_reducible rfl
       rotate_left
       ·simp only [Act.put, List.setIfInBounds_toArray, List.set_cons_zero, List.set_cons_succ, i64_w, i32_w]
        rfl
       refine pure_ (i := 8) (N := some 22) (v := ?_) (a' := ?_) #[true, true, true, true, true, true, true, true, true, false, false, false, false, false, false, false, false, false, false, false, false, false, false, false, false, false, false, false, false, false, false, false, false, false, false, false, false, false] rfl rfl (any_of HT_.out (by kernel_rfl)) (fun _ _ _ h => h) (Or.inl ⟨by rfl, ?_⟩) ?_ ?_
       rotate_left
       ·intro w'
        go_simp
        with_reducible rfl
       rotate_left
       ·simp only [Act.put, List.setIfInBounds_toArray, List.set_cons_zero, List.set_cons_succ, i64_w, i32_w]
        rfl
       refine pure_ (i := 10) (N := some 24) (v := ?_) (a' := ?_) #[true, true, true, true, true, true, true, true, true, false, true, false, false, false, false, false, false, false, false, false, false, false, false, false, false, false, false, false, false, false, false, false, false, false, false, false, false, false] rfl rfl (any_of HT_.out (by kernel_rfl)) (fun _ _ _ h => h) (Or.inl ⟨by rfl, ?_⟩) ?_ ?_
       rotate_left
       ·intro w'
        go_simp
        with_reducible rfl
       rotate_left
       ·simp only [Act.put, List.setIfInBounds_toArray, List.set_cons_zero, List.set_cons_succ, i64_w, i32_w]
        rfl
       refine pure_ (i := 11) (N := some 25) (v := ?_) (a' := ?_) #[true, true, true, true, true, true, true, true, true, false, true, true, false, false, false, false, false, false, false, false, false, false, false, false, false, false, false, false, false, false, false, false, false, false, false, false, false, false] rfl rfl (any_of HT_.out (by kernel_rfl)) (fun _ _ _ h => h) (Or.inl ⟨by rfl, ?_⟩) ?_ ?_
       rotate_left
       ·intro w'
        go_simp
        with_reducible rfl
       rotate_left
       ·simp only [Act.put, List.setIfInBounds_toArray, List.set_cons_zero, List.set_cons_succ, i64_w, i32_w]
        rfl
       refine pure_ (i := 12) (N := some 26) (v := ?_) (a' := ?_) #[true, true, true, true, true, true, true, true, true, false, true, true, true, false, false, false, false, false, false, false, false, false, false, false, false, false, false, false, false, false, false, false, false, false, false, false, false, false] rfl rfl (any_of HT_.out (by kernel_rfl)) (fun _ _ _ h => h) (Or.inl ⟨by rfl, ?_⟩) ?_ ?_
       rotate_left
       ·intro w'
        go_simp
        with_reducible rfl
       rotate_left
       ·simp only [Act.put, List.setIfInBounds_toArray, List.set_cons_zero, List.set_cons_succ, i64_w, i32_w]
        rfl
       refine take_ (i := 9) (N := some 23) (v := ?_) (a' := ?_) #[true, true, true, true, true, true, true, true, true, true, true, true, true, false, false, false, false, false, false, false, false, false, false, false, false, false, false, false, false, false, false, false, false, false, false, false, false, false] rfl rfl (take_ofW HT_.out HW_.out (by kernel_rfl)) (fun _ _ _ h => h) (Or.inl ⟨by rfl, ?_⟩) hHeld ?_ ?_
       rotate_left
       ·rintro w' ⟨s0, s1, s2, s3, s4, s5⟩
        go_simp
        with_reducible rfl
       rotate_left
       ·simp only [Act.put, List.setIfInBounds_toArray, List.set_cons_zero, List.set_cons_succ, i64_w, i32_w]
        rfl
       refine one_ (i := 13) (N := some 27) #[true, true, true, true, true, true, true, true, true, true, true, true, true, true, false, false, false, false, false, false, false, false, false, false, false, false, false, false, false, false, false, false, false, false, false, false, false, false] rfl rfl (one_of HT_.out (by kernel_rfl)) (by decide) (fun K hK => ?_)
       refine goes_ Try.func17 (by kernel_rfl) rfl #[.int .i64 a1_4, .int .i64 (-1), .int .i64 (wrap64 ((l0.length : Int) - 1))] (by rfl) rfl rfl (by (try simp only [List.map_toArray, List.map_cons, List.map_nil]); first | done | rfl | (simp only [List.length_drop, List.length_take]; rfl)) ?_
       with_reducible refine (linkhouseref4_In.calls a1_4 (-1) (wrap64 ((l0.length : Int) - 1)) false _ A12.out).mono ?_
       rintro e w' ⟨rfl, ⟨nd, rfl⟩⟩
       refine ⟨_, rfl, ?_⟩
       refine hK.out _ _ ⟨(blk_cell BK166.out 0).trans rfl, (blk_cell BK166.out 1).trans rfl, (blk_cell BK166.out 2).trans rfl, (blk_cell BK166.out 3).trans rfl, (blk_cell BK166.out 4).trans rfl, (blk_cell BK166.out 5).trans rfl⟩ (fun hHeld => ?_)
       clear hK K
       refine norm_ (a' := ?_) ?_ ?_
       rotate_left
       ·show Act.put _ (some 27) _ = _
        simp only [Act.put, List.setIfInBounds_toArray, List.set_cons_zero, List.set_cons_succ, i64_w, i32_w]
        rfl
       refine pure_ (i := 14) (N := some 28) (v := ?_) (a' := ?_) #[true, true, true, true, true, true, true, true, true, true, true, true, true, true, true, false, false, false, false, false, false, false, false, false, false, false, false, false, false, false, false, false, false, false, false, false, false, false] rfl rfl (any_of HT_.out (by kernel_rfl)) (fun _ _ _ h => h) (Or.inl ⟨by rfl, ?_⟩) ?_ ?_
       rotate_left
       ·intro w'
        go_simp
        with_reducible rfl
       rotate_left
       ·simp only [Act.put, List.setIfInBounds_toArray, List.set_cons_zero, List.set_cons_succ, i64_w, i32_w]
        rfl
       refine pure_ (i := 15) (N := some 29) (v := ?_) (a' := ?_) #[true, true, true, true, true, true, true, true, true, true, true, true, true, true, true, true, false, false, false, false, false, false, false, false, false, false, false, false, false, false, false, false, false, false, false, false, false, false] rfl rfl (any_of HT_.out (by kernel_rfl)) (fun _ _ _ h => h) (Or.inl ⟨by rfl, ?_⟩) ?_ ?_
       rotate_left
       ·intro w'
        go_simp
        with_reducible rfl
       rotate_left
       ·simp only [Act.put, List.setIfInBounds_toArray, List.set_cons_zero, List.set_cons_succ, i64_w, i32_w]
        rfl
       refine pure_ (i := 16) (N := some 30) (v := ?_) (a' := ?_) #[true, true, true, true, true, true, true, true, true, true, true, true, true, true, true, true, true, false, false, false, false, false, false, false, false, false, false, false, false, false, false, false, false, false, false, false, false, false] rfl rfl (any_of HT_.out (by kernel_rfl)) (fun _ _ _ h => h) (Or.inl ⟨by rfl, ?_⟩) ?_ ?_
       rotate_left
       ·intro w'
        go_simp
        with_reducible rfl
       rotate_left
       ·simp only [Act.put, List.setIfInBounds_toArray, List.set_cons_zero, List.set_cons_succ, i64_w, i32_w]
        rfl
       refine pure_ (i := 17) (N := some 31) (v := undef) (a' := ?_) #[true, true, true, true, true, true, true, true, true, true, true, true, true, true, true, true, true, true, false, false, false, false, false, false, false, false, false, false, false, false, false, false, false, false, false, false, false, false] rfl rfl (any_of HT_.out (by kernel_rfl)) (fun _ _ _ h => h) (Or.inr ⟨by rfl, rfl⟩) ?_ ?_
       rotate_left
       ·simp only [Act.put, List.setIfInBounds_toArray, List.set_cons_zero, List.set_cons_succ, i64_w, i32_w]
        rfl
       refine pure_ (i := 18) (N := some 32) (v := undef) (a' := ?_) #[true, true, true, true, true, true, true, true, true, true, true, true, true, true, true, true, true, true, true, false, false, false, false, false, false, false, false, false, false, false, false, false, false, false, false, false, false, false] rfl rfl (any_of HT_.out (by kernel_rfl)) (fun _ _ _ h => h) (Or.inr ⟨by rfl, rfl⟩) ?_ ?_
       rotate_left
       ·simp only [Act.put, List.setIfInBounds_toArray, List.set_cons_zero, List.set_cons_succ, i64_w, i32_w]
        rfl
       refine pure_ (i := 19) (N := some 33) (v := undef) (a' := ?_) #[true, true, true, true, true, true, true, true, true, true, true, true, true, true, true, true, true, true, true, true, false, false, false, false, false, false, false, false, false, false, false, false, false, false, false, false, false, false] rfl rfl (any_of HT_.out (by kernel_rfl)) (fun _ _ _ h => h) (Or.inr ⟨by rfl, rfl⟩) ?_ ?_
       rotate_left
       ·simp only [Act.put, List.setIfInBounds_toArray, List.set_cons_zero, List.set_cons_succ, i64_w, i32_w]
        rfl
       refine pure_ (i := 20) (N := some 34) (v := undef) (a' := ?_) #[true, true, true, true, true, true, true, true, true, true, true, true, true, true, true, true, true, true, true, true, true, false, false, false, false, false, false, false, false, false, false, false, false, false, false, false, false, false] rfl rfl (any_of HT_.out (by kernel_rfl)) (fun _ _ _ h => h) (Or.inr ⟨by rfl, rfl⟩) ?_ ?_
       rotate_left
       ·simp only [Act.put, List.setIfInBounds_toArray, List.set_cons_zero, List.set_cons_succ, i64_w, i32_w]
        rfl
       refine pure_ (i := 21) (N := some 35) (v := undef) (a' := ?_) #[true, true, true, true, true, true, true, true, true, true, true, true, true, true, true, true, true, true, true, true, true, true, false, false, false, false, false, false, false, false, false, false, false, false, false, false, false, false] rfl rfl (any_of HT_.out (by kernel_rfl)) (fun _ _ _ h => h) (Or.inr ⟨by rfl, rfl⟩) ?_ ?_
       rotate_left
       ·simp only [Act.put, List.setIfInBounds_toArray, List.set_cons_zero, List.set_cons_succ, i64_w, i32_w]
        rfl
       refine pure_ (i := 22) (N := some 36) (v := undef) (a' := ?_) #[true, true, true, true, true, true, true, true, true, true, true, true, true, true, true, true, true, true, true, true, true, true, true, false, false, false, false, false, false, false, false, false, false, false, false, false, false, false] rfl rfl (any_of HT_.out (by kernel_rfl)) (fun _ _ _ h => h) (Or.inr ⟨by rfl, rfl⟩) ?_ ?_
       rotate_left
       ·simp only [Act.put, List.setIfInBounds_toArray, List.set_cons_zero, List.set_cons_succ, i64_w, i32_w]
        rfl
       refine pure_ (i := 23) (N := some 37) (v := undef) (a' := ?_) #[true, true, true, true, true, true, true, true, true, true, true, true, true, true, true, true, true, true, true, true, true, true, true, true, false, false, false, false, false, false, false, false, false, false, false, false, false, false] rfl rfl (any_of HT_.out (by kernel_rfl)) (fun _ _ _ h => h) (Or.inr ⟨by rfl, rfl⟩) ?_ ?_
       rotate_left
       ·simp only [Act.put, List.setIfInBounds_toArray, List.set_cons_zero, List.set_cons_succ, i64_w, i32_w]
        rfl
       refine pure_ (i := 24) (N := some 38) (v := undef) (a' := ?_) #[true, true, true, true, true, true, true, true, true, true, true, true, true, true, true, true, true, true, true, true, true, true, true, true, true, false, false, false, false, false, false, false, false, false, false, false, false, false] rfl rfl (any_of HT_.out (by kernel_rfl)) (fun _ _ _ h => h) (Or.inr ⟨by rfl, rfl⟩) ?_ ?_
       rotate_left
       ·simp only [Act.put, List.setIfInBounds_toArray, List.set_cons_zero, List.set_cons_succ, i64_w, i32_w]
        rfl
       refine pure_ (i := 25) (N := some 39) (v := undef) (a' := ?_) #[true, true, true, true, true, true, true, true, true, true, true, true, true, true, true, true, true, true, true, true, true, true, true, true, true, true, false, false, false, false, false, false, false, false, false, false, false, false] rfl rfl (any_of HT_.out (by kernel_rfl)) (fun _ _ _ h => h) (Or.inr ⟨by rfl, rfl⟩) ?_ ?_
       rotate_left
       ·simp only [Act.put, List.setIfInBounds_toArray, List.set_cons_zero, List.set_cons_succ, i64_w, i32_w]
        rfl
       refine pure_ (i := 26) (N := some 40) (v := undef) (a' := ?_) #[true, true, true, true, true, true, true, true, true, true, true, true, true, true, true, true, true, true, true, true, true, true, true, true, true, true, true, false, false, false, false, false, false, false, false, false, false, false] rfl rfl (any_of HT_.out (by kernel_rfl)) (fun _ _ _ h => h) (Or.inr ⟨by rfl, rfl⟩) ?_ ?_
       rotate_left
       ·simp only [Act.put, List.setIfInBounds_toArray, List.set_cons_zero, List.set_cons_succ, i64_w, i32_w]
        rfl
       refine pure_ (i := 27) (N := some 41) (v := undef) (a' := ?_) #[true, true, true, true, true, true, true, true, true, true, true, true, true, true, true, true, true, true, true, true, true, true, true, true, true, true, true, true, false, false, false, false, false, false, false, false, false, false] rfl rfl (any_of HT_.out (by kernel_rfl)) (fun _ _ _ h => h) (Or.inr ⟨by rfl, rfl⟩) ?_ ?_
       rotate_left
       ·simp only [Act.put, List.setIfInBounds_toArray, List.set_cons_zero, List.set_cons_succ, i64_w, i32_w]
        rfl
       refine pure_ (i := 28) (N := some 42) (v := undef) (a' := ?_) #[true, true, true, true, true, true, true, true, true, true, true, true, true, true, true, true, true, true, true, true, true, true, true, true, true, true, true, true, true, false, false, false, false, false, false, false, false, false] rfl rfl (any_of HT_.out (by kernel_rfl)) (fun _ _ _ h => h) (Or.inr ⟨by rfl, rfl⟩) ?_ ?_
       rotate_left
       ·simp only [Act.put, List.setIfInBounds_toArray, List.set_cons_zero, List.set_cons_succ, i64_w, i32_w]
        rfl
       refine pure_ (i := 29) (N := some 43) (v := undef) (a' := ?_) #[true, true, true, true, true, true, true, true, true, true, true, true, true, true, true, true, true, true, true, true, true, true, true, true, true, true, true, true, true, true, false, false, false, false, false, false, false, false] rfl rfl (any_of HT_.out (by kernel_rfl)) (fun _ _ _ h => h) (Or.inr ⟨by rfl, rfl⟩) ?_ ?_
       rotate_left
       ·simp only [Act.put, List.setIfInBounds_toArray, List.set_cons_zero, List.set_cons_succ, i64_w, i32_w]
        rfl
       refine pure_ (i := 30) (N := some 44) (v := undef) (a' := ?_) #[true, true, true, true, true, true, true, true, true, true, true, true, true, true, true, true, true, true, true, true, true, true, true, true, true, true, true, true, true, true, true, false, false, false, false, false, false, false] rfl rfl (any_of HT_.out (by kernel_rfl)) (fun _ _ _ h => h) (Or.inr ⟨by rfl, rfl⟩) ?_ ?_
       rotate_left
       ·simp only [Act.put, List.setIfInBounds_toArray, List.set_cons_zero, List.set_cons_succ, i64_w, i32_w]
        rfl
       refine pure_ (i := 31) (N := some 45) (v := ?_) (a' := ?_) #[true, true, true, true, true, true, true, true, true, true, true, true, true, true, true, true, true, true, true, true, true, true, true, true, true, true, true, true, true, true, true, true, false, false, false, false, false, false] rfl rfl (any_of HT_.out (by kernel_rfl)) (fun _ _ _ h => h) (Or.inl ⟨by rfl, ?_⟩) ?_ ?_
       rotate_left
       ·intro w'
        go_simp
        with_reducible rfl
       rotate_left
       ·simp only [Act.put, List.setIfInBounds_toArray, List.set_cons_zero, List.set_cons_succ, i64_w, i32_w]
        rfl
       refine pure_ (i := 32) (N := some 46) (v := ?_) (a' := ?_) #[true, true, true, true, true, true, true, true, true, true, true, true, true, true, true, true, true, true, true, true, true, true, true, true, true, true, true, true, true, true, true, true, true, false, false, false, false, false] rfl rfl (any_of HT_.out (by kernel_rfl)) (fun _ _ _ h => h) (Or.inl ⟨by rfl, ?_⟩) ?_ ?_
       rotate_left
       ·intro w'
        go_simp
        with_reducible rfl
       rotate_left
       ·simp only [Act.put, List.setIfInBounds_toArray, List.set_cons_zero, List.set_cons_succ, i64_w, i32_w]
        rfl
       refine pure_ (i := 33) (N := some 47) (v := undef) (a' := ?_) #[true, true, true, true, true, true, true, true, true, true, true, true, true, true, true, true, true, true, true, true, true, true, true, true, true, true, true, true, true, true, true, true, true, true, false, false, false, false] rfl rfl (any_of HT_.out (by kernel_rfl)) (fun _ _ _ h => h) (Or.inr ⟨by rfl, rfl⟩) ?_ ?_
       rotate_left
       ·simp only [Act.put, List.setIfInBounds_toArray, List.set_cons_zero, List.set_cons_succ, i64_w, i32_w]
        rfl
       refine pure_ (i := 34) (N := some 48) (v := undef) (a' := ?_) #[true, true, true, true, true, true, true, true, true, true, true, true, true, true, true, true, true, true, true, true, true, true, true, true, true, true, true, true, true, true, true, true, true, true, true, false, false, false] rfl rfl (any_of HT_.out (by kernel_rfl)) (fun _ _ _ h => h) (Or.inr ⟨by rfl, rfl⟩) ?_ ?_
       rotate_left
       ·simp only [Act.put, List.setIfInBounds_toArray, List.set_cons_zero, List.set_cons_succ, i64_w, i32_w]
        rfl
       refine pure_ (i := 35) (N := some 49) (v := undef) (a' := ?_) #[true, true, true, true, true, true, true, true, true, true, true, true, true, true, true, true, true, true, true, true, true, true, true, true, true, true, true, true, true, true, true, true, true, true, true, true, false, false] rfl rfl (any_of HT_.out (by kernel_rfl)) (fun _ _ _ h => h) (Or.inr ⟨by rfl, rfl⟩) ?_ ?_
       rotate_left
       ·simp only [Act.put, List.setIfInBounds_toArray, List.set_cons_zero, List.set_cons_succ, i64_w, i32_w]
        rfl
       refine pure_ (i := 36) (N := some 50) (v := undef) (a' := ?_) #[true, true, true, true, true, true, true, true, true, true, true, true, true, true, true, true, true, true, true, true, true, true, true, true, true, true, true, true, true, true, true, true, true, true, true, true, true, false] rfl rfl (any_of HT_.out (by kernel_rfl)) (fun _ _ _ h => h) (Or.inr ⟨by rfl, rfl⟩) ?_ ?_
       rotate_left
       ·simp only [Act.put, List.setIfInBounds_toArray, List.set_cons_zero, List.set_cons_succ, i64_w, i32_w]
        rfl
       refine pure_ (i := 37) (N := some 51) (v := ?_) (a' := ?_) #[true, true, true, true, true, true, true, true, true, true, true, true, true, true, true, true, true, true, true, true, true, true, true, true, true, true, true, true, true, true, true, true, true, true, true, true, true, true] rfl rfl (any_of HT_.out (by kernel_rfl)) (fun _ _ _ h => h) (Or.inl ⟨by rfl, ?_⟩) ?_ ?_
       rotate_left
       ·intro w'
        go_simp
        with_reducible rfl
       rotate_left
       ·simp only [Act.put, List.setIfInBounds_toArray, List.set_cons_zero, List.set_cons_succ, i64_w, i32_w]
        rfl
       refine done_ (done_of HT_.out (by kernel_rfl)) ?_
       try go_wp2
       go_meet
       case rel => exact ⟨_, (true), (by first | rfl | (simp; done) | (simp [*]; done)), H', ⟨by have := HJ2.out; first | omega | exact Nat.le_refl _⟩, ⟨by (with_reducible repeat (first | refine blk_drewN ?_ _ | refine blk_drew ?_ | refine blk_alloc ?_ _)); exact BK166.out⟩, ⟨by repeat (first | (with_reducible first | exact HB.out | apply below_alloc | apply pw_below_drewN | apply below_drew1 | refine below_set ?_ GE166.out) | exact HB.out)⟩⟩
     ·replace c11 := Bool.eq_false_iff.mpr c11
      subst c11
      have H1 : (linkhouseref4_BranchCode.j1 kj2 l0 true a1_0 a1_1 a1_2 a1_3 a1_4 a1_5) = some r := by rw [if_neg (show ¬ (false = true) by decide)] at H; exact H
      clear H
      have H := H1
      clear H1
      have H' := Aside0.mk H
      clear H
      try go_wp2
      have n0_ := Aside0.mk (blk_drew BK166.out)
      have n1_ := Aside0.mk (below_drew1 HB.out)
      clear BK166
      clear HB
      have BK166 := n0_
      have HB := n1_
      clear n0_ n1_
      refine start_ (n := 38) (S := fun w' => w'.cell? ⟨gb166, 0, none⟩ = some (.int .i64 a1_0) ∧ w'.cell? ⟨gb166, 1, none⟩ = some (.int .i64 a1_1) ∧ w'.cell? ⟨gb166, 2, none⟩ = some (.int .i64 a1_2) ∧ w'.cell? ⟨gb166, 3, none⟩ = some (.int .i64 a1_3) ∧ w'.cell? ⟨gb166, 4, none⟩ = some (.int .i64 a1_4) ∧ w'.cell? ⟨gb166, 5, none⟩ = some (.int .i64 a1_5)) (ds := []) #[false, false, false, false, false, false, false, false, false, false, false, false, false, false, false, false, false, false, false, false, false, false, false, false, false, false, false, false, false, false, false, false, false, false, false, false, false, false] (by kernel_rfl) rfl rfl ⟨(blk_cell BK166.out 0).trans rfl, (blk_cell BK166.out 1).trans rfl, (blk_cell BK166.out 2).trans rfl, (blk_cell BK166.out 3).trans rfl, (blk_cell BK166.out 4).trans rfl, (blk_cell BK166.out 5).trans rfl⟩ (fun hHeld => ?_); refine with_tabW linkhouseref4_BranchCode.tab3 linkhouseref4_BranchCode.bits3 (fun HT_ HW_ => ?_)
      generalize wc.drew = w23 at BK166 HB hHeld ⊢
      refine pure_ (i := 0) (N := some 14) (v := ?_) (a' := ?_) #[true, false, false, false, false, false, false, false, false, false, false, false, false, false, false, false, false, false, false, false, false, false, false, false, false, false, false, false, false, false, false, false, false, false, false, false, false, false] rfl rfl (any_of HT_.out (by kernel_rfl)) (fun _ _ _ h => h) (Or.inl ⟨by rfl, ?_⟩) ?_ ?_
      rotate_left
      ·intro w'
       go_simp
       with_reducible rfl
      rotate_left
      ·simp only [Act.put, List.setIfInBounds_toArray, List.set_cons_zero, List.set_cons_succ, i64_w, i32_w]
       rfl
      refine pure_ (i := 2) (N := some 16) (v := ?_) (a' := ?_) #[true, false, true, false, false, false, false, false, false, false, false, false, false, false, false, false, false, false, false, false, false, false, false, false, false, false, false, false, false, false, false, false, false, false, false, false, false, false] rfl rfl (any_of HT_.out (by kernel_rfl)) (fun _ _ _ h => h) (Or.inl ⟨by rfl, ?_⟩) ?_ ?_
      rotate_left
      ·intro w'
       go_simp
       with_reducible rfl
      rotate_left
      ·simp only [Act.put, List.setIfInBounds_toArray, List.set_cons_zero, List.set_cons_succ, i64_w, i32_w]
       rfl
      refine pure_ (i := 3) (N := some 17) (v := ?_) (a' := ?_) #[true, false, true, true, false, false, false, false, false, false, false, false, false, false, false, false, false, false, false, false, false, false, false, false, false, false, false, false, false, false, false, false, false, false, false, false, false, false] rfl rfl (any_of HT_.out (by kernel_rfl)) (fun _ _ _ h => h) (Or.inl ⟨by rfl, ?_⟩) ?_ ?_
      rotate_left
      ·intro w'
       go_simp
       with_reducible rfl
      rotate_left
      ·simp only [Act.put, List.setIfInBounds_toArray, List.set_cons_zero, List.set_cons_succ, i64_w, i32_w]
       rfl
      refine pure_ (i := 4) (N := some 18) (v := ?_) (a' := ?_) #[true, false, true, true, true, false, false, false, false, false, false, false, false, false, false, false, false, false, false, false, false, false, false, false, false, false, false, false, false, false, false, false, false, false, false, false, false, false] rfl rfl (any_of HT_.out (by kernel_rfl)) (fun _ _ _ h => h) (Or.inl ⟨by rfl, ?_⟩) ?_ ?_
      rotate_left
      ·intro w'
       go_simp
       with_reducible rfl
      rotate_left
      ·simp only [Act.put, List.setIfInBounds_toArray, List.set_cons_zero, List.set_cons_succ, i64_w, i32_w]
       rfl
      refine take_ (i := 1) (N := some 15) (v := ?_) (a' := ?_) #[true, true, true, true, true, false, false, false, false, false, false, false, false, false, false, false, false, false, false, false, false, false, false, false, false, false, false, false, false, false, false, false, false, false, false, false, false, false] rfl rfl (take_ofW HT_.out HW_.out (by kernel_rfl)) (fun _ _ _ h => h) (Or.inl ⟨by rfl, ?_⟩) hHeld ?_ ?_
      rotate_left
      ·rintro w' ⟨s0, s1, s2, s3, s4, s5⟩
       go_simp
       with_reducible rfl
      rotate_left
      ·simp only [Act.put, List.setIfInBounds_toArray, List.set_cons_zero, List.set_cons_succ, i64_w, i32_w]
       rfl
      refine one_ (i := 5) (N := some 19) #[true, true, true, true, true, true, false, false, false, false, false, false, false, false, false, false, false, false, false, false, false, false, false, false, false, false, false, false, false, false, false, false, false, false, false, false, false, false] rfl rfl (one_of HT_.out (by kernel_rfl)) (by decide) (fun K hK => ?_)
      refine goes_ Try.func17 (by kernel_rfl) rfl #[.int .i64 a1_0, .int .i64 0, .int .i64 (wrap64 ((l0.length : Int) - 1))] (by rfl) rfl rfl (by (try simp only [List.map_toArray, List.map_cons, List.map_nil]); first | done | rfl | (simp only [List.length_drop, List.length_take]; rfl)) ?_
      with_reducible refine (linkhouseref4_In.calls a1_0 0 (wrap64 ((l0.length : Int) - 1)) false _ A10.out).mono ?_
      rintro e w' ⟨rfl, ⟨nd, rfl⟩⟩
      refine ⟨_, rfl, ?_⟩
      refine hK.out _ _ ⟨(blk_cell BK166.out 0).trans rfl, (blk_cell BK166.out 1).trans rfl, (blk_cell BK166.out 2).trans rfl, (blk_cell BK166.out 3).trans rfl, (blk_cell BK166.out 4).trans rfl, (blk_cell BK166.out 5).trans rfl⟩ (fun hHeld => ?_)
      clear hK K
      refine norm_ (a' := ?_) ?_ ?_
      rotate_left
      ·show Act.put _ (some 19) _ = _
       simp only [Act.put, List.setIfInBounds_toArray, List.set_cons_zero, List.set_cons_succ, i64_w, i32_w]
       rfl
      refine pure_ (i := 6) (N := some 20) (v := ?_) (a' := ?_) #[true, true, true, true, true, true, true, false, false, false, false, false, false, false, false, false, false, false, false, false, false, false, false, false, false, false, false, false, false, false, false, false, false, false, false, false, false, false] rfl rfl (any_of HT_.out (by kernel_rfl)) (fun _ _ _ h => h) (Or.inl ⟨by rfl, ?_⟩) ?_ ?_
      rotate_left
      ·intro w'
       go_simp
       with_reducible rfl
      rotate_left
      ·simp only [Act.put, List.setIfInBounds_toArray, List.set_cons_zero, List.set_cons_succ, i64_w, i32_w]
       rfl
      refine pure_ (i := 7) (N := some 21) (v := ?_) (a' := ?_) #[true, true, true, true, true, true, true, true, false, false, false, false, false, false, false, false, false, false, false, false, false, false, false, false, false, false, false, false, false, false, false, false, false, false, false, false, false, false] rfl rfl (any_of HT_.out (by kernel_rfl)) (fun _ _ _ h => h) (Or.inl ⟨by rfl, ?_⟩) ?_ ?_
      rotate_left
      ·intro w'
       go_simp
       with_reducible rfl
      rotate_left
      ·simp only [Act.put, List.setIfInBounds_toArray, List.set_cons_zero, List.set_cons_succ, i64_w, i32_w]
       rfl
      refine pure_ (i := 8) (N := some 22) (v := undef) (a' := ?_) #[true, true, true, true, true, true, true, true, true, false, false, false, false, false, false, false, false, false, false, false, false, false, false, false, false, false, false, false, false, false, false, false, false, false, false, false, false, false] rfl rfl (any_of HT_.out (by kernel_rfl)) (fun _ _ _ h => h) (Or.inr ⟨by rfl, rfl⟩) ?_ ?_
      rotate_left
      ·simp only [Act.put, List.setIfInBounds_toArray, List.set_cons_zero, List.set_cons_succ, i64_w, i32_w]
       rfl
      refine pure_ (i := 9) (N := some 23) (v := undef) (a' := ?_) #[true, true, true, true, true, true, true, true, true, true, false, false, false, false, false, false, false, false, false, false, false, false, false, false, false, false, false, false, false, false, false, false, false, false, false, false, false, false] rfl rfl (any_of HT_.out (by kernel_rfl)) (fun _ _ _ h => h) (Or.inr ⟨by rfl, rfl⟩) ?_ ?_
      rotate_left
      ·simp only [Act.put, List.setIfInBounds_toArray, List.set_cons_zero, List.set_cons_succ, i64_w, i32_w]
       rfl
      refine pure_ (i := 10) (N := some 24) (v := undef) (a' := ?_) #[true, true, true, true, true, true, true, true, true, true, true, false, false, false, false, false, false, false, false, false, false, false, false, false, false, false, false, false, false, false, false, false, false, false, false, false, false, false] rfl rfl (any_of HT_.out (by kernel_rfl)) (fun _ _ _ h => h) (Or.inr ⟨by rfl, rfl⟩) ?_ ?_
      rotate_left
      ·simp only [Act.put, List.setIfInBounds_toArray, List.set_cons_zero, List.set_cons_succ, i64_w, i32_w]
       rfl
      refine pure_ (i := 11) (N := some 25) (v := undef) (a' := ?_) #[true, true, true, true, true, true, true, true, true, true, true, true, false, false, false, false, false, false, false, false, false, false, false, false, false, false, false, false, false, false, false, false, false, false, false, false, false, false] rfl rfl (any_of HT_.out (by kernel_rfl)) (fun _ _ _ h => h) (Or.inr ⟨by rfl, rfl⟩) ?_ ?_
      rotate_left
      ·simp only [Act.put, List.setIfInBounds_toArray, List.set_cons_zero, List.set_cons_succ, i64_w, i32_w]
       rfl
      refine pure_ (i := 12) (N := some 26) (v := undef) (a' := ?_) #[true, true, true, true, true, true, true, true, true, true, true, true, true, false, false, false, false, false, false, false, false, false, false, false, false, false, false, false, false, false, false, false, false, false, false, false, false, false] rfl rfl (any_of HT_.out (by kernel_rfl)) (fun _ _ _ h => h) (Or.inr ⟨by rfl, rfl⟩) ?_ ?_
      rotate_left
      ·simp only [Act.put, List.setIfInBounds_toArray, List.set_cons_zero, List.set_cons_succ, i64_w, i32_w]
       rfl
      refine pure_ (i := 13) (N := some 27) (v := undef) (a' := ?_) #[true, true, true, true, true, true, true, true, true, true, true, true, true, true, false, false, false, false, false, false, false, false, false, false, false, false, false, false, false, false, false, false, false, false, false, false, false, false] rfl rfl (any_of HT_.out (by kernel_rfl)) (fun _ _ _ h => h) (Or.inr ⟨by rfl, rfl⟩) ?_ ?_
      rotate_left
      ·simp only [Act.put, List.setIfInBounds_toArray, List.set_cons_zero, List.set_cons_succ, i64_w, i32_w]
       rfl
      refine pure_ (i := 14) (N := some 28) (v := undef) (a' := ?_) #[true, true, true, true, true, true, true, true, true, true, true, true, true, true, true, false, false, false, false, false, false, false, false, false, false, false, false, false, false, false, false, false, false, false, false, false, false, false] rfl rfl (any_of HT_.out (by kernel_rfl)) (fun _ _ _ h => h) (Or.inr ⟨by rfl, rfl⟩) ?_ ?_
      rotate_left
      ·simp only [Act.put, List.setIfInBounds_toArray, List.set_cons_zero, List.set_cons_succ, i64_w, i32_w]
       rfl
      refine pure_ (i := 15) (N := some 29) (v := ?_) (a' := ?_) #[true, true, true, true, true, true, true, true, true, true, true, true, true, true, true, true, false, false, false, false, false, false, false, false, false, false, false, false, false, false, false, false, false, false, false, false, false, false] rfl rfl (any_of HT_.out (by kernel_rfl)) (fun _ _ _ h => h) (Or.inl ⟨by rfl, ?_⟩) ?_ ?_
      rotate_left
      ·intro w'
       go_simp
       with_reducible rfl
      rotate_left
      ·simp only [Act.put, List.setIfInBounds_toArray, List.set_cons_zero, List.set_cons_succ, i64_w, i32_w]
       rfl
      refine pure_ (i := 16) (N := some 30) (v := ?_) (a' := ?_) #[true, true, true, true, true, true, true, true, true, true, true, true, true, true, true, true, true, false, false, false, false, false, false, false, false, false, false, false, false, false, false, false, false, false, false, false, false, false] rfl rfl (any_of HT_.out (by kernel_rfl)) (fun _ _ _ h => h) (Or.inl ⟨by rfl, ?_⟩) ?_ ?_
      rotate_left
      ·intro w'
       go_simp
       with_reducible rfl
      rotate_left
      ·simp only [Act.put, List.setIfInBounds_toArray, List.set_cons_zero, List.set_cons_succ, i64_w, i32_w]
       rfl
      refine pure_ (i := 17) (N := some 31) (v := undef) (a' := ?_) #[true, true, true, true, true, true, true, true, true, true, true, true, true, true, true, true, true, true, false, false, false, false, false, false, false, false, false, false, false, false, false, false, false, false, false, false, false, false] rfl rfl (any_of HT_.out (by kernel_rfl)) (fun _ _ _ h => h) (Or.inr ⟨by rfl, rfl⟩) ?_ ?_
      rotate_left
      ·simp only [Act.put, List.setIfInBounds_toArray, List.set_cons_zero, List.set_cons_succ, i64_w, i32_w]
       rfl
      refine pure_ (i := 18) (N := some 32) (v := undef) (a' := ?_) #[true, true, true, true, true, true, true, true, true, true, true, true, true, true, true, true, true, true, true, false, false, false, false, false, false, false, false, false, false, false, false, false, false, false, false, false, false, false] rfl rfl (any_of HT_.out (by kernel_rfl)) (fun _ _ _ h => h) (Or.inr ⟨by rfl, rfl⟩) ?_ ?_
      rotate_left
      ·simp only [Act.put, List.setIfInBounds_toArray, List.set_cons_zero, List.set_cons_succ, i64_w, i32_w]
       rfl
      refine pure_ (i := 19) (N := some 33) (v := undef) (a' := ?_) #[true, true, true, true, true, true, true, true, true, true, true, true, true, true, true, true, true, true, true, true, false, false, false, false, false, false, false, false, false, false, false, false, false, false, false, false, false, false] rfl rfl (any_of HT_.out (by kernel_rfl)) (fun _ _ _ h => h) (Or.inr ⟨by rfl, rfl⟩) ?_ ?_
      rotate_left
      ·simp only [Act.put, List.setIfInBounds_toArray, List.set_cons_zero, List.set_cons_succ, i64_w, i32_w]
       rfl
      refine pure_ (i := 20) (N := some 34) (v := undef) (a' := ?_) #[true, true, true, true, true, true, true, true, true, true, true, true, true, true, true, true, true, true, true, true, true, false, false, false, false, false, false, false, false, false, false, false, false, false, false, false, false, false] rfl rfl (any_of HT_.out (by kernel_rfl)) (fun _ _ _ h => h) (Or.inr ⟨by rfl, rfl⟩) ?_ ?_
      rotate_left
      ·simp only [Act.put, List.setIfInBounds_toArray, List.set_cons_zero, List.set_cons_succ, i64_w, i32_w]
       rfl
      refine pure_ (i := 21) (N := some 35) (v := undef) (a' := ?_) #[true, true, true, true, true, true, true, true, true, true, true, true, true, true, true, true, true, true, true, true, true, true, false, false, false, false, false, false, false, false, false, false, false, false, false, false, false, false] rfl rfl (any_of HT_.out (by kernel_rfl)) (fun _ _ _ h => h) (Or.inr ⟨by rfl, rfl⟩) ?_ ?_
      rotate_left
      ·simp only [Act.put, List.setIfInBounds_toArray, List.set_cons_zero, List.set_cons_succ, i64_w, i32_w]
       rfl
      refine pure_ (i := 22) (N := some 36) (v := undef) (a' := ?_) #[true, true, true, true, true, true, true, true, true, true, true, true, true, true, true, true, true, true, true, true, true, true, true, false, false, false, false, false, false, false, false, false, false, false, false, false, false, false] rfl rfl (any_of HT_.out (by kernel_rfl)) (fun _ _ _ h => h) (Or.inr ⟨by rfl, rfl⟩) ?_ ?_
      rotate_left
      ·simp only [Act.put, List.setIfInBounds_toArray, List.set_cons_zero, List.set_cons_succ, i64_w, i32_w]
       rfl
      refine pure_ (i := 23) (N := some 37) (v := undef) (a' := ?_) #[true, true, true, true, true, true, true, true, true, true, true, true, true, true, true, true, true, true, true, true, true, true, true, true, false, false, false, false, false, false, false, false, false, false, false, false, false, false] rfl rfl (any_of HT_.out (by kernel_rfl)) (fun _ _ _ h => h) (Or.inr ⟨by rfl, rfl⟩) ?_ ?_
      rotate_left
      ·simp only [Act.put, List.setIfInBounds_toArray, List.set_cons_zero, List.set_cons_succ, i64_w, i32_w]
       rfl
      refine pure_ (i := 24) (N := some 38) (v := undef) (a' := ?_) #[true, true, true, true, true, true, true, true, true, true, true, true, true, true, true, true, true, true, true, true, true, true, true, true, true, false, false, false, false, false, false, false, false, false, false, false, false, false] rfl rfl (any_of HT_.out (by kernel_rfl)) (fun _ _ _ h => h) (Or.inr ⟨by rfl, rfl⟩) ?_ ?_
      rotate_left
      ·simp only [Act.put, List.setIfInBounds_toArray, List.set_cons_zero, List.set_cons_succ, i64_w, i32_w]
       rfl
      refine pure_ (i := 25) (N := some 39) (v := undef) (a' := ?_) #[true, true, true, true, true, true, true, true, true, true, true, true, true, true, true, true, true, true, true, true, true, true, true, true, true, true, false, false, false, false, false, false, false, false, false, false, false, false] rfl rfl (any_of HT_.out (by kernel_rfl)) (fun _ _ _ h => h) (Or.inr ⟨by rfl, rfl⟩) ?_ ?_
      rotate_left
      ·simp only [Act.put, List.setIfInBounds_toArray, List.set_cons_zero, List.set_cons_succ, i64_w, i32_w]
       rfl
      refine pure_ (i := 26) (N := some 40) (v := undef) (a' := ?_) #[true, true, true, true, true, true, true, true, true, true, true, true, true, true, true, true, true, true, true, true, true, true, true, true, true, true, true, false, false, false, false, false, false, false, false, false, false, false] rfl rfl (any_of HT_.out (by kernel_rfl)) (fun _ _ _ h => h) (Or.inr ⟨by rfl, rfl⟩) ?_ ?_
      rotate_left
      ·simp only [Act.put, List.setIfInBounds_toArray, List.set_cons_zero, List.set_cons_succ, i64_w, i32_w]
       rfl
      refine pure_ (i := 27) (N := some 41) (v := undef) (a' := ?_) #[true, true, true, true, true, true, true, true, true, true, true, true, true, true, true, true, true, true, true, true, true, true, true, true, true, true, true, true, false, false, false, false, false, false, false, false, false, false] rfl rfl (any_of HT_.out (by kernel_rfl)) (fun _ _ _ h => h) (Or.inr ⟨by rfl, rfl⟩) ?_ ?_
      rotate_left
      ·simp only [Act.put, List.setIfInBounds_toArray, List.set_cons_zero, List.set_cons_succ, i64_w, i32_w]
       rfl
      refine pure_ (i := 28) (N := some 42) (v := undef) (a' := ?_) #[true, true, true, true, true, true, true, true, true, true, true, true, true, true, true, true, true, true, true, true, true, true, true, true, true, true, true, true, true, false, false, false, false, false, false, false, false, false] rfl rfl (any_of HT_.out (by kernel_rfl)) (fun _ _ _ h => h) (Or.inr ⟨by rfl, rfl⟩) ?_ ?_
      rotate_left
      ·simp only [Act.put, List.setIfInBounds_toArray, List.set_cons_zero, List.set_cons_succ, i64_w, i32_w]
       rfl
      refine pure_ (i := 29) (N := some 43) (v := undef) (a' := ?_) #[true, true, true, true, true, true, true, true, true, true, true, true, true, true, true, true, true, true, true, true, true, true, true, true, true, true, true, true, true, true, false, false, false, false, false, false, false, false] rfl rfl (any_of HT_.out (by kernel_rfl)) (fun _ _ _ h => h) (Or.inr ⟨by rfl, rfl⟩) ?_ ?_
      rotate_left
      ·simp only [Act.put, List.setIfInBounds_toArray, List.set_cons_zero, List.set_cons_succ, i64_w, i32_w]
       rfl
      refine pure_ (i := 30) (N := some 44) (v := undef) (a' := ?_) #[true, true, true, true, true, true, true, true, true, true, true, true, true, true, true, true, true, true, true, true, true, true, true, true, true, true, true, true, true, true, true, false, false, false, false, false, false, false] rfl rfl (any_of HT_.out (by kernel_rfl)) (fun _ _ _ h => h) (Or.inr ⟨by rfl, rfl⟩) ?_ ?_
      rotate_left
      ·simp only [Act.put, List.setIfInBounds_toArray, List.set_cons_zero, List.set_cons_succ, i64_w, i32_w]
       rfl
      refine pure_ (i := 31) (N := some 45) (v := ?_) (a' := ?_) #[true, true, true, true, true, true, true, true, true, true, true, true, true, true, true, true, true, true, true, true, true, true, true, true, true, true, true, true, true, true, true, true, false, false, false, false, false, false] rfl rfl (any_of HT_.out (by kernel_rfl)) (fun _ _ _ h => h) (Or.inl ⟨by rfl, ?_⟩) ?_ ?_
      rotate_left
      ·intro w'
       go_simp
       with_reducible rfl
      rotate_left
      ·simp only [Act.put, List.setIfInBounds_toArray, List.set_cons_zero, List.set_cons_succ, i64_w, i32_w]
       rfl
      refine pure_ (i := 32) (N := some 46) (v := ?_) (a' := ?_) #[true, true, true, true, true, true, true, true, true, true, true, true, true, true, true, true, true, true, true, true, true, true, true, true, true, true, true, true, true, true, true, true, true, false, false, false, false, false] rfl rfl (any_of HT_.out (by kernel_rfl)) (fun _ _ _ h => h) (Or.inl ⟨by rfl, ?_⟩) ?_ ?_
      rotate_left
      ·intro w'
       go_simp
       with_reducible rfl
      rotate_left
      ·simp only [Act.put, List.setIfInBounds_toArray, List.set_cons_zero, List.set_cons_succ, i64_w, i32_w]
       rfl
      refine pure_ (i := 33) (N := some 47) (v := undef) (a' := ?_) #[true, true, true, true, true, true, true, true, true, true, true, true, true, true, true, true, true, true, true, true, true, true, true, true, true, true, true, true, true, true, true, true, true, true, false, false, false, false] rfl rfl (any_of HT_.out (by kernel_rfl)) (fun _ _ _ h => h) (Or.inr ⟨by rfl, rfl⟩) ?_ ?_
      rotate_left
      ·simp only [Act.put, List.setIfInBounds_toArray, List.set_cons_zero, List.set_cons_succ, i64_w, i32_w]
       rfl
      refine pure_ (i := 34) (N := some 48) (v := undef) (a' := ?_) #[true, true, true, true, true, true, true, true, true, true, true, true, true, true, true, true, true, true, true, true, true, true, true, true, true, true, true, true, true, true, true, true, true, true, true, false, false, false] rfl rfl (any_of HT_.out (by kernel_rfl)) (fun _ _ _ h => h) (Or.inr ⟨by rfl, rfl⟩) ?_ ?_
      rotate_left
      ·simp only [Act.put, List.setIfInBounds_toArray, List.set_cons_zero, List.set_cons_succ, i64_w, i32_w]
       rfl
      refine pure_ (i := 35) (N := some 49) (v := undef) (a' := ?_) #[true, true, true, true, true, true, true, true, true, true, true, true, true, true, true, true, true, true, true, true, true, true, true, true, true, true, true, true, true, true, true, true, true, true, true, true, false, false] rfl rfl (any_of HT_.out (by kernel_rfl)) (fun _ _ _ h => h) (Or.inr ⟨by rfl, rfl⟩) ?_ ?_
      rotate_left
      ·simp only [Act.put, List.setIfInBounds_toArray, List.set_cons_zero, List.set_cons_succ, i64_w, i32_w]
       rfl
      refine pure_ (i := 36) (N := some 50) (v := undef) (a' := ?_) #[true, true, true, true, true, true, true, true, true, true, true, true, true, true, true, true, true, true, true, true, true, true, true, true, true, true, true, true, true, true, true, true, true, true, true, true, true, false] rfl rfl (any_of HT_.out (by kernel_rfl)) (fun _ _ _ h => h) (Or.inr ⟨by rfl, rfl⟩) ?_ ?_
      rotate_left
      ·simp only [Act.put, List.setIfInBounds_toArray, List.set_cons_zero, List.set_cons_succ, i64_w, i32_w]
       rfl
      refine pure_ (i := 37) (N := some 51) (v := ?_) (a' := ?_) #[true, true, true, true, true, true, true, true, true, true, true, true, true, true, true, true, true, true, true, true, true, true, true, true, true, true, true, true, true, true, true, true, true, true, true, true, true, true] rfl rfl (any_of HT_.out (by kernel_rfl)) (fun _ _ _ h => h) (Or.inl ⟨by rfl, ?_⟩) ?_ ?_
      rotate_left
      ·intro w'
       go_simp
       with_reducible rfl
      rotate_left
      ·simp only [Act.put, List.setIfInBounds_toArray, List.set_cons_zero, List.set_cons_succ, i64_w, i32_w]
       rfl
      refine done_ (done_of HT_.out (by kernel_rfl)) ?_
      try go_wp2
      go_meet
      case rel => exact ⟨_, (true), (by first | rfl | (simp; done) | (simp [*]; done)), H', ⟨by have := HJ2.out; first | omega | exact Nat.le_refl _⟩, ⟨by (with_reducible repeat (first | refine blk_drewN ?_ _ | refine blk_drew ?_ | refine blk_alloc ?_ _)); exact BK166.out⟩, ⟨by repeat (first | (with_reducible first | exact HB.out | apply below_alloc | apply pw_below_drewN | apply below_drew1 | refine below_set ?_ GE166.out) | exact HB.out)⟩⟩
    case rest =>
     clear HC9
     try clear c1
     try clear p2
     try clear c3
     try clear p6
     try clear c11
     try clear c13
     try clear c14
     try clear c15
     try clear c17
     obtain ⟨kq, x51_8, rfl, HA, HJ8, BK166, HB⟩ := hcut
     cases kq with
     | zero => exact absurd HA.out (by simp [linkhouseref4_BranchCode.j1])
     | succ kj8 =>
      have H := HA.out
      clear HA
      simp only [linkhouseref4_BranchCode.j1] at H
      by_cases c24 : x51_8 = true
      ·subst c24
       have H1 : (some 3) = some r := by rw [if_pos rfl] at H; exact H
       clear H
       have H := H1
       clear H1
       obtain rfl := Option.some.inj H
       go_wp2
       go_ret
       exact ⟨by first | rfl | (simp [errW_none, errW_some] <;> rfl) | (simp [*, errW_none, errW_some] <;> rfl), by repeat (first | (with_reducible first | exact HB.out | apply below_alloc | apply pw_below_drewN | apply below_drew1 | refine below_set ?_ GE166.out) | exact HB.out)⟩
      ·replace c24 := Bool.eq_false_iff.mpr c24
       subst c24
       have H1 : (if a1_4 ≥ 0 then (if 0 ≤ a1_4 then (if a1_4 < (l0.length : Int) then ((linkhouseref4_In.f a1_5 0 ((rd_T57 l0 a1_4).f1)).bind fun t174 => (if t174 = true then (some 0) else (some 3))) else (none)) else (none)) else ((linkhouseref4_In.f a1_5 0 4294967295).bind fun t175 => (if t175 = true then (some 0) else (some 3)))) = some r := by rw [if_neg (show ¬ (false = true) by decide)] at H; exact H
       clear H
       have H := H1
       clear H1
       by_cases c25 : a1_4 ≥ 0
       ·rw [if_pos c25] at H
        have c25b0 : decide (0 ≤ a1_4) = true := decide_eq_true c25
        clear c25
        by_cases c26 : 0 ≤ a1_4
        ·rw [if_pos c26] at H
         have c26b0 : decide (0 ≤ a1_4) = true := decide_eq_true c26
         clear c26
         by_cases c27 : a1_4 < (l0.length : Int)
         ·rw [if_pos c27] at H
          have c27b0 : decide (a1_4 < (l0.length : Int)) = true := decide_eq_true c27
          clear c27
          replace H := Option.bind_eq_some_iff.mp H
          obtain ⟨t174, A280, H⟩ := H
          replace H : (if t174 = true then (some 0) else (some 3)) = some r := H
          have A28 := Aside0.mk A280
          clear A280
          by_cases c29 : t174 = true
          ·subst c29
           have H1 : (some 0) = some r := by rw [if_pos rfl] at H; exact H
           clear H
           have H := H1
           clear H1
           obtain rfl := Option.some.inj H
           have hcz30_0 : wc.cell? ⟨gb166, 0, none⟩ = some (.int .i64 a1_0) := (blk_cell BK166.out 0).trans rfl
           have hcz30_1 : wc.cell? ⟨gb166, 1, none⟩ = some (.int .i64 a1_1) := (blk_cell BK166.out 1).trans rfl
           have hcz30_2 : wc.cell? ⟨gb166, 2, none⟩ = some (.int .i64 a1_2) := (blk_cell BK166.out 2).trans rfl
           have hcz30_3 : wc.cell? ⟨gb166, 3, none⟩ = some (.int .i64 a1_3) := (blk_cell BK166.out 3).trans rfl
           have hcz30_4 : wc.cell? ⟨gb166, 4, none⟩ = some (.int .i64 a1_4) := (blk_cell BK166.out 4).trans rfl
           have hcz30_5 : wc.cell? ⟨gb166, 5, none⟩ = some (.int .i64 a1_5) := (blk_cell BK166.out 5).trans rfl
           have hfz30_0 := blk_frozen BK166.out 0
           have hfz30_1 := blk_frozen BK166.out 1
           have hfz30_2 := blk_frozen BK166.out 2
           have hfz30_3 := blk_frozen BK166.out 3
           have hfz30_4 := blk_frozen BK166.out 4
           have hfz30_5 := blk_frozen BK166.out 5
           have p173 : 0 ≤ (a1_4 : Int) := of_decide_eq_true (by first | (with_reducible assumption) | assumption)
           have q173 : a1_4 < (l0.length : Int) := of_decide_eq_true (by first | (with_reducible assumption) | assumption)
           obtain ⟨ad173, e173, hx173_0, hx173_1, hx173_2⟩ := at_T57 HR0.out a1_4 p173 q173
           cases e173
           replace hx173_0 := (HB.out.cell (World.block_lt_of_cell? w _ hx173_0)).trans hx173_0
           replace hx173_1 := (HB.out.cell (World.block_lt_of_cell? w _ hx173_1)).trans hx173_1
           replace hx173_2 := (HB.out.cell (World.block_lt_of_cell? w _ hx173_2)).trans hx173_2
           replace p173 := eq_true p173
           replace q173 := eq_true q173
           go_wp2_with (first | ((with_reducible refine gate_callee (f := 17) rfl ?_); refine goesL_ (some 64) rfl rfl Try.func17 (by kernel_rfl) rfl #[.int .i64 a1_5, .int .i64 0, .int .i64 ((rd_T57 l0 a1_4).f1)] rfl (by (try simp only [List.map_toArray, List.map_cons, List.map_nil]); first | done | rfl | (simp only [List.length_drop, List.length_take]; rfl)) ?_; (with_reducible refine (linkhouseref4_In.calls a1_5 0 ((rd_T57 l0 a1_4).f1) true _ A28.out).mono ?_); rintro e w' ⟨rfl, ⟨nd, rfl⟩⟩; refine ⟨_, rfl, ?_⟩))
           go_ret
           exact ⟨by first | rfl | (simp [errW_none, errW_some] <;> rfl) | (simp [*, errW_none, errW_some] <;> rfl), by repeat (first | (with_reducible first | exact HB.out | apply below_alloc | apply pw_below_drewN | apply below_drew1 | refine below_set ?_ GE166.out) | exact HB.out)⟩
          ·replace c29 := Bool.eq_false_iff.mpr c29
           subst c29
           have H1 : (some 3) = some r := by rw [if_neg (show ¬ (false = true) by decide)] at H; exact H
           clear H
           have H := H1
           clear H1
           obtain rfl := Option.some.inj H
           have hcz31_0 : wc.cell? ⟨gb166, 0, none⟩ = some (.int .i64 a1_0) := (blk_cell BK166.out 0).trans rfl
           have hcz31_1 : wc.cell? ⟨gb166, 1, none⟩ = some (.int .i64 a1_1) := (blk_cell BK166.out 1).trans rfl
           have hcz31_2 : wc.cell? ⟨gb166, 2, none⟩ = some (.int .i64 a1_2) := (blk_cell BK166.out 2).trans rfl
           have hcz31_3 : wc.cell? ⟨gb166, 3, none⟩ = some (.int .i64 a1_3) := (blk_cell BK166.out 3).trans rfl
           have hcz31_4 : wc.cell? ⟨gb166, 4, none⟩ = some (.int .i64 a1_4) := (blk_cell BK166.out 4).trans rfl
           have hcz31_5 : wc.cell? ⟨gb166, 5, none⟩ = some (.int .i64 a1_5) := (blk_cell BK166.out 5).trans rfl
           have hfz31_0 := blk_frozen BK166.out 0
           have hfz31_1 := blk_frozen BK166.out 1
           have hfz31_2 := blk_frozen BK166.out 2
           have hfz31_3 := blk_frozen BK166.out 3
           have hfz31_4 := blk_frozen BK166.out 4
           have hfz31_5 := blk_frozen BK166.out 5
           have p173 : 0 ≤ (a1_4 : Int) := of_decide_eq_true (by first | (with_reducible assumption) | assumption)
           have q173 : a1_4 < (l0.length : Int) := of_decide_eq_true (by first | (with_reducible assumption) | assumption)
           obtain ⟨ad173, e173, hx173_0, hx173_1, hx173_2⟩ := at_T57 HR0.out a1_4 p173 q173
           cases e173
           replace hx173_0 := (HB.out.cell (World.block_lt_of_cell? w _ hx173_0)).trans hx173_0
           replace hx173_1 := (HB.out.cell (World.block_lt_of_cell? w _ hx173_1)).trans hx173_1
           replace hx173_2 := (HB.out.cell (World.block_lt_of_cell? w _ hx173_2)).trans hx173_2
           replace p173 := eq_true p173
           replace q173 := eq_true q173
           go_wp2_with (first | ((with_reducible refine gate_callee (f := 17) rfl ?_); refine goesL_ (some 64) rfl rfl Try.func17 (by kernel_rfl) rfl #[.int .i64 a1_5, .int .i64 0, .int .i64 ((rd_T57 l0 a1_4).f1)] rfl (by (try simp only [List.map_toArray, List.map_cons, List.map_nil]); first | done | rfl | (simp only [List.length_drop, List.length_take]; rfl)) ?_; (with_reducible refine (linkhouseref4_In.calls a1_5 0 ((rd_T57 l0 a1_4).f1) false _ A28.out).mono ?_); rintro e w' ⟨rfl, ⟨nd, rfl⟩⟩; refine ⟨_, rfl, ?_⟩))
           go_ret
           exact ⟨by first | rfl | (simp [errW_none, errW_some] <;> rfl) | (simp [*, errW_none, errW_some] <;> rfl), by repeat (first | (with_reducible first | exact HB.out | apply below_alloc | apply pw_below_drewN | apply below_drew1 | refine below_set ?_ GE166.out) | exact HB.out)⟩
         ·rw [if_neg c27] at H
          exact absurd H (by simp)
        ·rw [if_neg c26] at H
         exact absurd H (by simp)
       ·rw [if_neg c25] at H
        have c25b0 : decide (0 ≤ a1_4) = false := decide_eq_false c25
        clear c25
        replace H := Option.bind_eq_some_iff.mp H
        obtain ⟨t175, A320, H⟩ := H
        replace H : (if t175 = true then (some 0) else (some 3)) = some r := H
        have A32 := Aside0.mk A320
        clear A320
        by_cases c33 : t175 = true
        ·subst c33
         have H1 : (some 0) = some r := by rw [if_pos rfl] at H; exact H
         clear H
         have H := H1
         clear H1
         obtain rfl := Option.some.inj H
         have hcz34_0 : wc.cell? ⟨gb166, 0, none⟩ = some (.int .i64 a1_0) := (blk_cell BK166.out 0).trans rfl
         have hcz34_1 : wc.cell? ⟨gb166, 1, none⟩ = some (.int .i64 a1_1) := (blk_cell BK166.out 1).trans rfl
         have hcz34_2 : wc.cell? ⟨gb166, 2, none⟩ = some (.int .i64 a1_2) := (blk_cell BK166.out 2).trans rfl
         have hcz34_3 : wc.cell? ⟨gb166, 3, none⟩ = some (.int .i64 a1_3) := (blk_cell BK166.out 3).trans rfl
         have hcz34_4 : wc.cell? ⟨gb166, 4, none⟩ = some (.int .i64 a1_4) := (blk_cell BK166.out 4).trans rfl
         have hcz34_5 : wc.cell? ⟨gb166, 5, none⟩ = some (.int .i64 a1_5) := (blk_cell BK166.out 5).trans rfl
         have hfz34_0 := blk_frozen BK166.out 0
         have hfz34_1 := blk_frozen BK166.out 1
         have hfz34_2 := blk_frozen BK166.out 2
         have hfz34_3 := blk_frozen BK166.out 3
         have hfz34_4 := blk_frozen BK166.out 4
         have hfz34_5 := blk_frozen BK166.out 5
         go_wp2_with (first | ((with_reducible refine gate_callee (f := 17) rfl ?_); refine goesL_ (some 64) rfl rfl Try.func17 (by kernel_rfl) rfl #[.int .i64 a1_5, .int .i64 0, .int .i64 4294967295] rfl (by (try simp only [List.map_toArray, List.map_cons, List.map_nil]); first | done | rfl | (simp only [List.length_drop, List.length_take]; rfl)) ?_; (with_reducible refine (linkhouseref4_In.calls a1_5 0 4294967295 true _ A32.out).mono ?_); rintro e w' ⟨rfl, ⟨nd, rfl⟩⟩; refine ⟨_, rfl, ?_⟩))
         go_ret
         exact ⟨by first | rfl | (simp [errW_none, errW_some] <;> rfl) | (simp [*, errW_none, errW_some] <;> rfl), by repeat (first | (with_reducible first | exact HB.out | apply below_alloc | apply pw_below_drewN | apply below_drew1 | refine below_set ?_ GE166.out) | exact HB.out)⟩
        ·replace c33 := Bool.eq_false_iff.mpr c33
         subst c33
         have H1 : (some 3) = some r := by rw [if_neg (show ¬ (false = true) by decide)] at H; exact H
         clear H
         have H := H1
         clear H1
         obtain rfl := Option.some.inj H
         have hcz35_0 : wc.cell? ⟨gb166, 0, none⟩ = some (.int .i64 a1_0) := (blk_cell BK166.out 0).trans rfl
         have hcz35_1 : wc.cell? ⟨gb166, 1, none⟩ = some (.int .i64 a1_1) := (blk_cell BK166.out 1).trans rfl
         have hcz35_2 : wc.cell? ⟨gb166, 2, none⟩ = some (.int .i64 a1_2) := (blk_cell BK166.out 2).trans rfl
         have hcz35_3 : wc.cell? ⟨gb166, 3, none⟩ = some (.int .i64 a1_3) := (blk_cell BK166.out 3).trans rfl
         have hcz35_4 : wc.cell? ⟨gb166, 4, none⟩ = some (.int .i64 a1_4) := (blk_cell BK166.out 4).trans rfl
         have hcz35_5 : wc.cell? ⟨gb166, 5, none⟩ = some (.int .i64 a1_5) := (blk_cell BK166.out 5).trans rfl
         have hfz35_0 := blk_frozen BK166.out 0
         have hfz35_1 := blk_frozen BK166.out 1
         have hfz35_2 := blk_frozen BK166.out 2
         have hfz35_3 := blk_frozen BK166.out 3
         have hfz35_4 := blk_frozen BK166.out 4
         have hfz35_5 := blk_frozen BK166.out 5
         go_wp2_with (first | ((with_reducible refine gate_callee (f := 17) rfl ?_); refine goesL_ (some 64) rfl rfl Try.func17 (by kernel_rfl) rfl #[.int .i64 a1_5, .int .i64 0, .int .i64 4294967295] rfl (by (try simp only [List.map_toArray, List.map_cons, List.map_nil]); first | done | rfl | (simp only [List.length_drop, List.length_take]; rfl)) ?_; (with_reducible refine (linkhouseref4_In.calls a1_5 0 4294967295 false _ A32.out).mono ?_); rintro e w' ⟨rfl, ⟨nd, rfl⟩⟩; refine ⟨_, rfl, ?_⟩))
         go_ret
         exact ⟨by first | rfl | (simp [errW_none, errW_some] <;> rfl) | (simp [*, errW_none, errW_some] <;> rfl), by repeat (first | (with_reducible first | exact HB.out | apply below_alloc | apply pw_below_drewN | apply below_drew1 | refine below_set ?_ GE166.out) | exact HB.out)⟩
end Go.Proofs.Ytogcgcjhoebooaa.PVeneerMatchesSpec
end
section
set_option linter.unusedVariables false
set_option linter.unusedSimpArgs false
namespace Go.Proofs.Ytogcgcjhoebooaa
open Go.RowKit Go.Proofs.YtogcgcjhoebooaaW.PrintWords Go.Proofs.YtogcgcjhoebooaaW.PrintLast Go.Proofs.Ytogcgcjhoebooaa.PVeneerMatchesSpec
theorem in4_plain (a b c : Int) : linkhouseref4_In.f a b c = some (decide (b ≤ a ∧ a ≤ c)) := by
  unfold linkhouseref4_In.f
  by_cases h : a ≥ b
  · rw [if_pos h]; congr 1; rw [decide_eq_decide]; omega
  · rw [if_neg h, decide_eq_false (by omega)]
def isPow (n : Int) : Bool := decide (n = 1 ∨ n = 2 ∨ n = 4 ∨ n = 8 ∨ n = 16 ∨ n = 32 ∨ n = 64 ∨ n = 128 ∨ n = 256 ∨ n = 512 ∨ n = 1024 ∨ n = 2048 ∨ n = 4096)
theorem pow_table : ((List.range 4097).all fun n => n == 0 || (!pow2n (n : Int)) == isPow (n : Int)) = true := by kernel_rfl
theorem isPow_iff {n : Int} (h1 : 1 ≤ n) (h2 : n ≤ 4096) : (!pow2n n) = isPow n := by
  have h := (List.all_eq_true.1 pow_table) n.toNat (List.mem_range.2 (by omega))
  rw [show ((n.toNat : Nat) : Int) = n by omega] at h
  simp only [Bool.or_eq_true, beq_iff_eq] at h
  rcases h with h | h
  · omega
  · exact h
theorem powOk_pow {n m : Int} (hm : m ≤ 4096) : powOk n m = (isPow n && decide (n ≤ m)) := by
 unfold powOk
 by_cases h : 1 ≤ n ∧ n ≤ m
 ·rw [decide_eq_true h, isPow_iff h.1 (by omega), decide_eq_true h.2]; simp
 ·rw [decide_eq_false h, Bool.false_and]
  by_cases h2 : n ≤ m
  ·have : isPow n = false := decide_eq_false (by omega)
   rw [this]; rfl
  ·rw [decide_eq_false h2, Bool.and_false]
theorem pow256 (n : Int) (k : Nat) : linkhouseref3_Power.f (k + 14) n 256 = some (powOk n 256) := by
 rw [powOk_pow (by omega)]
 have w : ∀ x : Int, 0 ≤ x → x ≤ 9000 → wrap64 (x * 2) = x * 2 := fun x h1 h2 => by unfold wrap64; omega
 unfold linkhouseref3_Power.f
 simp only [linkhouseref3_Power.l0, w 1 (by omega) (by omega), w (1 * 2) (by omega) (by omega), w (1 * 2 * 2) (by omega) (by omega), w (1 * 2 * 2 * 2) (by omega) (by omega), w (1 * 2 * 2 * 2 * 2) (by omega) (by omega), w (1 * 2 * 2 * 2 * 2 * 2) (by omega) (by omega), w (1 * 2 * 2 * 2 * 2 * 2 * 2) (by omega) (by omega), w (1 * 2 * 2 * 2 * 2 * 2 * 2 * 2) (by omega) (by omega), w (1 * 2 * 2 * 2 * 2 * 2 * 2 * 2 * 2) (by omega) (by omega)]
 unfold isPow
 by_cases a0 : n = 1; · subst a0; simp
 by_cases a1 : n = 2; · subst a1; simp
 by_cases a2 : n = 4; · subst a2; simp
 by_cases a3 : n = 8; · subst a3; simp
 by_cases a4 : n = 16; · subst a4; simp
 by_cases a5 : n = 32; · subst a5; simp
 by_cases a6 : n = 64; · subst a6; simp
 by_cases a7 : n = 128; · subst a7; simp
 by_cases a8 : n = 256; · subst a8; simp
 rw [if_pos (by omega), if_neg (by omega), if_pos (by omega), if_neg (by omega), if_pos (by omega), if_neg (by omega), if_pos (by omega), if_neg (by omega), if_pos (by omega), if_neg (by omega), if_pos (by omega), if_neg (by omega), if_pos (by omega), if_neg (by omega), if_pos (by omega), if_neg (by omega), if_pos (by omega), if_neg (by omega), if_neg (by omega)]
 by_cases h2 : n ≤ 256
 ·rw [decide_eq_false (show ¬ (n = 1 ∨ n = 2 ∨ n = 4 ∨ n = 8 ∨ n = 16 ∨ n = 32 ∨ n = 64 ∨ n = 128 ∨ n = 256 ∨ n = 512 ∨ n = 1024 ∨ n = 2048 ∨ n = 4096) by omega)]; rfl
 ·rw [decide_eq_false h2, Bool.and_false]
theorem pow4096 (n : Int) (k : Nat) : linkhouseref3_Power.f (k + 18) n 4096 = some (powOk n 4096) := by
 rw [powOk_pow (by omega)]
 have w : ∀ x : Int, 0 ≤ x → x ≤ 9000 → wrap64 (x * 2) = x * 2 := fun x h1 h2 => by unfold wrap64; omega
 unfold linkhouseref3_Power.f
 simp only [linkhouseref3_Power.l0, w 1 (by omega) (by omega), w (1 * 2) (by omega) (by omega), w (1 * 2 * 2) (by omega) (by omega), w (1 * 2 * 2 * 2) (by omega) (by omega), w (1 * 2 * 2 * 2 * 2) (by omega) (by omega), w (1 * 2 * 2 * 2 * 2 * 2) (by omega) (by omega), w (1 * 2 * 2 * 2 * 2 * 2 * 2) (by omega) (by omega), w (1 * 2 * 2 * 2 * 2 * 2 * 2 * 2) (by omega) (by omega), w (1 * 2 * 2 * 2 * 2 * 2 * 2 * 2 * 2) (by omega) (by omega), w (1 * 2 * 2 * 2 * 2 * 2 * 2 * 2 * 2 * 2) (by omega) (by omega), w (1 * 2 * 2 * 2 * 2 * 2 * 2 * 2 * 2 * 2 * 2) (by omega) (by omega), w (1 * 2 * 2 * 2 * 2 * 2 * 2 * 2 * 2 * 2 * 2 * 2) (by omega) (by omega), w (1 * 2 * 2 * 2 * 2 * 2 * 2 * 2 * 2 * 2 * 2 * 2 * 2) (by omega) (by omega)]
 unfold isPow
 by_cases a0 : n = 1; · subst a0; simp
 by_cases a1 : n = 2; · subst a1; simp
 by_cases a2 : n = 4; · subst a2; simp
 by_cases a3 : n = 8; · subst a3; simp
 by_cases a4 : n = 16; · subst a4; simp
 by_cases a5 : n = 32; · subst a5; simp
 by_cases a6 : n = 64; · subst a6; simp
 by_cases a7 : n = 128; · subst a7; simp
 by_cases a8 : n = 256; · subst a8; simp
 by_cases a9 : n = 512; · subst a9; simp
 by_cases a10 : n = 1024; · subst a10; simp
 by_cases a11 : n = 2048; · subst a11; simp
 by_cases a12 : n = 4096; · subst a12; simp
 rw [if_pos (by omega), if_neg (by omega), if_pos (by omega), if_neg (by omega), if_pos (by omega), if_neg (by omega), if_pos (by omega), if_neg (by omega), if_pos (by omega), if_neg (by omega), if_pos (by omega), if_neg (by omega), if_pos (by omega), if_neg (by omega), if_pos (by omega), if_neg (by omega), if_pos (by omega), if_neg (by omega), if_pos (by omega), if_neg (by omega), if_pos (by omega), if_neg (by omega), if_pos (by omega), if_neg (by omega), if_pos (by omega), if_neg (by omega), if_neg (by omega)]
 rw [decide_eq_false (show ¬ (n = 1 ∨ n = 2 ∨ n = 4 ∨ n = 8 ∨ n = 16 ∨ n = 32 ∨ n = 64 ∨ n = 128 ∨ n = 256 ∨ n = 512 ∨ n = 1024 ∨ n = 2048 ∨ n = 4096) by omega)]; rfl
theorem pow_calls : PowCalls 4096 := fun n w => linkhouseref3_Power.calls 18 n 4096 _ w (pow4096 n 0)
theorem rname_step (s : ByteArray) (i k : Nat) (hi : i < s.size) (hs : s.size ≤ 9223372036854775807) (hb : 0 ≤ bt s i ∧ bt s i ≤ 255) :
  linkhouseref3_NameOk.l0 (k + 1) s i = if nameChar s i = true then linkhouseref3_NameOk.l0 k s ((i + 1 : Nat) : Int) else some false := by
 have e1 : wrap64 ((i : Int) + 1) = ((i + 1 : Nat) : Int) := by unfold wrap64; omega
 have e2 : wrap64 (bt s i) = bt s i := by unfold wrap64; omega
 have h1 : (i : Int) < s.size := by omega
 have h2 : (0 : Int) ≤ i := by omega
 rw [linkhouseref3_NameOk.l0, if_pos h1, if_pos h2, e1, e2]
 simp only [in3_plain, Option.bind_some]
 unfold nameChar chr
 simp only [Bool.or_eq_true, Bool.and_eq_true, decide_eq_true_eq]
 generalize linkhouseref3_NameOk.l0 k s ((i + 1 : Nat) : Int) = R
 generalize bt s i = b at *
 have h3 : (i : Int) > 0 ↔ 0 < i := by omega
 simp only [h3]
 clear e1 e2 h1 h2 h3 hs hi
 by_cases c : ((97 ≤ b ∧ b ≤ 122 ∨ 65 ≤ b ∧ b ≤ 90 ∨ b = 46 ∨ b = 95 ∨ b = 36) ∨ 0 < i ∧ 48 ≤ b ∧ b ≤ 57)
 ·rw [if_pos c]
  repeat' split
  all_goals first | rfl | (exfalso; omega)
 ·rw [if_neg c]
  repeat' split
  all_goals first | rfl | (exfalso; omega)
theorem bt_bd (s : ByteArray) (i : Nat) : 0 ≤ bt s i ∧ bt s i ≤ 255 := by
  unfold bt
  split
  · rename_i h
    have := (s[(i : Int).toNat]'h).toNat_lt
    constructor <;> omega
  · constructor <;> omega
theorem rname_plain (s : ByteArray) (hs : s.size ≤ 9223372036854775807) : ∀ (d i k : Nat), i + d = s.size → d < k →
  linkhouseref3_NameOk.l0 k s i = some ((List.range' i d).all (nameChar s) && decide (1 ≤ s.size ∧ s.size ≤ 16))
 | 0, i, k, hi, hk => by
  obtain ⟨k, rfl⟩ : ∃ k', k = k' + 1 := ⟨k - 1, by omega⟩
  rw [linkhouseref3_NameOk.l0, if_neg (by omega), in3_plain]
  simp only [Option.bind_some, List.range'_zero, List.all_nil, Bool.true_and]
  congr 1
  rw [decide_eq_decide]; omega
 | d + 1, i, k, hi, hk => by
  obtain ⟨k, rfl⟩ : ∃ k', k = k' + 1 := ⟨k - 1, by omega⟩
  have ih := rname_plain s hs d (i + 1) k (by omega) (by omega)
  rw [rname_step s i k (by omega) hs (bt_bd s i), ih, List.range'_succ, List.all_cons]
  cases nameChar s i <;> simp
theorem rname_f (s : ByteArray) (k : Nat) (hk : s.size < k) (hs : s.size ≤ 9223372036854775807) : linkhouseref3_NameOk.f k s = some (nameOk s) := by
  unfold linkhouseref3_NameOk.f nameOk
  have := rname_plain s hs s.size 0 k (by omega) hk
  rw [List.range_eq_range']
  exact this
theorem rname_calls : NameCalls34 := fun s w hs => linkhouseref3_NameOk.calls (s.size + 1) s _ w (rname_f s _ (by omega) hs)
theorem rpat_calls : PatCalls36 := fun s w hs => by
 refine linkhouseref3_PatternOk.calls (s.size + 2) s _ w ?_
 unfold linkhouseref3_PatternOk.f patOk
 have nm := fun (t : ByteArray) (ht : t.size ≤ s.size) => rname_f t (s.size + 1) (by omega) (by omega)
 by_cases h : (s.size : Int) > 0
 ·have e : wrap64 ((s.size : Int) - 1) = (s.size : Int) - 1 := by unfold wrap64; omega
  rw [if_pos h, e, if_pos (by omega), if_pos (by omega)]
  rw [linkhouseref3_PatternOk.j0, e]
  by_cases c : bt s ((s.size : Int) - 1) = 42
  ·rw [c, if_pos (by rfl)]
   by_cases h1 : s.size = 1
   ·rw [if_pos (by omega), if_pos ⟨h1, by rw [h1] at c; exact c⟩]
   ·rw [if_neg (by omega), if_pos (by omega), if_pos (by omega), if_neg (by omega), if_pos ⟨by omega, rfl⟩]
    rw [show ((s.size : Int) - 1).toNat = s.size - 1 by omega, nm _ (by rw [ByteArray.size_extract]; omega)]
    rfl
  ·have hf : (bt s ((s.size : Int) - 1) == 42) = false := by simpa using c
   rw [hf, if_neg (by simp), nm _ (Nat.le_refl _)]
   rw [if_neg (fun hh => c (by rw [hh.1]; exact hh.2)), if_neg (fun hh => c hh.2)]
   rfl
 ·rw [if_neg h, linkhouseref3_PatternOk.j0, if_neg (by simp), nm _ (Nat.le_refl _), if_neg (by omega), if_neg (by omega)]
  rfl
theorem ritems_plain {items : List S57} {n : Int} (hl : items.length ≤ 200) (hn : 0 ≤ n) (hn' : n ≤ 1000) : ∀ (d i k : Nat), i + d = items.length → d + 14 < k →
  linkhouseref3_ItemsFault.l0 k items n i = some (match scan (fun i => itemCode n (items.getD i z57)) d i with | some (j, e) => (e, -100 - (j : Int)) | none => (0, 0))
 | 0, i, k, hi, hk => by
  obtain ⟨k, rfl⟩ : ∃ k', k = k' + 1 := ⟨k - 1, by omega⟩
  rw [linkhouseref3_ItemsFault.l0, if_neg (by omega)]
  rfl
 | d + 1, i, k, hi, hk => by
  obtain ⟨k, rfl⟩ : ∃ k', k = k' + 14 + 1 := ⟨k - 15, by omega⟩
  have ih := ritems_plain (n := n) hl hn hn' d (i + 1) (k + 14) (by omega) (by omega)
  rw [linkhouseref3_ItemsFault.l0, if_pos (by omega), if_pos (by omega)]
  have hr : rd_T57 items i = items.getD i z57 := rfl
  have e1 : wrap64 ((i : Int) + 1) = ((i + 1 : Nat) : Int) := by unfold wrap64; omega
  have e2 : wrap64 (-100 - (i : Int)) = -100 - (i : Int) := by unfold wrap64; omega
  have e3 : wrap64 (n - 1) = n - 1 := by unfold wrap64; omega
  rw [hr, e1, e2, e3, ih, scan]
  change _ = some (match (if itemCode n (items.getD i z57) = 0 then scan (fun i => itemCode n (items.getD i z57)) d (i + 1) else some (i, itemCode n (items.getD i z57))) with | some (j, e) => (e, -100 - (j : Int)) | none => (0, 0))
  generalize items.getD i z57 = x at *
  simp only [in3_plain, Option.bind_some, pow256, linkhouseref3_At.f]
  by_cases c : 0 ≤ x.f0 ∧ x.f0 < n ∧ 0 ≤ x.f1 ∧ x.f1 ≤ 1048576 ∧ powOk x.f2 256 = true
  ·have hc0 : itemCode n x = 0 := by unfold itemCode; rw [if_neg (not_not_intro c)]
   rw [if_pos hc0]
   obtain ⟨c1, c2, c3, c4, c5⟩ := c
   rw [if_pos (decide_eq_true (by omega)), if_pos (decide_eq_true (by omega)), if_pos c5]
  ·have hc3 : itemCode n x = 3 := by unfold itemCode; rw [if_pos c]
   rw [if_neg (show ¬ itemCode n x = 0 by rw [hc3]; decide), hc3]
   by_cases u1 : 0 ≤ x.f0 ∧ x.f0 ≤ n - 1
   ·rw [if_pos (decide_eq_true u1)]
    by_cases u2 : 0 ≤ x.f1 ∧ x.f1 ≤ 1048576
    ·rw [if_pos (decide_eq_true u2)]
     by_cases u3 : powOk x.f2 256 = true
     ·exact absurd ⟨u1.1, by omega, u2.1, u2.2, u3⟩ c
     ·rw [if_neg u3]
    ·rw [if_neg (by simpa using u2)]
   ·rw [if_neg (by simpa using u1)]
theorem ritems_calls (A : Option Addr) (c : Nat) (items : List S57) (n : Int) (w : World) (hC : Kd.C k57 w A items.length items) (hc : items.length ≤ c) (h0 : 0 ≤ n) (h1 : n ≤ 1000) :
  Calls Try.prog 20 #[.slice A items.length c, .int .i64 n] w fun e w' => e = .returned (.agg #[.int .i64 (itemsFault items n).1, .int .i64 (itemsFault items n).2]) ∧ Below w.heap.size w w' := by
 refine linkhouseref3_ItemsFault.calls (items.length + 15) A c items n _ _ w hC hc ?_
 unfold linkhouseref3_ItemsFault.f itemsFault
 by_cases h : 200 < items.length
 ·rw [if_pos (by omega), if_pos h]; rfl
 ·rw [if_neg (by omega), if_neg h]
  have := ritems_plain (items := items) (n := n) (by omega) h0 h1 items.length 0 (items.length + 15) (by omega) (by omega)
  rw [show ((0 : Nat) : Int) = 0 from rfl] at this
  rw [this]
  cases scan (fun i => itemCode n (items.getD i z57)) items.length 0 with
  | none => rfl
  | some p => rfl
theorem rwidth (k : Int) (m : Nat) (hk : k = 2 ∨ k = 3) : linkhouseref3_Width.f (m + 1) k = some (kwidth k) := by
  rcases hk with rfl | rfl <;> simp [linkhouseref3_Width.f, linkhouseref3_Width.j0, kwidth]
theorem rbranch_plain (l : List S57) (b : S48) (hl : l.length ≤ 200) (hx : ∀ i, i < l.length → 0 ≤ (l.getD i z57).f1 ∧ (l.getD i z57).f1 ≤ 1048576) : linkhouseref4_BranchCode.f 3 l b.f0 b.f1 b.f2 b.f3 b.f4 b.f5 = some (brCode l b) := by
 have e0 : wrap64 ((l.length : Int) - 1) = (l.length : Int) - 1 := by unfold wrap64; omega
 unfold linkhouseref4_BranchCode.f brCode
 by_cases hk : b.f2 ≠ 2 ∧ b.f2 ≠ 3
 ·rw [if_neg hk.1, if_pos hk, linkhouseref4_BranchCode.j0, if_pos (by simpa using hk.2)]
 ·have hk' : b.f2 = 2 ∨ b.f2 = 3 := by omega
  have hj : (if b.f2 = 2 then linkhouseref4_BranchCode.j0 3 l false b.f0 b.f1 b.f2 b.f3 b.f4 b.f5 else linkhouseref4_BranchCode.j0 3 l (b.f2 != 3) b.f0 b.f1 b.f2 b.f3 b.f4 b.f5) = linkhouseref4_BranchCode.j0 3 l false b.f0 b.f1 b.f2 b.f3 b.f4 b.f5 := by
   split
   ·rfl
   ·rw [show (b.f2 != 3) = false by simp; omega]
  rw [hj, if_neg hk, linkhouseref4_BranchCode.j0, if_neg (by simp), e0]
  simp only [in4_plain, Option.bind_some]
  have jt : linkhouseref4_BranchCode.j1 2 l true b.f0 b.f1 b.f2 b.f3 b.f4 b.f5 = some 3 := by rw [linkhouseref4_BranchCode.j1, if_pos rfl]
  rw [jt]
  by_cases u1 : 0 ≤ b.f0 ∧ b.f0 ≤ (l.length : Int) - 1
  ·rw [if_pos (decide_eq_true u1)]
   by_cases u2 : -1 ≤ b.f4 ∧ b.f4 ≤ (l.length : Int) - 1
   ·rw [if_pos (decide_eq_true u2), if_pos u1.1, if_pos (by omega), rwidth b.f2 1 hk', Option.bind_some]
    have h2 := hx b.f0.toNat (by omega)
    have h3 : (rd_T57 l b.f0).f1 = (l.getD b.f0.toNat z57).f1 := rfl
    have hw : 1 ≤ kwidth b.f2 ∧ kwidth b.f2 ≤ 2 := by unfold kwidth; rcases hk' with h | h <;> rw [h] <;> decide
    rw [show wrap64 ((rd_T57 l b.f0).f1 - kwidth b.f2) = (rd_T57 l b.f0).f1 - kwidth b.f2 by unfold wrap64; omega]
    rw [if_neg (show ¬ ¬ (0 ≤ b.f0 ∧ b.f0 < l.length ∧ -1 ≤ b.f4 ∧ b.f4 < l.length) by omega)]
    by_cases u3 : 0 ≤ b.f1 ∧ b.f1 ≤ (rd_T57 l b.f0).f1 - kwidth b.f2
    ·rw [if_pos (decide_eq_true u3), if_neg (not_not_intro u3)]
     by_cases u4 : -1048576 ≤ b.f3 ∧ b.f3 ≤ 1048576
     ·rw [decide_eq_true u4, linkhouseref4_BranchCode.j1, if_neg (by simp)]
      simp only [in4_plain, Option.bind_some]
      by_cases u5 : b.f4 < 0
      ·rw [if_neg (show ¬ b.f4 ≥ 0 by omega)]
       by_cases u6 : 0 ≤ b.f5 ∧ b.f5 ≤ 4294967295
       ·rw [if_pos (decide_eq_true u6), if_neg (by rw [if_pos u5]; exact not_not_intro u6), if_neg (not_not_intro u4)]
       ·rw [if_neg (by simpa using u6), if_pos (by rw [if_pos u5]; exact u6)]
      ·rw [if_pos (show b.f4 ≥ 0 by omega), if_pos (by omega), if_pos (by omega)]
       by_cases u6 : 0 ≤ b.f5 ∧ b.f5 ≤ (rd_T57 l b.f4).f1
       ·rw [if_pos (decide_eq_true u6), if_neg (by rw [if_neg u5]; exact not_not_intro u6), if_neg (not_not_intro u4)]
       ·rw [if_neg (by simpa using u6), if_pos (by rw [if_neg u5]; exact u6)]
     ·rw [decide_eq_false u4, Bool.not_false, jt]
      rw [if_pos u4]
      split <;> simp
    ·rw [if_neg (by simpa using u3), if_pos u3]
   ·rw [if_neg (by simpa using u2), if_pos (by omega)]
  ·rw [if_neg (by simpa using u1), if_pos (by omega)]
theorem rbranch_calls (A : Option Addr) (c : Nat) (l : List S57) (b : S48) (w : World) (hC : Kd.C k57 w A l.length l) (hc : l.length ≤ c) (hl : l.length ≤ 200) (hx : ∀ i, i < l.length → 0 ≤ (l.getD i z57).f1 ∧ (l.getD i z57).f1 ≤ 1048576) :
  Calls Try.prog 22 #[.slice A l.length c, .agg #[.int .i64 b.f0, .int .i64 b.f1, .int .i64 b.f2, .int .i64 b.f3, .int .i64 b.f4, .int .i64 b.f5]] w fun e w' => e = .returned (.int .i64 (brCode l b)) ∧ Below w.heap.size w w' :=
 linkhouseref4_BranchCode.calls 3 A c l b.f0 b.f1 b.f2 b.f3 b.f4 b.f5 _ w hC hc (rbranch_plain l b hl hx)
end Go.Proofs.Ytogcgcjhoebooaa
end
section
set_option linter.unusedVariables false
set_option linter.unusedSimpArgs false
namespace Go.Proofs.Ytogcgcjhoebooaa.PVeneerMatchesSpec
open Go.RowKit Go.Proofs.YtogcgcjhoebooaaW.PrintWords Go.Proofs.YtogcgcjhoebooaaW.PrintLast Go.Proofs.YtogcgcjhoebooaaW.PrintMore
mutual
def linkhouseref3_Placed.l0 : Nat → List (S57) → List Int → List (S80) → Int → Int → List (S72) → List (S76) → Option (List Int × (List (S80)) × Int × Int)
 | 0, _, _, _, _, _, _, _ => none
 | k + 1, x1, x7, x8, x9, x10, x188000, x188001 => if x10 < (x188000.length : Int) then (if 0 ≤ x10 then (if ((rd_T72 x188000 x10).f1) < 0 then ((linkhouseref3_Round.f k x9 256).bind fun t194 => ((linkhouseref3_Round.f k t194 ((rd_T72 x188000 x10).f2)).bind fun t195 => (linkhouseref3_Placed.j1 k x1 x7 x8 x9 x10 t195 x188000 x188001 ((rd_T72 x188000 x10).f0) ((rd_T72 x188000 x10).f1) ((rd_T72 x188000 x10).f2) ((rd_T72 x188000 x10).f3)))) else (linkhouseref3_Placed.j1 k x1 x7 x8 x9 x10 ((rd_T72 x188000 x10).f1) x188000 x188001 ((rd_T72 x188000 x10).f0) ((rd_T72 x188000 x10).f1) ((rd_T72 x188000 x10).f2) ((rd_T72 x188000 x10).f3))) else (none)) else (some (x7, x8, 0, 0))
def linkhouseref3_Placed.j1 : Nat → List (S57) → List Int → List (S80) → Int → Int → Int → List (S72) → List (S76) → ByteArray → Int → Int → Int → Option (List Int × (List (S80)) × Int × Int)
 | 0, _, _, _, _, _, _, _, _, _, _, _, _ => none
 | k + 1, x1, x7, x8, x9, x10, x12, x188000, x188001, x194000, x194001, x194002, x194003 => if x12 < x9 then (linkhouseref3_Placed.j2 k x1 x7 x8 x10 x12 true x188000 x188001) else (if x194002 = 0 then (none) else (linkhouseref3_Placed.j2 k x1 x7 x8 x10 x12 ((Int.tmod x12 x194002) != 0) x188000 x188001))
def linkhouseref3_Placed.j2 : Nat → List (S57) → List Int → List (S80) → Int → Int → Bool → List (S72) → List (S76) → Option (List Int × (List (S80)) × Int × Int)
 | 0, _, _, _, _, _, _, _, _ => none
 | k + 1, x1, x7, x8, x10, x12, x48, x188000, x188001 => if x48 = true then ((linkhouseref3_At.f 13 x10).bind fun bt196 => (some (([] : List Int), ([] : List (S80)), bt196.1, bt196.2))) else (linkhouseref3_Placed.l1 k x1 x7 x8 x10 x12 x12 0 x188000 x188001)
def linkhouseref3_Placed.l1 : Nat → List (S57) → List Int → List (S80) → Int → Int → Int → Int → List (S72) → List (S76) → Option (List Int × (List (S80)) × Int × Int)
 | 0, _, _, _, _, _, _, _, _, _ => none
 | k + 1, x1, x7, x8, x10, x12, x13, x14, x188000, x188001 => if x14 < (x1.length : Int) then (if 0 ≤ x14 then (if ((rd_T57 x1 x14).f0) = x10 then ((linkhouseref3_Round.f k x12 ((rd_T57 x1 x14).f2)).bind fun t200 => (if x14 < (x7.length : Int) then (linkhouseref3_Placed.l1 k x1 (x7.set (x14 : Int).toNat t200) x8 x10 (wrap64 (t200 + ((rd_T57 x1 x14).f1))) x13 (wrap64 (x14 + 1)) x188000 x188001) else (none))) else (linkhouseref3_Placed.l1 k x1 x7 x8 x10 x12 x13 (wrap64 (x14 + 1)) x188000 x188001)) else (none)) else (if x12 > 1048576 then ((linkhouseref3_At.f 10 x10).bind fun bt203 => (some (([] : List Int), ([] : List (S80)), bt203.1, bt203.2))) else (if x8.length < 8796093022208 then (linkhouseref3_Placed.l0 k x1 x7 (x8 ++ [(⟨x13, wrap64 (x12 - x13)⟩ : S80)]) x12 (wrap64 (x10 + 1)) x188000 x188001) else (none)))
end
def linkhouseref3_Placed.f (k : Nat) (l0_0 : List (S72)) (l0_1 : List (S76)) (l1 : List (S57)) : Option (List Int × (List (S80)) × Int × Int) := if 0 ≤ (l1.length : Int) then (if ((l1.length : Int) : Int).toNat ≤ 35184372088832 then (linkhouseref3_Placed.l0 k l1 (List.replicate ((l1.length : Int) : Int).toNat 0) ([] : List (S80)) 256 0 l0_0 l0_1) else (none)) else (none)
theorem linkhouseref3_Placed.mono_l : ∀ k, (∀ y0 y1 y2 y3 y4 y5 y6, LeO (linkhouseref3_Placed.l0 k y0 y1 y2 y3 y4 y5 y6) (linkhouseref3_Placed.l0 (k + 1) y0 y1 y2 y3 y4 y5 y6)) ∧ (∀ y0 y1 y2 y3 y4 y5 y6 y7 y8 y9 y10 y11, LeO (linkhouseref3_Placed.j1 k y0 y1 y2 y3 y4 y5 y6 y7 y8 y9 y10 y11) (linkhouseref3_Placed.j1 (k + 1) y0 y1 y2 y3 y4 y5 y6 y7 y8 y9 y10 y11)) ∧ (∀ y0 y1 y2 y3 y4 y5 y6 y7, LeO (linkhouseref3_Placed.j2 k y0 y1 y2 y3 y4 y5 y6 y7) (linkhouseref3_Placed.j2 (k + 1) y0 y1 y2 y3 y4 y5 y6 y7)) ∧ (∀ y0 y1 y2 y3 y4 y5 y6 y7 y8, LeO (linkhouseref3_Placed.l1 k y0 y1 y2 y3 y4 y5 y6 y7 y8) (linkhouseref3_Placed.l1 (k + 1) y0 y1 y2 y3 y4 y5 y6 y7 y8))
 | 0 => ⟨fun _ _ _ _ _ _ _ r h => by simp [linkhouseref3_Placed.l0] at h, fun _ _ _ _ _ _ _ _ _ _ _ _ r h => by simp [linkhouseref3_Placed.j1] at h, fun _ _ _ _ _ _ _ _ r h => by simp [linkhouseref3_Placed.j2] at h, fun _ _ _ _ _ _ _ _ _ r h => by simp [linkhouseref3_Placed.l1] at h⟩
 | k + 1 => by
  obtain ⟨ih0, ih1, ih2, ih3⟩ := linkhouseref3_Placed.mono_l k
  refine ⟨?_, ?_, ?_, ?_⟩
  ·intro y0 y1 y2 y3 y4 y5 y6
   unfold linkhouseref3_Placed.l0
   repeat' first
   | (with_reducible exact ih0 _ _ _ _ _ _ _)
   | (with_reducible exact ih1 _ _ _ _ _ _ _ _ _ _ _ _)
   | (with_reducible exact ih2 _ _ _ _ _ _ _ _)
   | (with_reducible exact ih3 _ _ _ _ _ _ _ _ _)
   | (with_reducible exact linkhouseref3_Round.mono _ _ _)
   | (with_reducible exact LeO.refl _)
   | (with_reducible exact LeO.none _)
   | (with_reducible refine LeO.ite ?_ ?_)
   | (with_reducible refine LeO.bind ?_ (fun _ => ?_))
   | exact ih0 _ _ _ _ _ _ _
   | exact ih1 _ _ _ _ _ _ _ _ _ _ _ _
   | exact ih2 _ _ _ _ _ _ _ _
   | exact ih3 _ _ _ _ _ _ _ _ _
   | exact linkhouseref3_Round.mono _ _ _
   | exact LeO.none _
   | refine LeO.ite ?_ ?_
   | refine LeO.bind ?_ (fun _ => ?_)
  ·intro y0 y1 y2 y3 y4 y5 y6 y7 y8 y9 y10 y11
   unfold linkhouseref3_Placed.j1
   repeat' first
   | (with_reducible exact ih0 _ _ _ _ _ _ _)
   | (with_reducible exact ih1 _ _ _ _ _ _ _ _ _ _ _ _)
   | (with_reducible exact ih2 _ _ _ _ _ _ _ _)
   | (with_reducible exact ih3 _ _ _ _ _ _ _ _ _)
   | (with_reducible exact linkhouseref3_Round.mono _ _ _)
   | (with_reducible exact LeO.refl _)
   | (with_reducible exact LeO.none _)
   | (with_reducible refine LeO.ite ?_ ?_)
   | (with_reducible refine LeO.bind ?_ (fun _ => ?_))
   | exact ih0 _ _ _ _ _ _ _
   | exact ih1 _ _ _ _ _ _ _ _ _ _ _ _
   | exact ih2 _ _ _ _ _ _ _ _
   | exact ih3 _ _ _ _ _ _ _ _ _
   | exact linkhouseref3_Round.mono _ _ _
   | exact LeO.none _
   | refine LeO.ite ?_ ?_
   | refine LeO.bind ?_ (fun _ => ?_)
  ·intro y0 y1 y2 y3 y4 y5 y6 y7
   unfold linkhouseref3_Placed.j2
   repeat' first
   | (with_reducible exact ih0 _ _ _ _ _ _ _)
   | (with_reducible exact ih1 _ _ _ _ _ _ _ _ _ _ _ _)
   | (with_reducible exact ih2 _ _ _ _ _ _ _ _)
   | (with_reducible exact ih3 _ _ _ _ _ _ _ _ _)
   | (with_reducible exact linkhouseref3_Round.mono _ _ _)
   | (with_reducible exact LeO.refl _)
   | (with_reducible exact LeO.none _)
   | (with_reducible refine LeO.ite ?_ ?_)
   | (with_reducible refine LeO.bind ?_ (fun _ => ?_))
   | exact ih0 _ _ _ _ _ _ _
   | exact ih1 _ _ _ _ _ _ _ _ _ _ _ _
   | exact ih2 _ _ _ _ _ _ _ _
   | exact ih3 _ _ _ _ _ _ _ _ _
   | exact linkhouseref3_Round.mono _ _ _
   | exact LeO.none _
   | refine LeO.ite ?_ ?_
   | refine LeO.bind ?_ (fun _ => ?_)
  ·intro y0 y1 y2 y3 y4 y5 y6 y7 y8
   unfold linkhouseref3_Placed.l1
   repeat' first
   | (with_reducible exact ih0 _ _ _ _ _ _ _)
   | (with_reducible exact ih1 _ _ _ _ _ _ _ _ _ _ _ _)
   | (with_reducible exact ih2 _ _ _ _ _ _ _ _)
   | (with_reducible exact ih3 _ _ _ _ _ _ _ _ _)
   | (with_reducible exact linkhouseref3_Round.mono _ _ _)
   | (with_reducible exact LeO.refl _)
   | (with_reducible exact LeO.none _)
   | (with_reducible refine LeO.ite ?_ ?_)
   | (with_reducible refine LeO.bind ?_ (fun _ => ?_))
   | exact ih0 _ _ _ _ _ _ _
   | exact ih1 _ _ _ _ _ _ _ _ _ _ _ _
   | exact ih2 _ _ _ _ _ _ _ _
   | exact ih3 _ _ _ _ _ _ _ _ _
   | exact linkhouseref3_Round.mono _ _ _
   | exact LeO.none _
   | refine LeO.ite ?_ ?_
   | refine LeO.bind ?_ (fun _ => ?_)
theorem linkhouseref3_Placed.mono : ∀ a0 a1 a2 k, LeO (linkhouseref3_Placed.f k a0 a1 a2) (linkhouseref3_Placed.f (k + 1) a0 a1 a2) := by
 intro a0 a1 a2 k
 obtain ⟨ih0, ih1, ih2, ih3⟩ := linkhouseref3_Placed.mono_l k
 unfold linkhouseref3_Placed.f
 repeat' first
   | (with_reducible exact ih0 _ _ _ _ _ _ _)
   | (with_reducible exact ih1 _ _ _ _ _ _ _ _ _ _ _ _)
   | (with_reducible exact ih2 _ _ _ _ _ _ _ _)
   | (with_reducible exact ih3 _ _ _ _ _ _ _ _ _)
   | (with_reducible exact linkhouseref3_Round.mono _ _ _)
   | (with_reducible exact LeO.refl _)
   | (with_reducible exact LeO.none _)
   | (with_reducible refine LeO.ite ?_ ?_)
   | (with_reducible refine LeO.bind ?_ (fun _ => ?_))
   | exact ih0 _ _ _ _ _ _ _
   | exact ih1 _ _ _ _ _ _ _ _ _ _ _ _
   | exact ih2 _ _ _ _ _ _ _ _
   | exact ih3 _ _ _ _ _ _ _ _ _
   | exact linkhouseref3_Round.mono _ _ _
   | exact LeO.none _
   | refine LeO.ite ?_ ?_
   | refine LeO.bind ?_ (fun _ => ?_)
set_option maxHeartbeats 8000000 in
set_option maxRecDepth 100000 in
theorem linkhouseref3_Placed.calls (k : Nat) (A0_0 : Option Addr) (c0_0 : Nat) (l0_0 : List (S72)) (A0_1 : Option Addr) (c0_1 : Nat) (l0_1 : List (S76)) (A1 : Option Addr) (c1 : Nat) (l1 : List (S57)) (r1 : List Int) (r2 : List (S80)) (r3 : Int) (r4 : Int) (w : World) (hr0_0 : Kd.C k72 w A0_0 l0_0.length l0_0) (hc0_0 : l0_0.length ≤ c0_0) (hr0_1 : Kd.C k76 w A0_1 l0_1.length l0_1) (hc0_1 : l0_1.length ≤ c0_1) (hr1 : Kd.C k57 w A1 l1.length l1) (hc1 : l1.length ≤ c1) (h : linkhouseref3_Placed.f k l0_0 l0_1 l1 = some (r1, r2, r3, r4)) :
  Calls Try.prog 23 #[.agg #[.slice A0_0 l0_0.length c0_0, .slice A0_1 l0_1.length c0_1], .slice A1 l1.length c1] w fun e w' => ∃ v0_ v1_ : Value, e = .returned (.tuple #[v0_, v1_, .agg #[.int .i64 r3, .int .i64 r4]]) ∧ Kd.R (Kd.int .i64) 3 w' w.heap.size (fun _ => True) v0_ r1 ∧ Kd.R k80 80 w' w.heap.size (fun _ => True) v1_ r2 ∧ Below w.heap.size w w' := by
 have hu25 := Try.underlying25
 have hu29 := Try.underlying29
 have hu72 := Try.underlying72
 have hu80 := Try.underlying80
 have HR0_0 := Aside0.mk hr0_0
 have HC0_0 := Aside0.mk hc0_0
 clear hr0_0 hc0_0
 have HR0_1 := Aside0.mk hr0_1
 have HC0_1 := Aside0.mk hc0_1
 clear hr0_1 hc0_1
 have HR1 := Aside0.mk hr1
 have HC1 := Aside0.mk hc1
 clear hr1 hc1
 have HB := Aside0.mk (Below.refl w.heap.size w)
 have H : (if 0 ≤ (l1.length : Int) then (if ((l1.length : Int) : Int).toNat ≤ 35184372088832 then (linkhouseref3_Placed.l0 k l1 (List.replicate ((l1.length : Int) : Int).toNat 0) ([] : List (S80)) 256 0 l0_0 l0_1) else (none)) else (none)) = some (r1, r2, r3, r4) := h
 clear h
 by_cases c3 : 0 ≤ (l1.length : Int)
 ·rw [if_pos c3] at H
  have c3b0 := eq_true c3
  have c3b1 : decide (0 ≤ (l1.length : Int)) = true := decide_eq_true c3
  clear c3
  by_cases c4 : ((l1.length : Int) : Int).toNat ≤ 35184372088832
  ·rw [if_pos c4] at H
   have c4b0 := eq_true c4
   have c4b1 : decide (((l1.length : Int) : Int).toNat ≤ 35184372088832) = true := decide_eq_true c4
   clear c4
   obtain ⟨y189, hy189⟩ : ∃ y_ : List Int, y_ = (List.replicate ((l1.length : Int) : Int).toNat 0) := ⟨_, rfl⟩
   replace H : (linkhouseref3_Placed.l0 k l1 y189 ([] : List (S80)) 256 0 l0_0 l0_1) = some (r1, r2, r3, r4) := by first | (rw [hy189]; with_reducible exact H) | (have H2_ := (Option.bind_some _ _).symm.trans H; rw [hy189]; with_reducible exact H2_) | (have H2_ := (Option.bind_some _ _).symm.trans H; with_reducible exact H2_) | with_reducible exact H | (rw [hy189]; exact H) | exact H
   have Ny189 := Aside0.mk hy189
   clear hy189
   have H' := Aside0.mk H
   clear H
   go_enter Try.func23, Try.ntmps23
   go_wp2_with (first | ((with_reducible refine gate_dst (N := 2) rfl ?_); refine box_event ?hg (N := 2) ?hd (cs := #[.slice A0_0 l0_0.length c0_0, .slice A0_1 l0_1.length c0_1]) (t := 25) ?hr ?_; (case hd => rfl); (case hg => rfl); (case hr => first | (go_simp; done) | (go_simp; rfl)); intro gb187 hg w5 hbox hb; have n0_ := Aside0.mk (below_step (by repeat (first | (with_reducible first | exact HB.out | apply below_alloc | apply pw_below_drewN | apply below_drew1) | exact HB.out)) hb); have n1_ := Aside0.mk (hbox); have n2_ := Aside0.mk ((by rw [hg]; exact (below_size (by repeat (first | (with_reducible first | exact HB.out | apply below_alloc | apply pw_below_drewN | apply below_drew1) | exact HB.out))) : w.heap.size ≤ gb187)); have n3_ := Aside0.mk ((by rw [hg]; exact (below_size (by repeat (first | (with_reducible first | exact HB.out | apply below_alloc | apply pw_below_drewN | apply below_drew1) | exact HB.out))) : w.heap.size ≤ gb187)); clear HB; have HB := n0_; have BK187 := n1_; have GW187 := n2_; have GE187 := n3_; clear n0_ n1_ n2_ n3_; clear hb hbox hg) | ((with_reducible refine gate_dst (N := 6) rfl ?_); refine box_event ?hg (N := 6) ?hd (cs := #[.int .i64 0, .int .i64 0]) (t := 29) ?hr ?_; (case hd => rfl); (case hg => rfl); (case hr => first | (go_simp; done) | (go_simp; rfl)); intro gb188 hg w6 hbox hb; have n0_ := Aside0.mk (blk_below (g := gb187) (o := .cells #[.slice A0_0 l0_0.length c0_0, .slice A0_1 l0_1.length c0_1] 25 (0, 0)) (by (with_reducible repeat (first | refine blk_drewN ?_ _ | refine blk_drew ?_ | refine blk_alloc ?_ _)); exact BK187.out) hb); have n1_ := Aside0.mk (below_step (by repeat (first | (with_reducible first | exact HB.out | apply below_alloc | apply pw_below_drewN | apply below_drew1 | refine below_set ?_ GE187.out) | exact HB.out)) hb); have n2_ := Aside0.mk (hbox); have n3_ := Aside0.mk ((by rw [hg]; exact (below_size (by repeat (first | (with_reducible first | exact HB.out | apply below_alloc | apply pw_below_drewN | apply below_drew1 | refine below_set ?_ GE187.out) | exact HB.out))) : w.heap.size ≤ gb188)); have n4_ := Aside0.mk ((by rw [hg]; exact (below_size (by repeat (first | (with_reducible first | exact HB.out | apply below_alloc | apply pw_below_drewN | apply below_drew1 | refine below_set ?_ GE187.out) | exact HB.out))) : w.heap.size ≤ gb188)); have n5_ := Aside0.mk ((by rw [hg]; exact Nat.ne_of_lt (blk_lt (g := gb187) (o := .cells #[.slice A0_0 l0_0.length c0_0, .slice A0_1 l0_1.length c0_1] 25 (0, 0)) (by (with_reducible repeat (first | refine blk_drewN ?_ _ | refine blk_drew ?_ | refine blk_alloc ?_ _)); exact BK187.out)) : gb187 ≠ gb188)); have n6_ := Aside0.mk ((by rw [hg]; exact Nat.ne_of_gt (blk_lt (g := gb187) (o := .cells #[.slice A0_0 l0_0.length c0_0, .slice A0_1 l0_1.length c0_1] 25 (0, 0)) (by (with_reducible repeat (first | refine blk_drewN ?_ _ | refine blk_drew ?_ | refine blk_alloc ?_ _)); exact BK187.out)) : gb188 ≠ gb187)); clear BK187; clear HB; have BK187 := n0_; have HB := n1_; have BK188 := n2_; have GW188 := n3_; have GE188 := n4_; have NB187_188 := n5_; have NB188_187 := n6_; clear n0_ n1_ n2_ n3_ n4_ n5_ n6_; clear hb hbox hg) | ((with_reducible refine gate_dst (N := 17) rfl ?_); refine Kd.R_make (Kd.int .i64) _ 3 rfl (N := 17) rfl 33 _ _ rfl (l1.length : Int) rfl rfl Try.underlying33 (.int .i64 0) 8 info3 rfl (by decide) (by omega) 0 (ok := fun _ => True) (okp := fun _ => True) rfl (fun _ hk => hk) trivial (of_decide_eq_true (by first | (with_reducible assumption) | assumption)) (Nat.le_trans (Nat.mul_le_mul_right _ (of_decide_eq_true (by first | (with_reducible assumption) | assumption) : (l1.length : Int).toNat ≤ 35184372088832)) (by omega)) (Below.refl _ _) (Nat.le_refl _) ?_; intro v190 w7 ho8 hb hg_ hnew_; clear hg_ hnew_; (first | rw [← Ny189.out] at ho8 | (simp only [Int.reduceToNat] at ho8; rw [← Ny189.out] at ho8)); have n0_ := Aside0.mk (Kd.R_lower ho8 (below_size (by repeat (first | (with_reducible first | exact HB.out | apply below_alloc | apply pw_below_drewN | apply below_drew1 | refine below_set ?_ GE187.out | refine below_set ?_ GE188.out) | exact HB.out)))); have n1_ := Aside0.mk (blk_below (g := gb187) (o := .cells #[.slice A0_0 l0_0.length c0_0, .slice A0_1 l0_1.length c0_1] 25 (0, 0)) (by (with_reducible repeat (first | refine blk_drewN ?_ _ | refine blk_drew ?_ | refine blk_alloc ?_ _)); exact BK187.out) hb); have n2_ := Aside0.mk (blk_below (g := gb188) (o := .cells #[.int .i64 0, .int .i64 0] 29 (0, 0)) (by (with_reducible repeat (first | refine blk_drewN ?_ _ | refine blk_drew ?_ | refine blk_alloc ?_ _)); exact BK188.out) hb); have n3_ := Aside0.mk (below_step (by repeat (first | (with_reducible first | exact HB.out | apply below_alloc | apply pw_below_drewN | apply below_drew1 | refine below_set ?_ GE187.out | refine below_set ?_ GE188.out) | exact HB.out)) hb); clear BK187; clear BK188; clear HB; have HO191 := n0_; have BK187 := n1_; have BK188 := n2_; have HB := n3_; clear n0_ n1_ n2_ n3_; clear hb ho8))
   skip
   go_loopg [8, 9, 10] k (fun kq v8 v9 v10 w' => ∃ (x7_1 : List Int) (x8_1 : List (S80)) (x9_1 : Int) (x10_1 : Int) (x189000_1 : Int) (x189001_1 : Int), v9 = .int .i64 x9_1 ∧ v10 = .int .i64 x10_1 ∧ Aside0 (linkhouseref3_Placed.l0 kq l1 x7_1 x8_1 x9_1 x10_1 l0_0 l0_1 = some (r1, r2, r3, r4)) ∧ Aside0 (kq ≤ k) ∧ Aside0 (Kd.R (Kd.int .i64) 3 w' w.heap.size (fun _ => True) v190 x7_1) ∧ Aside0 (Kd.R k80 80 w' w.heap.size (fun _ => True) v8 x8_1) ∧ Aside0 (w'.heap[gb187]? = some (.cells #[(.slice A0_0 l0_0.length c0_0), (.slice A0_1 l0_1.length c0_1)] 25 (0, 0))) ∧ Aside0 (w'.heap[gb188]? = some (.cells #[.int .i64 x189000_1, .int .i64 x189001_1] 29 (0, 0))) ∧ Aside0 (Below w.heap.size w w'))
   case atStart => exact ⟨(y189), (([] : List (S80))), (256), (0), (0), (0), (by first | rfl | (simp; done) | (simp [*]; done)), (by first | rfl | (simp; done) | (simp [*]; done)), H', ⟨Nat.le_refl _⟩, ⟨by (with_reducible repeat (first | apply Kd.R_alloc | apply Kd.R_drewN | apply Kd.R_drew)); exact HO191.out⟩, ⟨by first | exact Kd.R_nil _ _ _ _ _ | exact Kd.N_nil _ _ _ _ _ | exact Kd.V_nil _ _ _ _ _ | exact Kd.Q_nil _ _ _ _ _ | exact Kd.S_nil _ _ _ _ _⟩, ⟨by (with_reducible repeat (first | refine blk_drewN ?_ _ | refine blk_drew ?_ | refine blk_alloc ?_ _)); exact BK187.out⟩, ⟨by (with_reducible repeat (first | refine blk_drewN ?_ _ | refine blk_drew ?_ | refine blk_alloc ?_ _)); exact BK188.out⟩, ⟨by repeat (first | (with_reducible first | exact HB.out | apply below_alloc | apply pw_below_drewN | apply below_drew1 | refine below_set ?_ GE187.out | refine below_set ?_ GE188.out) | exact HB.out)⟩⟩
   case round =>
    clear H'
    try clear c1
    try clear c2
    try clear p2
    try clear c3
    try clear c3b0
    try clear c3b1
    try clear c4
    try clear c4b0
    try clear c4b1
    obtain ⟨x7_1, x8_1, x9_1, x10_1, x189000_1, x189001_1, rfl, rfl, HA, HK1, HO_7, HO_8, BK187, BK188, HB⟩ := hrel
    cases gk with
    | zero => exact absurd HA.out (by simp [linkhouseref3_Placed.l0])
    | succ k1 =>
     have H := HA.out
     clear HA
     simp only [linkhouseref3_Placed.l0] at H
     by_cases c9 : x10_1 < (l0_0.length : Int)
     ·rw [if_pos c9] at H
      have c9b0 : decide (x10_1 < (l0_0.length : Int)) = true := decide_eq_true c9
      clear c9
      by_cases c10 : 0 ≤ x10_1
      ·rw [if_pos c10] at H
       have c10b0 : decide (0 ≤ x10_1) = true := decide_eq_true c10
       clear c10
       have HC11 := Aside0.mk H
       clear H
       have hnb12 := NB187_188.out
       have hnc12 := NB188_187.out
       have hcz13_0 : wr.cell? ⟨gb187, 0, none⟩ = some (.slice A0_0 l0_0.length c0_0) := (blk_cell BK187.out 0).trans rfl
       have hcz13_1 : wr.cell? ⟨gb187, 1, none⟩ = some (.slice A0_1 l0_1.length c0_1) := (blk_cell BK187.out 1).trans rfl
       have hfz13_0 := blk_frozen BK187.out 0
       have hfz13_1 := blk_frozen BK187.out 1
       have p192 : 0 ≤ (x10_1 : Int) := of_decide_eq_true (by first | (with_reducible assumption) | assumption)
       have q192 : x10_1 < (l0_0.length : Int) := of_decide_eq_true (by first | (with_reducible assumption) | assumption)
       obtain ⟨ad192, e192, hx192_0, hx192_1, hx192_2, hx192_3⟩ := at_T72 HR0_0.out x10_1 p192 q192
       cases e192
       replace hx192_0 := (HB.out.cell (World.block_lt_of_cell? w _ hx192_0)).trans hx192_0
       replace hx192_1 := (HB.out.cell (World.block_lt_of_cell? w _ hx192_1)).trans hx192_1
       replace hx192_2 := (HB.out.cell (World.block_lt_of_cell? w _ hx192_2)).trans hx192_2
       replace hx192_3 := (HB.out.cell (World.block_lt_of_cell? w _ hx192_3)).trans hx192_3
       replace p192 := eq_true p192
       replace q192 := eq_true q192
       go_upto_if 33 with (first | ((with_reducible refine gate_dst (N := 11) rfl ?_); refine box_event ?hg (N := 11) ?hd (cs := #[.string (⟨#[]⟩ : ByteArray), .int .i64 0, .int .i64 0, .int .i64 0]) (t := 72) ?hr ?_; (case hd => rfl); (case hg => rfl); (case hr => first | (go_simp; done) | (go_simp; rfl)); intro gb193 hg w14 hbox hb; have n0_ := Aside0.mk (Kd.R_below (by (with_reducible repeat (first | apply Kd.R_alloc | apply Kd.R_drewN | apply Kd.R_drew)); exact HO_7.out) hb); have n1_ := Aside0.mk (Kd.R_below (by (with_reducible repeat (first | apply Kd.R_alloc | apply Kd.R_drewN | apply Kd.R_drew)); exact HO_8.out) hb); have n2_ := Aside0.mk (blk_below (g := gb187) (o := .cells #[.slice (some ad192) l0_0.length c0_0, .slice A0_1 l0_1.length c0_1] 25 (0, 0)) (by (with_reducible repeat (first | refine blk_drewN ?_ _ | refine blk_drew ?_ | refine blk_alloc ?_ _)); exact BK187.out) hb); have n3_ := Aside0.mk (blk_below (g := gb188) (o := .cells #[.int .i64 x189000_1, .int .i64 x189001_1] 29 (0, 0)) (by (with_reducible repeat (first | refine blk_drewN ?_ _ | refine blk_drew ?_ | refine blk_alloc ?_ _)); exact BK188.out) hb); have n4_ := Aside0.mk (below_step (by repeat (first | (with_reducible first | exact HB.out | apply below_alloc | apply pw_below_drewN | apply below_drew1 | refine below_set ?_ GE187.out | refine below_set ?_ GE188.out) | exact HB.out)) hb); have n5_ := Aside0.mk (hbox); have n6_ := Aside0.mk ((by rw [hg]; exact (below_size (by repeat (first | (with_reducible first | exact HB.out | apply below_alloc | apply pw_below_drewN | apply below_drew1 | refine below_set ?_ GE187.out | refine below_set ?_ GE188.out) | exact HB.out))) : w.heap.size ≤ gb193)); have n7_ := Aside0.mk ((by rw [hg]; exact (below_size (by repeat (first | (with_reducible first | exact HB.out | apply below_alloc | apply pw_below_drewN | apply below_drew1 | refine below_set ?_ GE187.out | refine below_set ?_ GE188.out) | exact HB.out))) : w.heap.size ≤ gb193)); have n8_ := Aside0.mk ((by rw [hg]; exact Nat.ne_of_lt (blk_lt (g := gb187) (o := .cells #[.slice (some ad192) l0_0.length c0_0, .slice A0_1 l0_1.length c0_1] 25 (0, 0)) (by (with_reducible repeat (first | refine blk_drewN ?_ _ | refine blk_drew ?_ | refine blk_alloc ?_ _)); exact BK187.out)) : gb187 ≠ gb193)); have n9_ := Aside0.mk ((by rw [hg]; exact Nat.ne_of_gt (blk_lt (g := gb187) (o := .cells #[.slice (some ad192) l0_0.length c0_0, .slice A0_1 l0_1.length c0_1] 25 (0, 0)) (by (with_reducible repeat (first | refine blk_drewN ?_ _ | refine blk_drew ?_ | refine blk_alloc ?_ _)); exact BK187.out)) : gb193 ≠ gb187)); have n10_ := Aside0.mk ((by rw [hg]; exact Nat.ne_of_lt (blk_lt (g := gb188) (o := .cells #[.int .i64 x189000_1, .int .i64 x189001_1] 29 (0, 0)) (by (with_reducible repeat (first | refine blk_drewN ?_ _ | refine blk_drew ?_ | refine blk_alloc ?_ _)); exact BK188.out)) : gb188 ≠ gb193)); have n11_ := Aside0.mk ((by rw [hg]; exact Nat.ne_of_gt (blk_lt (g := gb188) (o := .cells #[.int .i64 x189000_1, .int .i64 x189001_1] 29 (0, 0)) (by (with_reducible repeat (first | refine blk_drewN ?_ _ | refine blk_drew ?_ | refine blk_alloc ?_ _)); exact BK188.out)) : gb193 ≠ gb188)); clear HO_7; clear HO_8; clear BK187; clear BK188; clear HB; have HO_7 := n0_; have HO_8 := n1_; have BK187 := n2_; have BK188 := n3_; have HB := n4_; have BK193 := n5_; have GW193 := n6_; have GE193 := n7_; have NB187_193 := n8_; have NB193_187 := n9_; have NB188_193 := n10_; have NB193_188 := n11_; clear n0_ n1_ n2_ n3_ n4_ n5_ n6_ n7_ n8_ n9_ n10_ n11_; clear hb hbox hg; have hnb15 := NB193_187.out; have hnc15 := NB187_193.out; have hnb16 := NB193_188.out; have hnc16 := NB188_193.out; have hcz17_0 : w14.cell? ⟨gb193, 0, none⟩ = some (.string (⟨#[]⟩ : ByteArray)) := (blk_cell BK193.out 0).trans rfl; have hcz17_1 : w14.cell? ⟨gb193, 1, none⟩ = some (.int .i64 0) := (blk_cell BK193.out 1).trans rfl; have hcz17_2 : w14.cell? ⟨gb193, 2, none⟩ = some (.int .i64 0) := (blk_cell BK193.out 2).trans rfl; have hcz17_3 : w14.cell? ⟨gb193, 3, none⟩ = some (.int .i64 0) := (blk_cell BK193.out 3).trans rfl; have hfz17_0 := blk_frozen BK193.out 0; have hfz17_1 := blk_frozen BK193.out 1; have hfz17_2 := blk_frozen BK193.out 2; have hfz17_3 := blk_frozen BK193.out 3))
       skip
       (try simp only [Act.put, List.setIfInBounds_toArray, List.set_cons_zero, List.set_cons_succ])
       go_cut [12] (fun v12 wc => ∃ (kq : Nat) (x12_10 : Int), v12 = .int .i64 x12_10 ∧ Aside0 (linkhouseref3_Placed.j1 kq l1 x7_1 x8_1 x9_1 x10_1 x12_10 l0_0 l0_1 ((rd_T72 l0_0 x10_1).f0) ((rd_T72 l0_0 x10_1).f1) ((rd_T72 l0_0 x10_1).f2) ((rd_T72 l0_0 x10_1).f3) = some (r1, r2, r3, r4)) ∧ Aside0 (kq ≤ k1) ∧ Aside0 (Kd.R (Kd.int .i64) 3 wc w.heap.size (fun _ => True) v190 x7_1) ∧ Aside0 (Kd.R k80 80 wc w.heap.size (fun _ => True) u8 x8_1) ∧ Aside0 (wc.heap[gb187]? = some (.cells #[(.slice (some ad192) l0_0.length c0_0), (.slice A0_1 l0_1.length c0_1)] 25 (0, 0))) ∧ Aside0 (wc.heap[gb188]? = some (.cells #[.int .i64 x189000_1, .int .i64 x189001_1] 29 (0, 0))) ∧ Aside0 (wc.heap[gb193]? = some (.cells #[.string ((rd_T72 l0_0 x10_1).f0), .int .i64 ((rd_T72 l0_0 x10_1).f1), .int .i64 ((rd_T72 l0_0 x10_1).f2), .int .i64 ((rd_T72 l0_0 x10_1).f3)] 72 (0, 0))) ∧ Aside0 (Below w.heap.size w wc))
       case first =>
        have H := HC11.out
        clear HC11
        by_cases c18 : ((rd_T72 l0_0 x10_1).f1) < 0
        ·rw [if_pos c18] at H
         have c18b0 : decide (((rd_T72 l0_0 x10_1).f1) < 0) = true := decide_eq_true c18
         clear c18
         (first | rw [c18b0] | (simp only [i64_w, i32_w]; rw [c18b0]) | skip)
         replace H := Option.bind_eq_some_iff.mp H
         obtain ⟨t194, A190, H⟩ := H
         replace H : ((linkhouseref3_Round.f k1 t194 ((rd_T72 l0_0 x10_1).f2)).bind fun t195 => (linkhouseref3_Placed.j1 k1 l1 x7_1 x8_1 x9_1 x10_1 t195 l0_0 l0_1 ((rd_T72 l0_0 x10_1).f0) ((rd_T72 l0_0 x10_1).f1) ((rd_T72 l0_0 x10_1).f2) ((rd_T72 l0_0 x10_1).f3))) = some (r1, r2, r3, r4) := H
         have A19 := Aside0.mk A190
         clear A190
         replace H := Option.bind_eq_some_iff.mp H
         obtain ⟨t195, A200, H⟩ := H
         replace H : (linkhouseref3_Placed.j1 k1 l1 x7_1 x8_1 x9_1 x10_1 t195 l0_0 l0_1 ((rd_T72 l0_0 x10_1).f0) ((rd_T72 l0_0 x10_1).f1) ((rd_T72 l0_0 x10_1).f2) ((rd_T72 l0_0 x10_1).f3)) = some (r1, r2, r3, r4) := H
         have A20 := Aside0.mk A200
         clear A200
         have H' := Aside0.mk H
         clear H
         go_wp2_with (first | (go_at_call 38; (with_reducible refine (linkhouseref3_Round.calls k1 x9_1 256 t194 _ A19.out).mono ?_); rintro e w' ⟨rfl, ⟨nd, rfl⟩⟩; (try first | exact ⟨rfl, _, World.drewN_drewN _ _ _⟩ | exact ⟨rfl, _, Eq.trans (World.drewN_drewN _ _ _) (congrArg (World.drewN _) (Nat.add_assoc _ _ _))⟩); have hnb21 := NB193_187.out; have hnc21 := NB187_193.out; have hnb22 := NB193_188.out; have hnc22 := NB188_193.out; have hcz23_0 : w14.cell? ⟨gb193, 0, none⟩ = some (.string (⟨#[]⟩ : ByteArray)) := (blk_cell BK193.out 0).trans rfl; have hcz23_1 : w14.cell? ⟨gb193, 1, none⟩ = some (.int .i64 0) := (blk_cell BK193.out 1).trans rfl; have hcz23_2 : w14.cell? ⟨gb193, 2, none⟩ = some (.int .i64 0) := (blk_cell BK193.out 2).trans rfl; have hcz23_3 : w14.cell? ⟨gb193, 3, none⟩ = some (.int .i64 0) := (blk_cell BK193.out 3).trans rfl; have hfz23_0 := blk_frozen BK193.out 0; have hfz23_1 := blk_frozen BK193.out 1; have hfz23_2 := blk_frozen BK193.out 2; have hfz23_3 := blk_frozen BK193.out 3) | (go_at_call 38; (with_reducible refine (linkhouseref3_Round.calls k1 t194 ((rd_T72 l0_0 x10_1).f2) t195 _ A20.out).mono ?_); rintro e w' ⟨rfl, ⟨nd, rfl⟩⟩; (try first | exact ⟨rfl, _, World.drewN_drewN _ _ _⟩ | exact ⟨rfl, _, Eq.trans (World.drewN_drewN _ _ _) (congrArg (World.drewN _) (Nat.add_assoc _ _ _))⟩)))
         repeat (go_quiet (first | (go_at_call 38; (with_reducible refine (linkhouseref3_Round.calls k1 x9_1 256 t194 _ A19.out).mono ?_); rintro e w' ⟨rfl, ⟨nd, rfl⟩⟩; (try first | exact ⟨rfl, _, World.drewN_drewN _ _ _⟩ | exact ⟨rfl, _, Eq.trans (World.drewN_drewN _ _ _) (congrArg (World.drewN _) (Nat.add_assoc _ _ _))⟩); have hnb21 := NB193_187.out; have hnc21 := NB187_193.out; have hnb22 := NB193_188.out; have hnc22 := NB188_193.out; have hcz23_0 : w14.cell? ⟨gb193, 0, none⟩ = some (.string (⟨#[]⟩ : ByteArray)) := (blk_cell BK193.out 0).trans rfl; have hcz23_1 : w14.cell? ⟨gb193, 1, none⟩ = some (.int .i64 0) := (blk_cell BK193.out 1).trans rfl; have hcz23_2 : w14.cell? ⟨gb193, 2, none⟩ = some (.int .i64 0) := (blk_cell BK193.out 2).trans rfl; have hcz23_3 : w14.cell? ⟨gb193, 3, none⟩ = some (.int .i64 0) := (blk_cell BK193.out 3).trans rfl; have hfz23_0 := blk_frozen BK193.out 0; have hfz23_1 := blk_frozen BK193.out 1; have hfz23_2 := blk_frozen BK193.out 2; have hfz23_3 := blk_frozen BK193.out 3) | (go_at_call 38; (with_reducible refine (linkhouseref3_Round.calls k1 t194 ((rd_T72 l0_0 x10_1).f2) t195 _ A20.out).mono ?_); rintro e w' ⟨rfl, ⟨nd, rfl⟩⟩; (try first | exact ⟨rfl, _, World.drewN_drewN _ _ _⟩ | exact ⟨rfl, _, Eq.trans (World.drewN_drewN _ _ _) (congrArg (World.drewN _) (Nat.add_assoc _ _ _))⟩))); try go_wp2_with (first | (go_at_call 38; (with_reducible refine (linkhouseref3_Round.calls k1 x9_1 256 t194 _ A19.out).mono ?_); rintro e w' ⟨rfl, ⟨nd, rfl⟩⟩; (try first | exact ⟨rfl, _, World.drewN_drewN _ _ _⟩ | exact ⟨rfl, _, Eq.trans (World.drewN_drewN _ _ _) (congrArg (World.drewN _) (Nat.add_assoc _ _ _))⟩); have hnb21 := NB193_187.out; have hnc21 := NB187_193.out; have hnb22 := NB193_188.out; have hnc22 := NB188_193.out; have hcz23_0 : w14.cell? ⟨gb193, 0, none⟩ = some (.string (⟨#[]⟩ : ByteArray)) := (blk_cell BK193.out 0).trans rfl; have hcz23_1 : w14.cell? ⟨gb193, 1, none⟩ = some (.int .i64 0) := (blk_cell BK193.out 1).trans rfl; have hcz23_2 : w14.cell? ⟨gb193, 2, none⟩ = some (.int .i64 0) := (blk_cell BK193.out 2).trans rfl; have hcz23_3 : w14.cell? ⟨gb193, 3, none⟩ = some (.int .i64 0) := (blk_cell BK193.out 3).trans rfl; have hfz23_0 := blk_frozen BK193.out 0; have hfz23_1 := blk_frozen BK193.out 1; have hfz23_2 := blk_frozen BK193.out 2; have hfz23_3 := blk_frozen BK193.out 3) | (go_at_call 38; (with_reducible refine (linkhouseref3_Round.calls k1 t194 ((rd_T72 l0_0 x10_1).f2) t195 _ A20.out).mono ?_); rintro e w' ⟨rfl, ⟨nd, rfl⟩⟩; (try first | exact ⟨rfl, _, World.drewN_drewN _ _ _⟩ | exact ⟨rfl, _, Eq.trans (World.drewN_drewN _ _ _) (congrArg (World.drewN _) (Nat.add_assoc _ _ _))⟩))))
         go_meet
         case rel => exact ⟨_, (t195), (by first | rfl | (simp; done) | (simp [*]; done)), H', ⟨by have := HK1.out; first | omega | exact Nat.le_refl _⟩, ⟨by (with_reducible repeat (first | apply Kd.R_alloc | apply Kd.R_drewN | apply Kd.R_drew)); exact Kd.R_mono (Kd.R_far (p := ⟨gb193, 3, none⟩) (Kd.R_far (p := ⟨gb193, 2, none⟩) (Kd.R_far (p := ⟨gb193, 1, none⟩) (Kd.R_far (p := ⟨gb193, 0, none⟩) (Kd.R_types HO_7.out BK193.out (by decide)) (fun _ hk => hk.2) (.string ((rd_T72 l0_0 x10_1).f0))) (fun _ hk => hk.2) (.int .i64 ((rd_T72 l0_0 x10_1).f1))) (fun _ hk => hk.2) (.int .i64 ((rd_T72 l0_0 x10_1).f2))) (fun _ hk => hk.2) (.int .i64 ((rd_T72 l0_0 x10_1).f3))) (fun _ hk => trivial)⟩, ⟨by (with_reducible repeat (first | apply Kd.R_alloc | apply Kd.R_drewN | apply Kd.R_drew)); exact Kd.R_mono (Kd.R_far (p := ⟨gb193, 3, none⟩) (Kd.R_far (p := ⟨gb193, 2, none⟩) (Kd.R_far (p := ⟨gb193, 1, none⟩) (Kd.R_far (p := ⟨gb193, 0, none⟩) (Kd.R_types HO_8.out BK193.out (by decide)) (fun _ hk => hk.2) (.string ((rd_T72 l0_0 x10_1).f0))) (fun _ hk => hk.2) (.int .i64 ((rd_T72 l0_0 x10_1).f1))) (fun _ hk => hk.2) (.int .i64 ((rd_T72 l0_0 x10_1).f2))) (fun _ hk => hk.2) (.int .i64 ((rd_T72 l0_0 x10_1).f3))) (fun _ hk => trivial)⟩, ⟨by (with_reducible repeat (first | refine blk_drewN ?_ _ | refine blk_drew ?_ | refine blk_alloc ?_ _)); refine blk_far ?_ NB187_193.out _; (with_reducible repeat (first | refine blk_drewN ?_ _ | refine blk_drew ?_ | refine blk_alloc ?_ _)); refine blk_far ?_ NB187_193.out _; (with_reducible repeat (first | refine blk_drewN ?_ _ | refine blk_drew ?_ | refine blk_alloc ?_ _)); refine blk_far ?_ NB187_193.out _; (with_reducible repeat (first | refine blk_drewN ?_ _ | refine blk_drew ?_ | refine blk_alloc ?_ _)); refine blk_far ?_ NB187_193.out _; (with_reducible repeat (first | refine blk_drewN ?_ _ | refine blk_drew ?_ | refine blk_alloc ?_ _)); exact BK187.out⟩, ⟨by (with_reducible repeat (first | refine blk_drewN ?_ _ | refine blk_drew ?_ | refine blk_alloc ?_ _)); refine blk_far ?_ NB188_193.out _; (with_reducible repeat (first | refine blk_drewN ?_ _ | refine blk_drew ?_ | refine blk_alloc ?_ _)); refine blk_far ?_ NB188_193.out _; (with_reducible repeat (first | refine blk_drewN ?_ _ | refine blk_drew ?_ | refine blk_alloc ?_ _)); refine blk_far ?_ NB188_193.out _; (with_reducible repeat (first | refine blk_drewN ?_ _ | refine blk_drew ?_ | refine blk_alloc ?_ _)); refine blk_far ?_ NB188_193.out _; (with_reducible repeat (first | refine blk_drewN ?_ _ | refine blk_drew ?_ | refine blk_alloc ?_ _)); exact BK188.out⟩, ⟨by (with_reducible repeat (first | refine blk_drewN ?_ _ | refine blk_drew ?_ | refine blk_alloc ?_ _)); refine blk_put (cs := #[.string ((rd_T72 l0_0 x10_1).f0), .int .i64 ((rd_T72 l0_0 x10_1).f1), .int .i64 ((rd_T72 l0_0 x10_1).f2), .int .i64 0]) ?_ 3 _ rfl; (with_reducible repeat (first | refine blk_drewN ?_ _ | refine blk_drew ?_ | refine blk_alloc ?_ _)); refine blk_put (cs := #[.string ((rd_T72 l0_0 x10_1).f0), .int .i64 ((rd_T72 l0_0 x10_1).f1), .int .i64 0, .int .i64 0]) ?_ 2 _ rfl; (with_reducible repeat (first | refine blk_drewN ?_ _ | refine blk_drew ?_ | refine blk_alloc ?_ _)); refine blk_put (cs := #[.string ((rd_T72 l0_0 x10_1).f0), .int .i64 0, .int .i64 0, .int .i64 0]) ?_ 1 _ rfl; (with_reducible repeat (first | refine blk_drewN ?_ _ | refine blk_drew ?_ | refine blk_alloc ?_ _)); refine blk_put (cs := #[.string (⟨#[]⟩ : ByteArray), .int .i64 0, .int .i64 0, .int .i64 0]) ?_ 0 _ rfl; (with_reducible repeat (first | refine blk_drewN ?_ _ | refine blk_drew ?_ | refine blk_alloc ?_ _)); exact BK193.out⟩, ⟨by repeat (first | (with_reducible first | exact HB.out | apply below_alloc | apply pw_below_drewN | apply below_drew1 | refine below_set ?_ GE187.out | refine below_set ?_ GE188.out | refine below_set ?_ GE193.out) | exact HB.out)⟩⟩
        ·rw [if_neg c18] at H
         have c18b0 : decide (((rd_T72 l0_0 x10_1).f1) < 0) = false := decide_eq_false c18
         clear c18
         (first | rw [c18b0] | (simp only [i64_w, i32_w]; rw [c18b0]) | skip)
         have H' := Aside0.mk H
         clear H
         go_wp2
         repeat (go_quiet (fail); try go_wp2)
         go_meet
         case rel => exact ⟨_, ((rd_T72 l0_0 x10_1).f1), (by first | rfl | (simp; done) | (simp [*]; done)), H', ⟨by have := HK1.out; first | omega | exact Nat.le_refl _⟩, ⟨by (with_reducible repeat (first | apply Kd.R_alloc | apply Kd.R_drewN | apply Kd.R_drew)); exact Kd.R_mono (Kd.R_far (p := ⟨gb193, 3, none⟩) (Kd.R_far (p := ⟨gb193, 2, none⟩) (Kd.R_far (p := ⟨gb193, 1, none⟩) (Kd.R_far (p := ⟨gb193, 0, none⟩) (Kd.R_types HO_7.out BK193.out (by decide)) (fun _ hk => hk.2) (.string ((rd_T72 l0_0 x10_1).f0))) (fun _ hk => hk.2) (.int .i64 ((rd_T72 l0_0 x10_1).f1))) (fun _ hk => hk.2) (.int .i64 ((rd_T72 l0_0 x10_1).f2))) (fun _ hk => hk.2) (.int .i64 ((rd_T72 l0_0 x10_1).f3))) (fun _ hk => trivial)⟩, ⟨by (with_reducible repeat (first | apply Kd.R_alloc | apply Kd.R_drewN | apply Kd.R_drew)); exact Kd.R_mono (Kd.R_far (p := ⟨gb193, 3, none⟩) (Kd.R_far (p := ⟨gb193, 2, none⟩) (Kd.R_far (p := ⟨gb193, 1, none⟩) (Kd.R_far (p := ⟨gb193, 0, none⟩) (Kd.R_types HO_8.out BK193.out (by decide)) (fun _ hk => hk.2) (.string ((rd_T72 l0_0 x10_1).f0))) (fun _ hk => hk.2) (.int .i64 ((rd_T72 l0_0 x10_1).f1))) (fun _ hk => hk.2) (.int .i64 ((rd_T72 l0_0 x10_1).f2))) (fun _ hk => hk.2) (.int .i64 ((rd_T72 l0_0 x10_1).f3))) (fun _ hk => trivial)⟩, ⟨by (with_reducible repeat (first | refine blk_drewN ?_ _ | refine blk_drew ?_ | refine blk_alloc ?_ _)); refine blk_far ?_ NB187_193.out _; (with_reducible repeat (first | refine blk_drewN ?_ _ | refine blk_drew ?_ | refine blk_alloc ?_ _)); refine blk_far ?_ NB187_193.out _; (with_reducible repeat (first | refine blk_drewN ?_ _ | refine blk_drew ?_ | refine blk_alloc ?_ _)); refine blk_far ?_ NB187_193.out _; (with_reducible repeat (first | refine blk_drewN ?_ _ | refine blk_drew ?_ | refine blk_alloc ?_ _)); refine blk_far ?_ NB187_193.out _; (with_reducible repeat (first | refine blk_drewN ?_ _ | refine blk_drew ?_ | refine blk_alloc ?_ _)); exact BK187.out⟩, ⟨by (with_reducible repeat (first | refine blk_drewN ?_ _ | refine blk_drew ?_ | refine blk_alloc ?_ _)); refine blk_far ?_ NB188_193.out _; (with_reducible repeat (first | refine blk_drewN ?_ _ | refine blk_drew ?_ | refine blk_alloc ?_ _)); refine blk_far ?_ NB188_193.out _; (with_reducible repeat (first | refine blk_drewN ?_ _ | refine blk_drew ?_ | refine blk_alloc ?_ _)); refine blk_far ?_ NB188_193.out _; (with_reducible repeat (first | refine blk_drewN ?_ _ | refine blk_drew ?_ | refine blk_alloc ?_ _)); refine blk_far ?_ NB188_193.out _; (with_reducible repeat (first | refine blk_drewN ?_ _ | refine blk_drew ?_ | refine blk_alloc ?_ _)); exact BK188.out⟩, ⟨by (with_reducible repeat (first | refine blk_drewN ?_ _ | refine blk_drew ?_ | refine blk_alloc ?_ _)); refine blk_put (cs := #[.string ((rd_T72 l0_0 x10_1).f0), .int .i64 ((rd_T72 l0_0 x10_1).f1), .int .i64 ((rd_T72 l0_0 x10_1).f2), .int .i64 0]) ?_ 3 _ rfl; (with_reducible repeat (first | refine blk_drewN ?_ _ | refine blk_drew ?_ | refine blk_alloc ?_ _)); refine blk_put (cs := #[.string ((rd_T72 l0_0 x10_1).f0), .int .i64 ((rd_T72 l0_0 x10_1).f1), .int .i64 0, .int .i64 0]) ?_ 2 _ rfl; (with_reducible repeat (first | refine blk_drewN ?_ _ | refine blk_drew ?_ | refine blk_alloc ?_ _)); refine blk_put (cs := #[.string ((rd_T72 l0_0 x10_1).f0), .int .i64 0, .int .i64 0, .int .i64 0]) ?_ 1 _ rfl; (with_reducible repeat (first | refine blk_drewN ?_ _ | refine blk_drew ?_ | refine blk_alloc ?_ _)); refine blk_put (cs := #[.string (⟨#[]⟩ : ByteArray), .int .i64 0, .int .i64 0, .int .i64 0]) ?_ 0 _ rfl; (with_reducible repeat (first | refine blk_drewN ?_ _ | refine blk_drew ?_ | refine blk_alloc ?_ _)); exact BK193.out⟩, ⟨by repeat (first | (with_reducible first | exact HB.out | apply below_alloc | apply pw_below_drewN | apply below_drew1 | refine below_set ?_ GE187.out | refine below_set ?_ GE188.out | refine below_set ?_ GE193.out) | exact HB.out)⟩⟩
       case rest =>
        clear HC11
        try clear c1
        try clear p1
        try clear q1
        try clear hx1
        try clear c2
        try clear p2
        try clear c3
        try clear c3b0
        try clear c3b1
        try clear c4
        try clear c4b0
        try clear c4b1
        try clear c9
        try clear c9b0
        try clear c10
        try clear c10b0
        try clear c12
        try clear c15
        try clear c16
        try clear c18
        try clear c18b0
        try clear p19
        try clear q19
        try clear hx19
        try clear c21
        try clear c22
        try clear c23
        try clear hcz13_0
        try clear hcz13_1
        try clear hcz17_0
        try clear hcz17_1
        try clear hcz17_2
        try clear hcz17_3
        try clear hcz23_0
        try clear hcz23_1
        try clear hcz23_2
        try clear hcz23_3
        try clear hfz13_0
        try clear hfz13_1
        try clear hfz17_0
        try clear hfz17_1
        try clear hfz17_2
        try clear hfz17_3
        try clear hfz23_0
        try clear hfz23_1
        try clear hfz23_2
        try clear hfz23_3
        try clear hx192_0
        try clear hx192_1
        try clear hx192_2
        try clear hx192_3
        try clear p192
        try clear p2
        try clear q192
        obtain ⟨kq, x12_10, rfl, HA, HJ10, HO_7, HO_8, BK187, BK188, BK193, HB⟩ := hcut
        cases kq with
        | zero => exact absurd HA.out (by simp [linkhouseref3_Placed.j1])
        | succ kj10 =>
         have H := HA.out
         clear HA
         simp only [linkhouseref3_Placed.j1] at H
         have HC24 := Aside0.mk H
         clear H
         go_upto_region 11 with (fail)
         repeat (go_quiet (fail); go_upto_region 11 with (fail))
         go_cut [48] (fun v48 wc => ∃ (kq : Nat) (x48_23 : Bool), v48 = .bool x48_23 ∧ Aside0 (linkhouseref3_Placed.j2 kq l1 x7_1 x8_1 x10_1 x12_10 x48_23 l0_0 l0_1 = some (r1, r2, r3, r4)) ∧ Aside0 (kq ≤ kj10) ∧ Aside0 (Kd.R (Kd.int .i64) 3 wc w.heap.size (fun _ => True) v190 x7_1) ∧ Aside0 (Kd.R k80 80 wc w.heap.size (fun _ => True) u8 x8_1) ∧ Aside0 (wc.heap[gb187]? = some (.cells #[(.slice (some ad192) l0_0.length c0_0), (.slice A0_1 l0_1.length c0_1)] 25 (0, 0))) ∧ Aside0 (wc.heap[gb188]? = some (.cells #[.int .i64 x189000_1, .int .i64 x189001_1] 29 (0, 0))) ∧ Aside0 (wc.heap[gb193]? = some (.cells #[.string ((rd_T72 l0_0 x10_1).f0), .int .i64 ((rd_T72 l0_0 x10_1).f1), .int .i64 ((rd_T72 l0_0 x10_1).f2), .int .i64 ((rd_T72 l0_0 x10_1).f3)] 72 (0, 0))) ∧ Aside0 (Below w.heap.size w wc))
         case first =>
          have H := HC24.out
          clear HC24
          by_cases c25 : x12_10 < x9_1
          ·rw [if_pos c25] at H
           have c25b0 : decide (x12_10 < x9_1) = true := decide_eq_true c25
           clear c25
           (first | rw [c25b0] | (simp only [i64_w, i32_w]; rw [c25b0]) | skip)
           have H' := Aside0.mk H
           clear H
           go_wp2
           repeat (go_quiet (fail); try go_wp2)
           go_meet
           case rel => exact ⟨_, (true), (by first | rfl | (simp; done) | (simp [*]; done)), H', ⟨by have := HK1.out; have := HJ10.out; first | omega | exact Nat.le_refl _⟩, ⟨by (with_reducible repeat (first | apply Kd.R_alloc | apply Kd.R_drewN | apply Kd.R_drew)); exact HO_7.out⟩, ⟨by (with_reducible repeat (first | apply Kd.R_alloc | apply Kd.R_drewN | apply Kd.R_drew)); exact HO_8.out⟩, ⟨by (with_reducible repeat (first | refine blk_drewN ?_ _ | refine blk_drew ?_ | refine blk_alloc ?_ _)); exact BK187.out⟩, ⟨by (with_reducible repeat (first | refine blk_drewN ?_ _ | refine blk_drew ?_ | refine blk_alloc ?_ _)); exact BK188.out⟩, ⟨by (with_reducible repeat (first | refine blk_drewN ?_ _ | refine blk_drew ?_ | refine blk_alloc ?_ _)); exact BK193.out⟩, ⟨by repeat (first | (with_reducible first | exact HB.out | apply below_alloc | apply pw_below_drewN | apply below_drew1 | refine below_set ?_ GE187.out | refine below_set ?_ GE188.out | refine below_set ?_ GE193.out) | exact HB.out)⟩⟩
          ·rw [if_neg c25] at H
           have c25b0 : decide (x12_10 < x9_1) = false := decide_eq_false c25
           clear c25
           (first | rw [c25b0] | (simp only [i64_w, i32_w]; rw [c25b0]) | skip)
           by_cases c26 : ((rd_T72 l0_0 x10_1).f2) = 0
           ·rw [if_pos c26] at H
            exact absurd H (by simp)
           ·rw [if_neg c26] at H
            have c26b0 : (((rd_T72 l0_0 x10_1).f2) == 0) = false := beq_eq_false_iff_ne.mpr c26
            have c26b1 : (((rd_T72 l0_0 x10_1).f2) != 0) = true := bne_iff_ne.mpr c26
            have H' := Aside0.mk H
            clear H
            have hnb27 := NB193_187.out
            have hnc27 := NB187_193.out
            have hnb28 := NB193_188.out
            have hnc28 := NB188_193.out
            have hcz29_0 : wc.cell? ⟨gb193, 0, none⟩ = some (.string ((rd_T72 l0_0 x10_1).f0)) := (blk_cell BK193.out 0).trans rfl
            have hcz29_1 : wc.cell? ⟨gb193, 1, none⟩ = some (.int .i64 ((rd_T72 l0_0 x10_1).f1)) := (blk_cell BK193.out 1).trans rfl
            have hcz29_2 : wc.cell? ⟨gb193, 2, none⟩ = some (.int .i64 ((rd_T72 l0_0 x10_1).f2)) := (blk_cell BK193.out 2).trans rfl
            have hcz29_3 : wc.cell? ⟨gb193, 3, none⟩ = some (.int .i64 ((rd_T72 l0_0 x10_1).f3)) := (blk_cell BK193.out 3).trans rfl
            have hfz29_0 := blk_frozen BK193.out 0
            have hfz29_1 := blk_frozen BK193.out 1
            have hfz29_2 := blk_frozen BK193.out 2
            have hfz29_3 := blk_frozen BK193.out 3
            go_wp2
            repeat (go_quiet (fail); try go_wp2)
            go_meet
            case rel => exact ⟨_, (((Int.tmod x12_10 ((rd_T72 l0_0 x10_1).f2)) != 0)), (by first | rfl | (simp; done) | (simp [*]; done)), H', ⟨by have := HK1.out; have := HJ10.out; first | omega | exact Nat.le_refl _⟩, ⟨by (with_reducible repeat (first | apply Kd.R_alloc | apply Kd.R_drewN | apply Kd.R_drew)); exact HO_7.out⟩, ⟨by (with_reducible repeat (first | apply Kd.R_alloc | apply Kd.R_drewN | apply Kd.R_drew)); exact HO_8.out⟩, ⟨by (with_reducible repeat (first | refine blk_drewN ?_ _ | refine blk_drew ?_ | refine blk_alloc ?_ _)); exact BK187.out⟩, ⟨by (with_reducible repeat (first | refine blk_drewN ?_ _ | refine blk_drew ?_ | refine blk_alloc ?_ _)); exact BK188.out⟩, ⟨by (with_reducible repeat (first | refine blk_drewN ?_ _ | refine blk_drew ?_ | refine blk_alloc ?_ _)); exact BK193.out⟩, ⟨by repeat (first | (with_reducible first | exact HB.out | apply below_alloc | apply pw_below_drewN | apply below_drew1 | refine below_set ?_ GE187.out | refine below_set ?_ GE188.out | refine below_set ?_ GE193.out) | exact HB.out)⟩⟩
         case rest =>
          clear HC24
          try clear c1
          try clear p1
          try clear q1
          try clear hx1
          try clear c2
          try clear p2
          try clear c3
          try clear c3b0
          try clear c3b1
          try clear c4
          try clear c4b0
          try clear c4b1
          try clear c9
          try clear c9b0
          try clear c10
          try clear c10b0
          try clear c12
          try clear c15
          try clear c16
          try clear c18
          try clear c18b0
          try clear p19
          try clear q19
          try clear hx19
          try clear c21
          try clear c22
          try clear c23
          try clear c25
          try clear c25b0
          try clear c26
          try clear c26b0
          try clear c26b1
          try clear c27
          try clear c28
          try clear hcz13_0
          try clear hcz13_1
          try clear hcz17_0
          try clear hcz17_1
          try clear hcz17_2
          try clear hcz17_3
          try clear hcz23_0
          try clear hcz23_1
          try clear hcz23_2
          try clear hcz23_3
          try clear hcz29_0
          try clear hcz29_1
          try clear hcz29_2
          try clear hcz29_3
          try clear hfz13_0
          try clear hfz13_1
          try clear hfz17_0
          try clear hfz17_1
          try clear hfz17_2
          try clear hfz17_3
          try clear hfz23_0
          try clear hfz23_1
          try clear hfz23_2
          try clear hfz23_3
          try clear hfz29_0
          try clear hfz29_1
          try clear hfz29_2
          try clear hfz29_3
          try clear hx192_0
          try clear hx192_1
          try clear hx192_2
          try clear hx192_3
          try clear p1
          try clear p19
          try clear p192
          try clear p2
          try clear q1
          try clear q19
          try clear q192
          obtain ⟨kq, x48_23, rfl, HA, HJ23, HO_7, HO_8, BK187, BK188, BK193, HB⟩ := hcut
          cases kq with
          | zero => exact absurd HA.out (by simp [linkhouseref3_Placed.j2])
          | succ kj23 =>
           have H := HA.out
           clear HA
           simp only [linkhouseref3_Placed.j2] at H
           by_cases c30 : x48_23 = true
           ·subst c30
            have H1 : ((linkhouseref3_At.f 13 x10_1).bind fun bt196 => (some (([] : List Int), ([] : List (S80)), bt196.1, bt196.2))) = some (r1, r2, r3, r4) := by rw [if_pos rfl] at H; exact H
            clear H
            have H := H1
            clear H1
            replace H := Option.bind_eq_some_iff.mp H
            obtain ⟨⟨t196, t197⟩, A310, H⟩ := H
            replace H : (some (([] : List Int), ([] : List (S80)), t196, t197)) = some (r1, r2, r3, r4) := H
            have A31 := Aside0.mk A310
            clear A310
            simp only [Option.some.injEq, Prod.mk.injEq] at H
            obtain ⟨rfl, rfl, rfl, rfl⟩ := H
            go_wp2_with (first | (go_at_call 33; (with_reducible refine (linkhouseref3_At.calls 13 x10_1 t196 t197 _ A31.out).mono ?_); rintro e w32 ⟨rfl, hb⟩; have n0_ := Aside0.mk (Kd.R_below (by (with_reducible repeat (first | apply Kd.R_alloc | apply Kd.R_drewN | apply Kd.R_drew)); exact HO_7.out) hb); have n1_ := Aside0.mk (Kd.R_below (by (with_reducible repeat (first | apply Kd.R_alloc | apply Kd.R_drewN | apply Kd.R_drew)); exact HO_8.out) hb); have n2_ := Aside0.mk (blk_below (g := gb187) (o := .cells #[.slice (some ad192) l0_0.length c0_0, .slice A0_1 l0_1.length c0_1] 25 (0, 0)) (by (with_reducible repeat (first | refine blk_drewN ?_ _ | refine blk_drew ?_ | refine blk_alloc ?_ _)); exact BK187.out) hb); have n3_ := Aside0.mk (blk_below (g := gb188) (o := .cells #[.int .i64 x189000_1, .int .i64 x189001_1] 29 (0, 0)) (by (with_reducible repeat (first | refine blk_drewN ?_ _ | refine blk_drew ?_ | refine blk_alloc ?_ _)); exact BK188.out) hb); have n4_ := Aside0.mk (blk_below (g := gb193) (o := .cells #[.string ((rd_T72 l0_0 x10_1).f0), .int .i64 ((rd_T72 l0_0 x10_1).f1), .int .i64 ((rd_T72 l0_0 x10_1).f2), .int .i64 ((rd_T72 l0_0 x10_1).f3)] 72 (0, 0)) (by (with_reducible repeat (first | refine blk_drewN ?_ _ | refine blk_drew ?_ | refine blk_alloc ?_ _)); exact BK193.out) hb); have n5_ := Aside0.mk (below_step (by repeat (first | (with_reducible first | exact HB.out | apply below_alloc | apply pw_below_drewN | apply below_drew1 | refine below_set ?_ GE187.out | refine below_set ?_ GE188.out | refine below_set ?_ GE193.out) | exact HB.out)) hb); clear HO_7; clear HO_8; clear BK187; clear BK188; clear BK193; clear HB; have HO_7 := n0_; have HO_8 := n1_; have BK187 := n2_; have BK188 := n3_; have BK193 := n4_; have HB := n5_; clear n0_ n1_ n2_ n3_ n4_ n5_; (try clear hb); (try clear hb2); (try clear hk); (try clear hi); have hnb33 := NB188_187.out; have hnc33 := NB187_188.out; have hnb34 := NB188_193.out; have hnc34 := NB193_188.out; have hcz35_0 : w32.cell? ⟨gb188, 0, none⟩ = some (.int .i64 x189000_1) := (blk_cell BK188.out 0).trans rfl; have hcz35_1 : w32.cell? ⟨gb188, 1, none⟩ = some (.int .i64 x189001_1) := (blk_cell BK188.out 1).trans rfl; have hfz35_0 := blk_frozen BK188.out 0; have hfz35_1 := blk_frozen BK188.out 1))
            skip
            refine bodyPost_ret (results_list (rs := [.tmp 4, .tmp 5, .cell 6 29]) rfl (by simp) (.tmp (.tmp (.cell gb188 29 #[.int .i64 t196, .int .i64 t197] (0, 0) _ rfl (by (with_reducible repeat (first | refine blk_drewN ?_ _ | refine blk_drew ?_ | refine blk_alloc ?_ _)); refine blk_put (cs := #[.int .i64 t196, .int .i64 x189001_1]) ?_ 1 _ rfl; (with_reducible repeat (first | refine blk_drewN ?_ _ | refine blk_drew ?_ | refine blk_alloc ?_ _)); refine blk_put (cs := #[.int .i64 x189000_1, .int .i64 x189001_1]) ?_ 0 _ rfl; (with_reducible repeat (first | refine blk_drewN ?_ _ | refine blk_drew ?_ | refine blk_alloc ?_ _)); exact BK188.out) Try.underlying29 rfl (by kernel_rfl) .nil)))) rfl ?_
            exact ⟨_, _, by first | rfl | (simp [errW_none, errW_some] <;> rfl) | (simp [*, errW_none, errW_some] <;> rfl), by first | exact Kd.R_nil _ _ _ _ _ | exact Kd.N_nil _ _ _ _ _ | exact Kd.V_nil _ _ _ _ _ | exact Kd.Q_nil _ _ _ _ _ | exact Kd.S_nil _ _ _ _ _, by first | exact Kd.R_nil _ _ _ _ _ | exact Kd.N_nil _ _ _ _ _ | exact Kd.V_nil _ _ _ _ _ | exact Kd.Q_nil _ _ _ _ _ | exact Kd.S_nil _ _ _ _ _, by repeat (first | (with_reducible first | exact HB.out | apply below_alloc | apply pw_below_drewN | apply below_drew1 | refine below_set ?_ GE187.out | refine below_set ?_ GE188.out | refine below_set ?_ GE193.out) | exact HB.out)⟩
           ·replace c30 := Bool.eq_false_iff.mpr c30
            subst c30
            have H1 : (linkhouseref3_Placed.l1 kj23 l1 x7_1 x8_1 x10_1 x12_10 x12_10 0 l0_0 l0_1) = some (r1, r2, r3, r4) := by rw [if_neg (show ¬ (false = true) by decide)] at H; exact H
            clear H
            have H := H1
            clear H1
            have H' := Aside0.mk H
            clear H
            go_wp2
            repeat (go_quiet (fail); try go_wp2)
            go_loopg [12, 14] kj23 (fun kq v12 v14 w' => ∃ (x7_4 : List Int) (x12_4 : Int) (x14_4 : Int), v12 = .int .i64 x12_4 ∧ v14 = .int .i64 x14_4 ∧ Aside0 (linkhouseref3_Placed.l1 kq l1 x7_4 x8_1 x10_1 x12_4 x12_10 x14_4 l0_0 l0_1 = some (r1, r2, r3, r4)) ∧ Aside0 (kq ≤ kj23) ∧ Aside0 (Kd.R (Kd.int .i64) 3 w' w.heap.size (fun _ => True) v190 x7_4) ∧ Aside0 (Kd.R k80 80 w' w.heap.size (fun _ => True) u8 x8_1) ∧ Aside0 (w'.heap[gb187]? = some (.cells #[(.slice (some ad192) l0_0.length c0_0), (.slice A0_1 l0_1.length c0_1)] 25 (0, 0))) ∧ Aside0 (w'.heap[gb188]? = some (.cells #[.int .i64 x189000_1, .int .i64 x189001_1] 29 (0, 0))) ∧ Aside0 (w'.heap[gb193]? = some (.cells #[.string ((rd_T72 l0_0 x10_1).f0), .int .i64 ((rd_T72 l0_0 x10_1).f1), .int .i64 ((rd_T72 l0_0 x10_1).f2), .int .i64 ((rd_T72 l0_0 x10_1).f3)] 72 (0, 0))) ∧ Aside0 (Below w.heap.size w w'))
            case atStart => exact ⟨(x7_1), (x12_10), (0), (by first | rfl | (simp; done) | (simp [*]; done)), (by first | rfl | (simp; done) | (simp [*]; done)), H', ⟨Nat.le_refl _⟩, ⟨by (with_reducible repeat (first | apply Kd.R_alloc | apply Kd.R_drewN | apply Kd.R_drew)); exact HO_7.out⟩, ⟨by (with_reducible repeat (first | apply Kd.R_alloc | apply Kd.R_drewN | apply Kd.R_drew)); exact HO_8.out⟩, ⟨by (with_reducible repeat (first | refine blk_drewN ?_ _ | refine blk_drew ?_ | refine blk_alloc ?_ _)); exact BK187.out⟩, ⟨by (with_reducible repeat (first | refine blk_drewN ?_ _ | refine blk_drew ?_ | refine blk_alloc ?_ _)); exact BK188.out⟩, ⟨by (with_reducible repeat (first | refine blk_drewN ?_ _ | refine blk_drew ?_ | refine blk_alloc ?_ _)); exact BK193.out⟩, ⟨by repeat (first | (with_reducible first | exact HB.out | apply below_alloc | apply pw_below_drewN | apply below_drew1 | refine below_set ?_ GE187.out | refine below_set ?_ GE188.out | refine below_set ?_ GE193.out) | exact HB.out)⟩⟩
            case round =>
             clear H'
             try clear c1
             try clear p1
             try clear q1
             try clear hx1
             try clear c2
             try clear p2
             try clear c3
             try clear c3b0
             try clear c3b1
             try clear c4
             try clear c4b0
             try clear c4b1
             try clear c9
             try clear c9b0
             try clear c10
             try clear c10b0
             try clear c12
             try clear c15
             try clear c16
             try clear c18
             try clear c18b0
             try clear p19
             try clear q19
             try clear hx19
             try clear c21
             try clear c22
             try clear c23
             try clear c25
             try clear c25b0
             try clear c26
             try clear c26b0
             try clear c26b1
             try clear c27
             try clear c28
             try clear c30
             try clear c33
             try clear c34
             try clear hcz13_0
             try clear hcz13_1
             try clear hcz17_0
             try clear hcz17_1
             try clear hcz17_2
             try clear hcz17_3
             try clear hcz23_0
             try clear hcz23_1
             try clear hcz23_2
             try clear hcz23_3
             try clear hcz29_0
             try clear hcz29_1
             try clear hcz29_2
             try clear hcz29_3
             try clear hcz35_0
             try clear hcz35_1
             try clear hfz13_0
             try clear hfz13_1
             try clear hfz17_0
             try clear hfz17_1
             try clear hfz17_2
             try clear hfz17_3
             try clear hfz23_0
             try clear hfz23_1
             try clear hfz23_2
             try clear hfz23_3
             try clear hfz29_0
             try clear hfz29_1
             try clear hfz29_2
             try clear hfz29_3
             try clear hfz35_0
             try clear hfz35_1
             try clear hx192_0
             try clear hx192_1
             try clear hx192_2
             try clear hx192_3
             try clear p1
             try clear p19
             try clear p192
             try clear p2
             try clear q1
             try clear q19
             try clear q192
             obtain ⟨x7_4, x12_4, x14_4, rfl, rfl, HA, HK4, HO_7, HO_8, BK187, BK188, BK193, HB⟩ := hrel
             cases gk with
             | zero => exact absurd HA.out (by simp [linkhouseref3_Placed.l1])
             | succ k4 =>
              have H := HA.out
              clear HA
              simp only [linkhouseref3_Placed.l1] at H
              by_cases c36 : x14_4 < (l1.length : Int)
              ·rw [if_pos c36] at H
               have c36b0 : decide (x14_4 < (l1.length : Int)) = true := decide_eq_true c36
               clear c36
               by_cases c37 : 0 ≤ x14_4
               ·rw [if_pos c37] at H
                have c37b0 : decide (0 ≤ x14_4) = true := decide_eq_true c37
                clear c37
                by_cases c38 : ((rd_T57 l1 x14_4).f0) = x10_1
                ·rw [if_pos c38] at H
                 have c38b0 : (((rd_T57 l1 x14_4).f0) == x10_1) = true := beq_iff_eq.mpr c38
                 have c38b1 : (((rd_T57 l1 x14_4).f0) != x10_1) = false := bne_eq_false_iff_eq.mpr c38
                 clear c38
                 replace H := Option.bind_eq_some_iff.mp H
                 obtain ⟨t200, A390, H⟩ := H
                 replace H : (if x14_4 < (x7_4.length : Int) then (linkhouseref3_Placed.l1 k4 l1 (x7_4.set (x14_4 : Int).toNat t200) x8_1 x10_1 (wrap64 (t200 + ((rd_T57 l1 x14_4).f1))) x12_10 (wrap64 (x14_4 + 1)) l0_0 l0_1) else (none)) = some (r1, r2, r3, r4) := H
                 have A39 := Aside0.mk A390
                 clear A390
                 by_cases c40 : x14_4 < (x7_4.length : Int)
                 ·rw [if_pos c40] at H
                  have c40b0 : decide (x14_4 < (x7_4.length : Int)) = true := decide_eq_true c40
                  clear c40
                  obtain ⟨y201, hy201⟩ : ∃ y_ : List Int, y_ = (x7_4.set (x14_4 : Int).toNat t200) := ⟨_, rfl⟩
                  replace H : (linkhouseref3_Placed.l1 k4 l1 y201 x8_1 x10_1 (wrap64 (t200 + ((rd_T57 l1 x14_4).f1))) x12_10 (wrap64 (x14_4 + 1)) l0_0 l0_1) = some (r1, r2, r3, r4) := by first | (rw [hy201]; with_reducible exact H) | (have H2_ := (Option.bind_some _ _).symm.trans H; rw [hy201]; with_reducible exact H2_) | (have H2_ := (Option.bind_some _ _).symm.trans H; with_reducible exact H2_) | with_reducible exact H | (rw [hy201]; exact H) | exact H
                  have Ny201 := Aside0.mk hy201
                  clear hy201
                  have H' := Aside0.mk H
                  clear H
                  have p198 : 0 ≤ (x14_4 : Int) := of_decide_eq_true (by first | (with_reducible assumption) | assumption)
                  have q198 : x14_4 < (l1.length : Int) := of_decide_eq_true (by first | (with_reducible assumption) | assumption)
                  obtain ⟨ad198, e198, hx198_0, hx198_1, hx198_2⟩ := at_T57 HR1.out x14_4 p198 q198
                  cases e198
                  replace hx198_0 := (HB.out.cell (World.block_lt_of_cell? w _ hx198_0)).trans hx198_0
                  replace hx198_1 := (HB.out.cell (World.block_lt_of_cell? w _ hx198_1)).trans hx198_1
                  replace hx198_2 := (HB.out.cell (World.block_lt_of_cell? w _ hx198_2)).trans hx198_2
                  replace p198 := eq_true p198
                  replace q198 := eq_true q198
                  have p199 : 0 ≤ (x14_4 : Int) := of_decide_eq_true (by first | (with_reducible assumption) | assumption)
                  have q199 : x14_4 < (l1.length : Int) := of_decide_eq_true (by first | (with_reducible assumption) | assumption)
                  obtain ⟨ad199, e199, hx199_0, hx199_1, hx199_2⟩ := at_T57 HR1.out x14_4 p199 q199
                  obtain rfl : ad198 = ad199 := (by injection e199)
                  replace hx199_0 := (HB.out.cell (World.block_lt_of_cell? w _ hx199_0)).trans hx199_0
                  replace hx199_1 := (HB.out.cell (World.block_lt_of_cell? w _ hx199_1)).trans hx199_1
                  replace hx199_2 := (HB.out.cell (World.block_lt_of_cell? w _ hx199_2)).trans hx199_2
                  replace p199 := eq_true p199
                  replace q199 := eq_true q199
                  go_wp2_with (first | (go_at_call 38; (with_reducible refine (linkhouseref3_Round.calls k4 x12_4 ((rd_T57 l1 x14_4).f2) t200 _ A39.out).mono ?_); rintro e w' ⟨rfl, ⟨nd, rfl⟩⟩; (try first | exact ⟨rfl, _, World.drewN_drewN _ _ _⟩ | exact ⟨rfl, _, Eq.trans (World.drewN_drewN _ _ _) (congrArg (World.drewN _) (Nat.add_assoc _ _ _))⟩); have p41 : 0 ≤ (x14_4 : Int) := of_decide_eq_true (by first | (with_reducible assumption) | assumption); have q41 : (x14_4 : Int) < ((x7_4.length : Int) : Int) := of_decide_eq_true (by first | (with_reducible assumption) | assumption); obtain ⟨go41, co41, eo41, gb41, gl41, cl41, HG41⟩ := Kd.R_form HO_7.out (by omega); (first | cases eo41 | (injection eo41 with ea_ en_ ec_; (first | subst ea_ | (injection ea_ with ea_; subst ea_)); subst ec_; clear en_)); have GB41 := Aside0.mk gb41; have GG41 := Aside0.mk HG41; clear gb41 gl41 HG41; obtain ⟨hx41_0, hf41_0⟩ := Kd.R_celln 0 HO_7.out (x14_4 : Int) p41 q41; replace p41 := eq_true p41; replace q41 := eq_true q41; obtain ⟨hy42_, hz42_⟩ := Kd.R_celln 0 HO_7.out (x14_4 : Int) (of_decide_eq_true (by first | (with_reducible assumption) | assumption)) (of_decide_eq_true (by first | (with_reducible assumption) | assumption)); have HP42 := Kd.R_putg HO_7.out (x14_4 : Int) t200) | ((with_reducible refine gate_store (t := 3) (p := 75) rfl ?_); (try (rw [drewN_self wr]; generalize hq_ : World.drewN wr _ = wr; have n0_ := Aside0.mk (Kd.R_at hq_ HO_7.out); have n1_ := Aside0.mk (Kd.R_at hq_ HO_8.out); have n2_ := Aside0.mk (blk_at hq_ BK187.out); have n3_ := Aside0.mk (blk_at hq_ BK188.out); have n4_ := Aside0.mk (blk_at hq_ BK193.out); have n5_ := Aside0.mk (below_at hq_ HB.out); clear hq_ HO_7 HO_8 BK187 BK188 BK193 HB; have HO_7 := n0_; have HO_8 := n1_; have BK187 := n2_; have BK188 := n3_; have BK193 := n4_; have HB := n5_; clear n0_ n1_ n2_ n3_ n4_ n5_; (try (obtain ⟨hy42_, hz42_⟩ := Kd.R_celln 0 HO_7.out (x14_4 : Int) (of_decide_eq_true (by first | (with_reducible assumption) | assumption)) (of_decide_eq_true (by first | (with_reducible assumption) | assumption)))); (try (have HP42 := Kd.R_putg HO_7.out (x14_4 : Int) t200)))); refine store_event (t := 3) (p := 75) (v := ?vo_w43) (w1 := (wr.setCell ⟨go41, (x14_4 : Int).toNat, none⟩ (.int .i64 t200))) ?hg ?ho ?hn ?hr ?_; (case ho => rfl); (case hg => rfl); (case hn => rfl); (case hr => first | (go_simp; done) | (go_simp; rfl)); intro w43 hw; have hg : wr.grownBy w43 (some go41) := (by rw [hw]; exact HP42.2); have hp_ : Kd.R (Kd.int .i64) 3 w43 w.heap.size (fun _ => True) (.slice (some ⟨go41, 0, none⟩) x7_4.length co41) y201 := (by rw [hw, Ny201.out]; exact HP42.1); clear HP42; have n0_ := Aside0.mk (hp_); have n1_ := Aside0.mk (Kd.R_over' (v := (.slice (some ⟨go41, 0, none⟩) x7_4.length co41)) (by (with_reducible repeat (first | apply Kd.R_alloc | apply Kd.R_drewN | apply Kd.R_drew)); exact HO_8.out) (Kd.R_typed HO_7.out) (by decide) hg); have n2_ := Aside0.mk (blk_grown (g := gb187) (o := .cells #[.slice (some ad192) l0_0.length c0_0, .slice A0_1 l0_1.length c0_1] 25 (0, 0)) (by (with_reducible repeat (first | refine blk_drewN ?_ _ | refine blk_drew ?_ | refine blk_alloc ?_ _)); exact BK187.out) hg (Kd.R_ne HO_7.out BK187.out (by decide))); have n3_ := Aside0.mk (blk_grown (g := gb188) (o := .cells #[.int .i64 x189000_1, .int .i64 x189001_1] 29 (0, 0)) (by (with_reducible repeat (first | refine blk_drewN ?_ _ | refine blk_drew ?_ | refine blk_alloc ?_ _)); exact BK188.out) hg (Kd.R_ne HO_7.out BK188.out (by decide))); have n4_ := Aside0.mk (blk_grown (g := gb193) (o := .cells #[.string ((rd_T72 l0_0 x10_1).f0), .int .i64 ((rd_T72 l0_0 x10_1).f1), .int .i64 ((rd_T72 l0_0 x10_1).f2), .int .i64 ((rd_T72 l0_0 x10_1).f3)] 72 (0, 0)) (by (with_reducible repeat (first | refine blk_drewN ?_ _ | refine blk_drew ?_ | refine blk_alloc ?_ _)); exact BK193.out) hg (Kd.R_ne HO_7.out BK193.out (by decide))); have n5_ := Aside0.mk ((by rw [hw]; exact below_set (HB.out) GB41.out : Below w.heap.size w w43)); clear HO_7; clear HO_8; clear BK187; clear BK188; clear BK193; clear HB; have HO_7 := n0_; have HO_8 := n1_; have BK187 := n2_; have BK188 := n3_; have BK193 := n4_; have HB := n5_; clear n0_ n1_ n2_ n3_ n4_ n5_; clear hg hw hp_; have p202 : 0 ≤ (x14_4 : Int) := of_decide_eq_true (by first | (with_reducible assumption) | assumption); have q202 : x14_4 < (l1.length : Int) := of_decide_eq_true (by first | (with_reducible assumption) | assumption); obtain ⟨ad202, e202, hx202_0, hx202_1, hx202_2⟩ := at_T57 HR1.out x14_4 p202 q202; obtain rfl : ad198 = ad202 := (by injection e202); replace hx202_0 := (HB.out.cell (World.block_lt_of_cell? w _ hx202_0)).trans hx202_0; replace hx202_1 := (HB.out.cell (World.block_lt_of_cell? w _ hx202_1)).trans hx202_1; replace hx202_2 := (HB.out.cell (World.block_lt_of_cell? w _ hx202_2)).trans hx202_2; replace p202 := eq_true p202; replace q202 := eq_true q202))
                  skip
                  go_roundg k4
                  case measure => have := HK1.out; have := HJ10.out; have := HJ23.out; have := HK4.out; omega
                  case rel => exact ⟨(y201), (wrap64 (t200 + ((rd_T57 l1 x14_4).f1))), (wrap64 (x14_4 + 1)), (by first | rfl | (simp; done) | (simp [*]; done)), (by first | rfl | (simp; done) | (simp [*]; done)), H', ⟨by have := HK1.out; have := HJ10.out; have := HJ23.out; have := HK4.out; omega⟩, ⟨by (with_reducible repeat (first | apply Kd.R_alloc | apply Kd.R_drewN | apply Kd.R_drew)); exact HO_7.out⟩, ⟨by (with_reducible repeat (first | apply Kd.R_alloc | apply Kd.R_drewN | apply Kd.R_drew)); exact HO_8.out⟩, ⟨by (with_reducible repeat (first | refine blk_drewN ?_ _ | refine blk_drew ?_ | refine blk_alloc ?_ _)); exact BK187.out⟩, ⟨by (with_reducible repeat (first | refine blk_drewN ?_ _ | refine blk_drew ?_ | refine blk_alloc ?_ _)); exact BK188.out⟩, ⟨by (with_reducible repeat (first | refine blk_drewN ?_ _ | refine blk_drew ?_ | refine blk_alloc ?_ _)); exact BK193.out⟩, ⟨by repeat (first | (with_reducible first | exact HB.out | apply below_alloc | apply pw_below_drewN | apply below_drew1 | refine below_set ?_ GE187.out | refine below_set ?_ GE188.out | refine below_set ?_ GE193.out) | exact HB.out)⟩⟩
                 ·rw [if_neg c40] at H
                  exact absurd H (by simp)
                ·rw [if_neg c38] at H
                 have c38b0 : (((rd_T57 l1 x14_4).f0) == x10_1) = false := beq_eq_false_iff_ne.mpr c38
                 have c38b1 : (((rd_T57 l1 x14_4).f0) != x10_1) = true := bne_iff_ne.mpr c38
                 have H' := Aside0.mk H
                 clear H
                 have p198 : 0 ≤ (x14_4 : Int) := of_decide_eq_true (by first | (with_reducible assumption) | assumption)
                 have q198 : x14_4 < (l1.length : Int) := of_decide_eq_true (by first | (with_reducible assumption) | assumption)
                 obtain ⟨ad198, e198, hx198_0, hx198_1, hx198_2⟩ := at_T57 HR1.out x14_4 p198 q198
                 cases e198
                 replace hx198_0 := (HB.out.cell (World.block_lt_of_cell? w _ hx198_0)).trans hx198_0
                 replace hx198_1 := (HB.out.cell (World.block_lt_of_cell? w _ hx198_1)).trans hx198_1
                 replace hx198_2 := (HB.out.cell (World.block_lt_of_cell? w _ hx198_2)).trans hx198_2
                 replace p198 := eq_true p198
                 replace q198 := eq_true q198
                 go_wp2
                 repeat (go_quiet (fail); try go_wp2)
                 go_roundg k4
                 case measure => have := HK1.out; have := HJ10.out; have := HJ23.out; have := HK4.out; omega
                 case rel => exact ⟨(x7_4), (x12_4), (wrap64 (x14_4 + 1)), (by first | rfl | (simp; done) | (simp [*]; done)), (by first | rfl | (simp; done) | (simp [*]; done)), H', ⟨by have := HK1.out; have := HJ10.out; have := HJ23.out; have := HK4.out; omega⟩, ⟨by (with_reducible repeat (first | apply Kd.R_alloc | apply Kd.R_drewN | apply Kd.R_drew)); exact HO_7.out⟩, ⟨by (with_reducible repeat (first | apply Kd.R_alloc | apply Kd.R_drewN | apply Kd.R_drew)); exact HO_8.out⟩, ⟨by (with_reducible repeat (first | refine blk_drewN ?_ _ | refine blk_drew ?_ | refine blk_alloc ?_ _)); exact BK187.out⟩, ⟨by (with_reducible repeat (first | refine blk_drewN ?_ _ | refine blk_drew ?_ | refine blk_alloc ?_ _)); exact BK188.out⟩, ⟨by (with_reducible repeat (first | refine blk_drewN ?_ _ | refine blk_drew ?_ | refine blk_alloc ?_ _)); exact BK193.out⟩, ⟨by repeat (first | (with_reducible first | exact HB.out | apply below_alloc | apply pw_below_drewN | apply below_drew1 | refine below_set ?_ GE187.out | refine below_set ?_ GE188.out | refine below_set ?_ GE193.out) | exact HB.out)⟩⟩
               ·rw [if_neg c37] at H
                exact absurd H (by simp)
              ·rw [if_neg c36] at H
               have c36b0 : decide (x14_4 < (l1.length : Int)) = false := decide_eq_false c36
               clear c36
               by_cases c44 : x12_4 > 1048576
               ·rw [if_pos c44] at H
                have c44b0 : decide (1048576 < x12_4) = true := decide_eq_true c44
                clear c44
                replace H := Option.bind_eq_some_iff.mp H
                obtain ⟨⟨t203, t204⟩, A450, H⟩ := H
                replace H : (some (([] : List Int), ([] : List (S80)), t203, t204)) = some (r1, r2, r3, r4) := H
                have A45 := Aside0.mk A450
                clear A450
                simp only [Option.some.injEq, Prod.mk.injEq] at H
                obtain ⟨rfl, rfl, rfl, rfl⟩ := H
                go_wp2_with (first | (go_at_call 33; (with_reducible refine (linkhouseref3_At.calls 10 x10_1 t203 t204 _ A45.out).mono ?_); rintro e w46 ⟨rfl, hb⟩; have n0_ := Aside0.mk (Kd.R_below (by (with_reducible repeat (first | apply Kd.R_alloc | apply Kd.R_drewN | apply Kd.R_drew)); exact HO_7.out) hb); have n1_ := Aside0.mk (Kd.R_below (by (with_reducible repeat (first | apply Kd.R_alloc | apply Kd.R_drewN | apply Kd.R_drew)); exact HO_8.out) hb); have n2_ := Aside0.mk (blk_below (g := gb187) (o := .cells #[.slice (some ad192) l0_0.length c0_0, .slice A0_1 l0_1.length c0_1] 25 (0, 0)) (by (with_reducible repeat (first | refine blk_drewN ?_ _ | refine blk_drew ?_ | refine blk_alloc ?_ _)); exact BK187.out) hb); have n3_ := Aside0.mk (blk_below (g := gb188) (o := .cells #[.int .i64 x189000_1, .int .i64 x189001_1] 29 (0, 0)) (by (with_reducible repeat (first | refine blk_drewN ?_ _ | refine blk_drew ?_ | refine blk_alloc ?_ _)); exact BK188.out) hb); have n4_ := Aside0.mk (blk_below (g := gb193) (o := .cells #[.string ((rd_T72 l0_0 x10_1).f0), .int .i64 ((rd_T72 l0_0 x10_1).f1), .int .i64 ((rd_T72 l0_0 x10_1).f2), .int .i64 ((rd_T72 l0_0 x10_1).f3)] 72 (0, 0)) (by (with_reducible repeat (first | refine blk_drewN ?_ _ | refine blk_drew ?_ | refine blk_alloc ?_ _)); exact BK193.out) hb); have n5_ := Aside0.mk (below_step (by repeat (first | (with_reducible first | exact HB.out | apply below_alloc | apply pw_below_drewN | apply below_drew1 | refine below_set ?_ GE187.out | refine below_set ?_ GE188.out | refine below_set ?_ GE193.out) | exact HB.out)) hb); clear HO_7; clear HO_8; clear BK187; clear BK188; clear BK193; clear HB; have HO_7 := n0_; have HO_8 := n1_; have BK187 := n2_; have BK188 := n3_; have BK193 := n4_; have HB := n5_; clear n0_ n1_ n2_ n3_ n4_ n5_; (try clear hb); (try clear hb2); (try clear hk); (try clear hi); have hnb47 := NB188_187.out; have hnc47 := NB187_188.out; have hnb48 := NB188_193.out; have hnc48 := NB193_188.out; have hcz49_0 : w46.cell? ⟨gb188, 0, none⟩ = some (.int .i64 x189000_1) := (blk_cell BK188.out 0).trans rfl; have hcz49_1 : w46.cell? ⟨gb188, 1, none⟩ = some (.int .i64 x189001_1) := (blk_cell BK188.out 1).trans rfl; have hfz49_0 := blk_frozen BK188.out 0; have hfz49_1 := blk_frozen BK188.out 1))
                skip
                refine bodyPost_ret (results_list (rs := [.tmp 4, .tmp 5, .cell 6 29]) rfl (by simp) (.tmp (.tmp (.cell gb188 29 #[.int .i64 t203, .int .i64 t204] (0, 0) _ rfl (by (with_reducible repeat (first | refine blk_drewN ?_ _ | refine blk_drew ?_ | refine blk_alloc ?_ _)); refine blk_put (cs := #[.int .i64 t203, .int .i64 x189001_1]) ?_ 1 _ rfl; (with_reducible repeat (first | refine blk_drewN ?_ _ | refine blk_drew ?_ | refine blk_alloc ?_ _)); refine blk_put (cs := #[.int .i64 x189000_1, .int .i64 x189001_1]) ?_ 0 _ rfl; (with_reducible repeat (first | refine blk_drewN ?_ _ | refine blk_drew ?_ | refine blk_alloc ?_ _)); exact BK188.out) Try.underlying29 rfl (by kernel_rfl) .nil)))) rfl ?_
                exact ⟨_, _, by first | rfl | (simp [errW_none, errW_some] <;> rfl) | (simp [*, errW_none, errW_some] <;> rfl), by first | exact Kd.R_nil _ _ _ _ _ | exact Kd.N_nil _ _ _ _ _ | exact Kd.V_nil _ _ _ _ _ | exact Kd.Q_nil _ _ _ _ _ | exact Kd.S_nil _ _ _ _ _, by first | exact Kd.R_nil _ _ _ _ _ | exact Kd.N_nil _ _ _ _ _ | exact Kd.V_nil _ _ _ _ _ | exact Kd.Q_nil _ _ _ _ _ | exact Kd.S_nil _ _ _ _ _, by repeat (first | (with_reducible first | exact HB.out | apply below_alloc | apply pw_below_drewN | apply below_drew1 | refine below_set ?_ GE187.out | refine below_set ?_ GE188.out | refine below_set ?_ GE193.out) | exact HB.out)⟩
               ·rw [if_neg c44] at H
                have c44b0 : decide (1048576 < x12_4) = false := decide_eq_false c44
                clear c44
                by_cases c50 : x8_1.length < 8796093022208
                ·rw [if_pos c50] at H
                 have LMc50 := Aside0.mk c50
                 clear c50
                 obtain ⟨y205, hy205⟩ : ∃ y_ : List (S80), y_ = (x8_1 ++ [(⟨x12_10, wrap64 (x12_4 - x12_10)⟩ : S80)]) := ⟨_, rfl⟩
                 replace H : (linkhouseref3_Placed.l0 k4 l1 x7_4 y205 x12_4 (wrap64 (x10_1 + 1)) l0_0 l0_1) = some (r1, r2, r3, r4) := by first | (rw [hy205]; with_reducible exact H) | (have H2_ := (Option.bind_some _ _).symm.trans H; rw [hy205]; with_reducible exact H2_) | (have H2_ := (Option.bind_some _ _).symm.trans H; with_reducible exact H2_) | with_reducible exact H | (rw [hy205]; exact H) | exact H
                 have Ny205 := Aside0.mk hy205
                 clear hy205
                 have H' := Aside0.mk H
                 clear H
                 go_wp2_with (first | ((with_reducible refine gate_builtin (b := .append) (xs := #[.tmp 87, .tmp 93]) rfl ?_); at_builtin; refine Kd.R_append k80 (w0 := w) w.heap.size rfl (.tmp 87) (.tmp 93) 34 80 (.agg #[(.int .i64 0), (.int .i64 0)]) 16 rfl Try.underlying34 info80 rfl (by decide) (by omega) u8 x8_1 (⟨x12_10, wrap64 (x12_4 - x12_10)⟩ : S80) [.int .i64 x12_10, .int .i64 (wrap64 (x12_4 - x12_10))] (fun _ => True) (fun _ => False) rfl rfl ?aP (fun _ hk => hk.elim) ?aF ?aO ?aB ?aS ?aL ?_; (case aP => exact k80_mkM _ _ _ (⟨x12_10, wrap64 (x12_4 - x12_10)⟩ : S80)); (case aB => exact (by repeat (first | (with_reducible first | exact HB.out | apply below_alloc | apply pw_below_drewN | apply below_drew1 | refine below_set ?_ GE187.out | refine below_set ?_ GE188.out | refine below_set ?_ GE193.out) | exact HB.out))); (case aF => exact (fun _ _ => trivial)); (case aO => exact (by (with_reducible repeat (first | apply Kd.R_alloc | apply Kd.R_drewN | apply Kd.R_drew)); exact HO_8.out)); (case aS => exact (below_size (by repeat (first | (with_reducible first | exact HB.out | apply below_alloc | apply pw_below_drewN | apply below_drew1 | refine below_set ?_ GE187.out | refine below_set ?_ GE188.out | refine below_set ?_ GE193.out) | exact HB.out)))); (case aL => have := LMc50.out; omega); intro v206 w51 ho hb hg hat; rw [← Ny205.out] at ho; have n0_ := Aside0.mk (Kd.R_over' (by (with_reducible repeat (first | apply Kd.R_alloc | apply Kd.R_drewN | apply Kd.R_drew)); exact HO_7.out) (Kd.R_typed (by (with_reducible repeat (first | apply Kd.R_alloc | apply Kd.R_drewN | apply Kd.R_drew)); exact HO_8.out)) (by decide) hg); have n1_ := Aside0.mk (blk_grown (g := gb187) (o := .cells #[.slice (some ad192) l0_0.length c0_0, .slice A0_1 l0_1.length c0_1] 25 (0, 0)) (by (with_reducible repeat (first | refine blk_drewN ?_ _ | refine blk_drew ?_ | refine blk_alloc ?_ _)); exact BK187.out) hg (Kd.R_ne HO_8.out BK187.out (by decide))); have n2_ := Aside0.mk (blk_grown (g := gb188) (o := .cells #[.int .i64 x189000_1, .int .i64 x189001_1] 29 (0, 0)) (by (with_reducible repeat (first | refine blk_drewN ?_ _ | refine blk_drew ?_ | refine blk_alloc ?_ _)); exact BK188.out) hg (Kd.R_ne HO_8.out BK188.out (by decide))); have n3_ := Aside0.mk (blk_grown (g := gb193) (o := .cells #[.string ((rd_T72 l0_0 x10_1).f0), .int .i64 ((rd_T72 l0_0 x10_1).f1), .int .i64 ((rd_T72 l0_0 x10_1).f2), .int .i64 ((rd_T72 l0_0 x10_1).f3)] 72 (0, 0)) (by (with_reducible repeat (first | refine blk_drewN ?_ _ | refine blk_drew ?_ | refine blk_alloc ?_ _)); exact BK193.out) hg (Kd.R_ne HO_8.out BK193.out (by decide))); have n4_ := Aside0.mk (hb); have n5_ := Aside0.mk (ho); clear HO_7; clear BK187; clear BK188; clear BK193; clear HB; clear HO_8; have HO_7 := n0_; have BK187 := n1_; have BK188 := n2_; have BK193 := n3_; have HB := n4_; have HO207 := n5_; clear n0_ n1_ n2_ n3_ n4_ n5_; clear ho hb hg hat))
                 skip
                 go_roundg k4
                 case measure => have := HK1.out; have := HJ10.out; have := HJ23.out; have := HK4.out; omega
                 case rel => exact ⟨(x7_4), (y205), (x12_4), (wrap64 (x10_1 + 1)), (x189000_1), (x189001_1), (by first | rfl | (simp; done) | (simp [*]; done)), (by first | rfl | (simp; done) | (simp [*]; done)), H', ⟨by have := HK1.out; have := HJ10.out; have := HJ23.out; have := HK4.out; omega⟩, ⟨by (with_reducible repeat (first | apply Kd.R_alloc | apply Kd.R_drewN | apply Kd.R_drew)); exact HO_7.out⟩, ⟨by (with_reducible repeat (first | apply Kd.R_alloc | apply Kd.R_drewN | apply Kd.R_drew)); exact HO207.out⟩, ⟨by (with_reducible repeat (first | refine blk_drewN ?_ _ | refine blk_drew ?_ | refine blk_alloc ?_ _)); exact BK187.out⟩, ⟨by (with_reducible repeat (first | refine blk_drewN ?_ _ | refine blk_drew ?_ | refine blk_alloc ?_ _)); exact BK188.out⟩, ⟨by repeat (first | (with_reducible first | exact HB.out | apply below_alloc | apply pw_below_drewN | apply below_drew1 | refine below_set ?_ GE187.out | refine below_set ?_ GE188.out | refine below_set ?_ GE193.out) | exact HB.out)⟩⟩
                ·rw [if_neg c50] at H
                 exact absurd H (by simp)
      ·rw [if_neg c10] at H
       exact absurd H (by simp)
     ·rw [if_neg c9] at H
      have c9b0 : decide (x10_1 < (l0_0.length : Int)) = false := decide_eq_false c9
      clear c9
      simp only [Option.some.injEq, Prod.mk.injEq] at H
      obtain ⟨rfl, rfl, rfl, rfl⟩ := H
      have hnb52 := NB187_188.out
      have hnc52 := NB188_187.out
      have hcz53_0 : wr.cell? ⟨gb187, 0, none⟩ = some (.slice A0_0 l0_0.length c0_0) := (blk_cell BK187.out 0).trans rfl
      have hcz53_1 : wr.cell? ⟨gb187, 1, none⟩ = some (.slice A0_1 l0_1.length c0_1) := (blk_cell BK187.out 1).trans rfl
      have hfz53_0 := blk_frozen BK187.out 0
      have hfz53_1 := blk_frozen BK187.out 1
      have hcz54_0 : wr.cell? ⟨gb188, 0, none⟩ = some (.int .i64 x189000_1) := (blk_cell BK188.out 0).trans rfl
      have hcz54_1 : wr.cell? ⟨gb188, 1, none⟩ = some (.int .i64 x189001_1) := (blk_cell BK188.out 1).trans rfl
      have hfz54_0 := blk_frozen BK188.out 0
      have hfz54_1 := blk_frozen BK188.out 1
      go_wp2
      repeat (go_quiet (fail); try go_wp2)
      refine bodyPost_ret (results_list (rs := [.tmp 4, .tmp 5, .cell 6 29]) rfl (by simp) (.tmp (.tmp (.cell gb188 29 #[.int .i64 0, .int .i64 0] (0, 0) _ rfl (by (with_reducible repeat (first | refine blk_drewN ?_ _ | refine blk_drew ?_ | refine blk_alloc ?_ _)); refine blk_put (cs := #[.int .i64 0, .int .i64 x189001_1]) ?_ 1 _ rfl; (with_reducible repeat (first | refine blk_drewN ?_ _ | refine blk_drew ?_ | refine blk_alloc ?_ _)); refine blk_put (cs := #[.int .i64 x189000_1, .int .i64 x189001_1]) ?_ 0 _ rfl; (with_reducible repeat (first | refine blk_drewN ?_ _ | refine blk_drew ?_ | refine blk_alloc ?_ _)); exact BK188.out) Try.underlying29 rfl (by kernel_rfl) .nil)))) rfl ?_
      exact ⟨_, _, by first | rfl | (simp [errW_none, errW_some] <;> rfl) | (simp [*, errW_none, errW_some] <;> rfl), by (with_reducible repeat (first | apply Kd.R_alloc | apply Kd.R_drewN | apply Kd.R_drew)); exact Kd.R_mono (Kd.R_far (p := ⟨gb188, 1, none⟩) (Kd.R_far (p := ⟨gb188, 0, none⟩) (Kd.R_types HO_7.out BK188.out (by decide)) (fun _ hk => hk.2) (.int .i64 0)) (fun _ hk => hk.2) (.int .i64 0)) (fun _ hk => trivial), by (with_reducible repeat (first | apply Kd.R_alloc | apply Kd.R_drewN | apply Kd.R_drew)); exact Kd.R_mono (Kd.R_far (p := ⟨gb188, 1, none⟩) (Kd.R_far (p := ⟨gb188, 0, none⟩) (Kd.R_types HO_8.out BK188.out (by decide)) (fun _ hk => hk.2) (.int .i64 0)) (fun _ hk => hk.2) (.int .i64 0)) (fun _ hk => trivial), by repeat (first | (with_reducible first | exact HB.out | apply below_alloc | apply pw_below_drewN | apply below_drew1 | refine below_set ?_ GE187.out | refine below_set ?_ GE188.out) | exact HB.out)⟩
  ·rw [if_neg c4] at H
   exact absurd H (by simp)
 ·rw [if_neg c3] at H
  exact absurd H (by simp)
end Go.Proofs.Ytogcgcjhoebooaa.PVeneerMatchesSpec
end
section
set_option linter.unusedVariables false
set_option linter.unusedSimpArgs false
namespace Go.Proofs.Ytogcgcjhoebooaa
open Go.RowKit Go.Proofs.YtogcgcjhoebooaaW.PrintWords Go.Proofs.YtogcgcjhoebooaaW.PrintLast Go.Proofs.Ytogcgcjhoebooaa.PVeneerMatchesSpec
theorem upTo_form {al q r : Int} (h : 1 ≤ al) (h0 : 0 ≤ r) (h1 : r < al) : upTo (al * q + r) al = if r = 0 then al * q else al * q + al := by
 unfold upTo
 by_cases c : r = 0
 ·rw [if_pos c]
  subst c
  have := (Int.ediv_emod_unique (a := al * q + 0 + al - 1) (b := al) (r := al - 1) (q := q) (by omega)).2 ⟨by omega, by omega, by omega⟩
  rw [this.1, Int.mul_comm]
 ·rw [if_neg c]
  have := (Int.ediv_emod_unique (a := al * q + r + al - 1) (b := al) (r := r - 1) (q := q + 1) (by omega)).2 ⟨by rw [Int.mul_add]; omega, by omega, by omega⟩
  rw [this.1, Int.mul_comm, Int.mul_add]; omega
theorem upTo_succ {x al : Int} (h : 1 ≤ al) (hm : ¬ x % al = 0) : upTo (x + 1) al = upTo x al ∧ x < upTo x al := by
 have e := Int.mul_ediv_add_emod x al
 have h0 := Int.emod_nonneg x (show al ≠ 0 by omega)
 have h1 := Int.emod_lt_of_pos x (show 0 < al by omega)
 generalize x / al = q at *
 generalize x % al = r at *
 subst e
 have f1 := upTo_form (q := q) h h0 h1
 rw [if_neg hm] at f1
 rw [f1]
 refine ⟨?_, by omega⟩
 by_cases c : r + 1 < al
 ·have f2 := upTo_form (q := q) (r := r + 1) h (by omega) c
  rw [if_neg (by omega)] at f2
  rw [show al * q + r + 1 = al * q + (r + 1) by omega, f2]
 ·have f2 := upTo_form (q := q + 1) (r := 0) h (by omega) (by omega)
  rw [if_pos rfl, Int.mul_add] at f2
  rw [show al * q + r + 1 = al * q + al * 1 + 0 by omega, f2]; omega
theorem upTo_self {x al : Int} (h : 1 ≤ al) (hm : x % al = 0) : upTo x al = x := by
  have e := Int.mul_ediv_add_emod x al
  rw [hm] at e
  have f := upTo_form (q := x / al) (r := 0) h (by omega) (by omega)
  rw [if_pos rfl] at f
  rw [e] at f
  omega
theorem round_plain {al : Int} (h : 1 ≤ al) : ∀ (k : Nat) (x : Int), 0 ≤ x → upTo x al ≤ 2000000000000 → upTo x al - x < k → linkhouseref3_Round.l0 k x al = some (upTo x al)
 | 0, x, h0, h1, hk => by
  have := upTo_ge (n := x) h
  omega
 | k + 1, x, h0, h1, hk => by
  rw [linkhouseref3_Round.l0, if_neg (by omega), Int.tmod_eq_emod_of_nonneg h0]
  by_cases c : x % al = 0
  ·rw [if_pos c, upTo_self h c]
  ·obtain ⟨e1, e2⟩ := upTo_succ h c
   rw [if_neg c, show wrap64 (x + 1) = x + 1 by unfold wrap64; omega, round_plain h k (x + 1) (by omega) (by omega) (by omega), e1]
theorem round_f {n al : Int} {k : Nat} (h0 : 0 ≤ n) (h1 : n ≤ 1000000000000) (h2 : 1 ≤ al) (h3 : al ≤ 4096) (hk : 5000 ≤ k) : linkhouseref3_Round.f k n al = some (upTo n al) := by
  have := upTo_le (n := n) h2
  exact round_plain h2 k n h0 (by omega) (by omega)
set_option maxHeartbeats 2000000 in
theorem placed_l1 {items : List S57} (hv : OkI items) {os : List S72} {rs : List S76} {kk : Nat} {start : Int} (hkk : kk < 1000) : ∀ (d i k : Nat) (at_ : Int) (ad : List Int) (sp : List S80), i + d = items.length → d + 5000 < k → ad.length = items.length → 0 ≤ at_ → at_ ≤ 2000000 + 2000300 * (i : Int) → sp.length < 1000 →
  linkhouseref3_Placed.l1 k items ad sp kk at_ start i os rs = (if (assignItems items kk d i at_ ad).1 > 1048576 then some ([], [], 10, (kk : Int)) else linkhouseref3_Placed.l0 (k - d - 1) items (assignItems items kk d i at_ ad).2 (sp ++ [⟨start, wrap64 ((assignItems items kk d i at_ ad).1 - start)⟩]) (assignItems items kk d i at_ ad).1 ((kk + 1 : Nat) : Int) os rs)
 | 0, i, k, at_, ad, sp, hi, hk, hl, h0, h1, hsp => by
  obtain ⟨k, rfl⟩ : ∃ k', k = k' + 1 := ⟨k - 1, by omega⟩
  have hA := wrap_succ (i := kk) (by omega)
  have hB : ¬ ((i : Int) < items.length) := by omega
  have hD : sp.length < 8796093022208 := by omega
  rw [linkhouseref3_Placed.l1, if_neg hB, if_pos hD, hA, Nat.sub_zero, Nat.add_sub_cancel]
  rw [show assignItems items kk 0 i at_ ad = (at_, ad) from rfl]
  rfl
 | d + 1, i, k, at_, ad, sp, hi, hk, hl, h0, h1, hsp => by
  suffices H : ∀ R, (if (assignItems items kk (d + 1) i at_ ad).1 > 1048576 then some ([], [], 10, (kk : Int)) else linkhouseref3_Placed.l0 (k - (d + 1) - 1) items (assignItems items kk (d + 1) i at_ ad).2 (sp ++ [⟨start, wrap64 ((assignItems items kk (d + 1) i at_ ad).1 - start)⟩]) (assignItems items kk (d + 1) i at_ ad).1 ((kk + 1 : Nat) : Int) os rs) = R → linkhouseref3_Placed.l1 k items ad sp kk at_ start i os rs = R from H _ rfl
  intro R hR
  obtain ⟨k, rfl⟩ : ∃ k', k = k' + 1 := ⟨k - 1, by omega⟩
  rw [show k + 1 - (d + 1) - 1 = k - d - 1 by omega] at hR
  have hlen := hv.len
  obtain ⟨v1, v2, v3, v4⟩ := hv.x i (by omega)
  have hA : (i : Int) < items.length := by omega
  have hB : (0 : Int) ≤ i := by omega
  have hi1 : i < 100000 := by omega
  have hr : rd_T57 items i = items.getD i z57 := rfl
  rw [linkhouseref3_Placed.l1, if_pos hA, if_pos hB, hr]
  by_cases c : (items.getD i z57).f0 = kk
  ·have hu := upTo_ge (n := at_) v3
   have hu2 := upTo_le (n := at_) v3
   have ih := placed_l1 hv (os := os) (rs := rs) (kk := kk) (start := start) hkk d (i + 1) k (upTo at_ (items.getD i z57).f2 + (items.getD i z57).f1) (ad.set i (upTo at_ (items.getD i z57).f2)) sp (by omega) (by omega) (by simpa using hl) (by omega) (by omega) hsp
   have ha : assignItems items kk (d + 1) i at_ ad = assignItems items kk d (i + 1) (upTo at_ (items.getD i z57).f2 + (items.getD i z57).f1) (ad.set i (upTo at_ (items.getD i z57).f2)) := by rw [assignItems, if_pos c]
   rw [ha] at hR
   rw [if_pos c, round_f h0 (by omega) v3 (by omega) (by omega)]
   simp only [Option.bind_some]
   rw [if_pos (show (i : Int) < ad.length by omega), show ((i : Int)).toNat = i from rfl]
   rw [wrap_succ hi1, wrap_id (by omega) (by omega), ih, hR]
  ·have ih := placed_l1 hv (os := os) (rs := rs) (kk := kk) (start := start) hkk d (i + 1) k at_ ad sp (by omega) (by omega) hl h0 (by omega) hsp
   have ha : assignItems items kk (d + 1) i at_ ad = assignItems items kk d (i + 1) at_ ad := by rw [assignItems, if_neg c]
   rw [ha] at hR
   rw [if_neg c, wrap_succ hi1, ih, hR]
set_option maxHeartbeats 2000000 in
theorem placed_l0 {items : List S57} (hv : OkI items) {os : List S72} (rs : List S76) (ho : ValidO os) : ∀ (d i k : Nat) (end_ : Int) (ad : List Int) (sp S : List S80), i + d = os.length → d * (items.length + 4) + 6000 < k → ad.length = items.length → 0 ≤ end_ → end_ ≤ 1048576 → sp.length = i →
  ∃ sp', linkhouseref3_Placed.l0 k items ad sp end_ i os rs = some ((assignFrom os items d i end_ ad S).ad, sp', (assignFrom os items d i end_ ad S).code, (assignFrom os items d i end_ ad S).idx)
 | 0, i, k, end_, ad, sp, S, hi, hk, hl, h0, h1, hsp => by
  obtain ⟨k, rfl⟩ : ∃ k', k = k' + 1 := ⟨k - 1, by omega⟩
  exact ⟨sp, by rw [linkhouseref3_Placed.l0, if_neg (by omega)]; rfl⟩
 | d + 1, i, k, end_, ad, sp, S, hi, hk, hl, h0, h1, hsp => by
  rw [Nat.succ_mul] at hk
  obtain ⟨k, rfl⟩ : ∃ k', k = k' + 1 + 1 + 1 := ⟨k - 3, by omega⟩
  have hol := ho.len
  have hlen := hv.len
  obtain ⟨o1, o2, o3, o4⟩ := ho.o i (by omega)
  have hr : rd_T72 os i = os.getD i z72 := rfl
  have hu1 := upTo_ge (n := end_) (al := 256) (by omega)
  have hu2 := upTo_le (n := end_) (al := 256) (by omega)
  have hu3 := upTo_ge (n := upTo end_ 256) o3
  have hu4 := upTo_le (n := upTo end_ 256) o3
  have hstep : linkhouseref3_Placed.l0 (k + 1 + 1 + 1) items ad sp end_ i os rs = linkhouseref3_Placed.j1 (k + 1 + 1) items ad sp end_ i (if (os.getD i z72).f1 < 0 then upTo (upTo end_ 256) (os.getD i z72).f2 else (os.getD i z72).f1) os rs (os.getD i z72).f0 (os.getD i z72).f1 (os.getD i z72).f2 (os.getD i z72).f3 := by
   rw [linkhouseref3_Placed.l0, if_pos (by omega), if_pos (by omega), hr]
   by_cases c : (os.getD i z72).f1 < 0
   ·rw [if_pos c, if_pos c, round_f h0 (by omega) (by omega) (by omega) (by omega)]
    simp only [Option.bind_some]
    rw [round_f (by omega) (by omega) o3 o4 (by omega)]
    rfl
   ·rw [if_neg c, if_neg c]
  rw [hstep]
  simp only [assignFrom]
  have hst : 0 ≤ (if (os.getD i z72).f1 < 0 then upTo (upTo end_ 256) (os.getD i z72).f2 else (os.getD i z72).f1) ∧ (if (os.getD i z72).f1 < 0 then upTo (upTo end_ 256) (os.getD i z72).f2 else (os.getD i z72).f1) ≤ 2000000 := by
   split <;> omega
  generalize (if (os.getD i z72).f1 < 0 then upTo (upTo end_ 256) (os.getD i z72).f2 else (os.getD i z72).f1) = start at *
  generalize (os.getD i z72).f2 = al at *
  rw [linkhouseref3_Placed.j1]
  by_cases c1 : start < end_
  ·rw [if_pos c1, if_pos (Or.inl c1)]
   exact ⟨[], by simp [linkhouseref3_Placed.j2, linkhouseref3_At.f]⟩
  ·rw [if_neg c1, if_neg (by omega)]
   have hmod : Int.tmod start al = start % al := Int.tmod_eq_emod_of_nonneg hst.1
   rw [hmod]
   by_cases c2 : start % al ≠ 0
   ·rw [if_pos (Or.inr c2)]
    exact ⟨[], by simp [linkhouseref3_Placed.j2, linkhouseref3_At.f, c2]⟩
   ·have c2' : start % al = 0 := by simpa using c2
    rw [if_neg (show ¬ (start < end_ ∨ start % al ≠ 0) from fun h => h.elim c1 c2)]
    have hL1 := placed_l1 hv (os := os) (rs := rs) (kk := i) (start := start) (by omega) items.length 0 k start ad sp (by omega) (by omega) hl hst.1 (by omega) (by omega)
    rw [show ((0 : Nat) : Int) = 0 from rfl] at hL1
    rw [linkhouseref3_Placed.j2, if_neg (by simp [c2']), hL1]
    have hge := assignItems_ge hv i items.length 0 start ad (by omega)
    have hlen2 := assignItems_len (items := items) (kk := i) items.length 0 start ad
    generalize assignItems items i items.length 0 start ad = r at *
    by_cases c3 : 1048576 < r.1
    ·rw [if_pos c3, if_pos c3]
     exact ⟨[], rfl⟩
    ·rw [if_neg c3, if_neg c3]
     exact placed_l0 hv rs ho d (i + 1) _ r.1 r.2 _ _ (by omega) (by omega) (by omega) (by omega) (by omega) (by simp [hsp])
theorem placed_plain {items : List S57} (hv : OkI items) {os : List S72} (rs : List S76) (ho : ValidO os) : ∃ sp', linkhouseref3_Placed.f (os.length * (items.length + 4) + 6001) os rs items = some ((assign os items).ad, sp', (assign os items).code, (assign os items).idx) := by
 have h1 := hv.len
 have h2 := ho.len
 obtain ⟨sp', h⟩ := placed_l0 hv rs ho os.length 0 (os.length * (items.length + 4) + 6001) 256 (List.replicate items.length 0) [] [] (by omega) (by omega) (by simp) (by omega) (by omega) (by simp)
 refine ⟨sp', ?_⟩
 unfold linkhouseref3_Placed.f
 rw [if_pos (by omega), if_pos (by omega)]
 exact h
theorem placed_calls {A0 A1 A : Option Addr} {c0 c1 c : Nat} {os : List S72} {rs : List S76} {items : List S57} {W : World} (ho : ValidO os) (hv : OkI items) (h0 : Kd.C k72 W A0 os.length os) (hc0 : os.length ≤ c0) (h1 : Kd.C k76 W A1 rs.length rs) (hc1 : rs.length ≤ c1) (h : Kd.C k57 W A items.length items) (hc : items.length ≤ c) :
  Calls Try.prog 23 #[.agg #[.slice A0 os.length c0, .slice A1 rs.length c1], .slice A items.length c] W fun e W' => ∃ v0 v1 : Value, e = .returned (.tuple #[v0, v1, .agg #[.int .i64 (assign os items).code, .int .i64 (assign os items).idx]]) ∧
   RowI W.heap.size W' v0 (assign os items).ad ∧ IsSl v1 ∧ Below W.heap.size W W' := by
 obtain ⟨sp', hp⟩ := placed_plain hv rs ho
 refine (linkhouseref3_Placed.calls _ A0 c0 os A1 c1 rs A c items _ _ _ _ W h0 hc0 h1 hc1 h hc hp).mono ?_
 rintro e w' ⟨v0, v1, rfl, r0, r1, hb⟩
 exact ⟨v0, v1, rfl, rowI_of_R r0, isSl_of_R r1, hb⟩
end Go.Proofs.Ytogcgcjhoebooaa
end
section
set_option linter.unusedVariables false
set_option linter.unusedSimpArgs false
namespace Go.Proofs.Ytogcgcjhoebooaa.PVeneerMatchesSpec
open Go.RowKit Go.Proofs.YtogcgcjhoebooaaW.PrintWords Go.Proofs.YtogcgcjhoebooaaW.PrintLast Go.Proofs.YtogcgcjhoebooaaW.PrintMore
theorem eqA54 (d : Nat) (w : World) (x0 y0 : Int) (x1 y1 : Int) (x2 y2 : Int) (x3 y3 : Int) (x4 y4 : Int) :
  (Op.equalIn (d + 2) 54 (.agg #[.int .i64 x0, .int .i64 x1, .int .i64 x2, .int .i64 x3, .int .i64 x4]) (.agg #[.int .i64 y0, .int .i64 y1, .int .i64 y2, .int .i64 y3, .int .i64 y4])).run Try.prog w = .ok (x0 == y0 && (x1 == y1 && (x2 == y2 && (x3 == y3 && (x4 == y4))))) w := by
 refine eqA_of Try.underlying54 (by kernel_rfl) ?_
 refine eqf_cons (by rfl) (by go_simp; rfl) (by go_simp; rfl) (by go_simp) ?_
 refine eqf_cons (by rfl) (by go_simp; rfl) (by go_simp; rfl) (by go_simp) ?_
 refine eqf_cons (by rfl) (by go_simp; rfl) (by go_simp; rfl) (by go_simp) ?_
 refine eqf_cons (by rfl) (by go_simp; rfl) (by go_simp; rfl) (by go_simp) ?_
 exact eqf_last (by rfl) (by go_simp; rfl) (by go_simp; rfl) (by go_simp)
end Go.Proofs.Ytogcgcjhoebooaa.PVeneerMatchesSpec
end
section
set_option linter.unusedVariables false
set_option linter.unusedSimpArgs false
namespace Go.Proofs.Ytogcgcjhoebooaa.PVeneerMatchesSpec
open Go.RowKit Go.Proofs.YtogcgcjhoebooaaW.PrintWords Go.Proofs.YtogcgcjhoebooaaW.PrintLast Go.Proofs.YtogcgcjhoebooaaW.PrintMore
attribute [local go_sem high] eqA54
def linkhouselaw4_sameStubs.l0 : Nat → List (S54) → List (S54) → Int → Option (Bool)
 | 0, _, _, _ => none
 | k + 1, x0, x1, x5 => if x5 < (x0.length : Int) then (if 0 ≤ x5 then (if x5 < (x1.length : Int) then (if (!(((rd_T54 x0 x5).f0) == ((rd_T54 x1 x5).f0)) || (!(((rd_T54 x0 x5).f1) == ((rd_T54 x1 x5).f1)) || (!(((rd_T54 x0 x5).f2) == ((rd_T54 x1 x5).f2)) || (!(((rd_T54 x0 x5).f3) == ((rd_T54 x1 x5).f3)) || (!(((rd_T54 x0 x5).f4) == ((rd_T54 x1 x5).f4))))))) = true then (some false) else (linkhouselaw4_sameStubs.l0 k x0 x1 (wrap64 (x5 + 1)))) else (none)) else (none)) else (some true)
def linkhouselaw4_sameStubs.f (k : Nat) (l0 : List (S54)) (l1 : List (S54)) : Option (Bool) := if (l0.length : Int) = (l1.length : Int) then (linkhouselaw4_sameStubs.l0 k l0 l1 0) else (some false)
theorem linkhouselaw4_sameStubs.mono_l : ∀ k, (∀ y0 y1 y2, LeO (linkhouselaw4_sameStubs.l0 k y0 y1 y2) (linkhouselaw4_sameStubs.l0 (k + 1) y0 y1 y2))
 | 0 => fun _ _ _ r h => by simp [linkhouselaw4_sameStubs.l0] at h
 | k + 1 => by
  have ih0 := linkhouselaw4_sameStubs.mono_l k
  ·intro y0 y1 y2
   unfold linkhouselaw4_sameStubs.l0
   repeat' first
   | (with_reducible exact ih0 _ _ _)
   | (with_reducible exact LeO.refl _)
   | (with_reducible exact LeO.none _)
   | (with_reducible refine LeO.ite ?_ ?_)
   | (with_reducible refine LeO.bind ?_ (fun _ => ?_))
   | exact ih0 _ _ _
   | exact LeO.none _
   | refine LeO.ite ?_ ?_
   | refine LeO.bind ?_ (fun _ => ?_)
theorem linkhouselaw4_sameStubs.mono : ∀ a0 a1 k, LeO (linkhouselaw4_sameStubs.f k a0 a1) (linkhouselaw4_sameStubs.f (k + 1) a0 a1) := by
 intro a0 a1 k
 have ih0 := linkhouselaw4_sameStubs.mono_l k
 unfold linkhouselaw4_sameStubs.f
 repeat' first
   | (with_reducible exact ih0 _ _ _)
   | (with_reducible exact LeO.refl _)
   | (with_reducible exact LeO.none _)
   | (with_reducible refine LeO.ite ?_ ?_)
   | (with_reducible refine LeO.bind ?_ (fun _ => ?_))
   | exact ih0 _ _ _
   | exact LeO.none _
   | refine LeO.ite ?_ ?_
   | refine LeO.bind ?_ (fun _ => ?_)
set_option maxHeartbeats 8000000 in
set_option maxRecDepth 100000 in
theorem linkhouselaw4_sameStubs.calls (k : Nat) (A0 : Option Addr) (c0 : Nat) (l0 : List (S54)) (A1 : Option Addr) (c1 : Nat) (l1 : List (S54)) (r : Bool) (w : World) (hr0 : Kd.C k54 w A0 l0.length l0) (hc0 : l0.length ≤ c0) (hr1 : Kd.C k54 w A1 l1.length l1) (hc1 : l1.length ≤ c1) (h : linkhouselaw4_sameStubs.f k l0 l1 = some r) :
  Calls Try.prog 11 #[.slice A0 l0.length c0, .slice A1 l1.length c1] w fun e w' => e = .returned (.bool r) ∧ Drawn0 w w' := by
 have hu54 := Try.underlying54
 have HR0 := Aside0.mk hr0
 have HC0 := Aside0.mk hc0
 clear hr0 hc0
 have HR1 := Aside0.mk hr1
 have HC1 := Aside0.mk hc1
 clear hr1 hc1
 have H : (if (l0.length : Int) = (l1.length : Int) then (linkhouselaw4_sameStubs.l0 k l0 l1 0) else (some false)) = some r := h
 clear h
 by_cases c3 : (l0.length : Int) = (l1.length : Int)
 ·rw [if_pos c3] at H
  have c3b0 : ((l0.length : Int) == (l1.length : Int)) = true := beq_iff_eq.mpr c3
  have c3b1 : ((l0.length : Int) != (l1.length : Int)) = false := bne_eq_false_iff_eq.mpr c3
  have c3b2 : (l0.length == l1.length) = true := by first | simpa using c3 | (simp at c3 ⊢; omega)
  clear c3
  have H' := Aside0.mk H
  clear H
  go_enter Try.func11, Try.ntmps11
  go_wp2
  repeat (go_quiet (fail); try go_wp2)
  go_loopg [5] k (fun kq v5 w' => ∃ (x5_1 : Int), v5 = .int .i64 x5_1 ∧ Aside0 (linkhouselaw4_sameStubs.l0 kq l0 l1 x5_1 = some r) ∧ Aside0 (kq ≤ k) ∧ Drawn0 w w')
  case atStart => exact ⟨(0), (by first | rfl | (simp; done) | (simp [*]; done)), H', ⟨Nat.le_refl _⟩, by repeat (first | exact Drawn0.refl _ | apply Drawn0.step)⟩
  case round =>
   clear H'
   try clear c1
   try clear p2
   try clear c3
   try clear c3b0
   try clear c3b1
   try clear c3b2
   obtain ⟨x5_1, rfl, HA, HK1, ⟨m1, rfl⟩⟩ := hrel
   cases gk with
   | zero => exact absurd HA.out (by simp [linkhouselaw4_sameStubs.l0])
   | succ k1 =>
    have H := HA.out
    clear HA
    simp only [linkhouselaw4_sameStubs.l0] at H
    by_cases c4 : x5_1 < (l0.length : Int)
    ·rw [if_pos c4] at H
     have c4b0 : decide (x5_1 < (l0.length : Int)) = true := decide_eq_true c4
     clear c4
     by_cases c5 : 0 ≤ x5_1
     ·rw [if_pos c5] at H
      have c5b0 : decide (0 ≤ x5_1) = true := decide_eq_true c5
      clear c5
      by_cases c6 : x5_1 < (l1.length : Int)
      ·rw [if_pos c6] at H
       have c6b0 : decide (x5_1 < (l1.length : Int)) = true := decide_eq_true c6
       clear c6
       by_cases c7 : (!(((rd_T54 l0 x5_1).f0) == ((rd_T54 l1 x5_1).f0)) || (!(((rd_T54 l0 x5_1).f1) == ((rd_T54 l1 x5_1).f1)) || (!(((rd_T54 l0 x5_1).f2) == ((rd_T54 l1 x5_1).f2)) || (!(((rd_T54 l0 x5_1).f3) == ((rd_T54 l1 x5_1).f3)) || (!(((rd_T54 l0 x5_1).f4) == ((rd_T54 l1 x5_1).f4))))))) = true
       ·rw [if_pos c7] at H
        have c7b0 : (!(((rd_T54 l0 x5_1).f0) == ((rd_T54 l1 x5_1).f0)) || (!(((rd_T54 l0 x5_1).f1) == ((rd_T54 l1 x5_1).f1)) || (!(((rd_T54 l0 x5_1).f2) == ((rd_T54 l1 x5_1).f2)) || (!(((rd_T54 l0 x5_1).f3) == ((rd_T54 l1 x5_1).f3)) || (!(((rd_T54 l0 x5_1).f4) == ((rd_T54 l1 x5_1).f4))))))) = true := c7
        clear c7
        obtain rfl := Option.some.inj H
        have p371 : 0 ≤ (x5_1 : Int) := of_decide_eq_true (by first | (with_reducible assumption) | assumption)
        have q371 : x5_1 < (l0.length : Int) := of_decide_eq_true (by first | (with_reducible assumption) | assumption)
        obtain ⟨ad371, e371, hx371_0, hx371_1, hx371_2, hx371_3, hx371_4⟩ := at_T54 HR0.out x5_1 p371 q371
        cases e371
        replace p371 := eq_true p371
        replace q371 := eq_true q371
        have p372 : 0 ≤ (x5_1 : Int) := of_decide_eq_true (by first | (with_reducible assumption) | assumption)
        have q372 : x5_1 < (l1.length : Int) := of_decide_eq_true (by first | (with_reducible assumption) | assumption)
        obtain ⟨ad372, e372, hx372_0, hx372_1, hx372_2, hx372_3, hx372_4⟩ := at_T54 HR1.out x5_1 p372 q372
        cases e372
        replace p372 := eq_true p372
        replace q372 := eq_true q372
        go_wp2
        repeat (go_quiet (fail); try go_wp2)
        go_ret
        exact ⟨by first | rfl | (simp; done) | (simp [*]; done), by repeat (first | exact Drawn0.refl _ | apply Drawn0.step)⟩
       ·rw [if_neg c7] at H
        have c7b0 : (!(((rd_T54 l0 x5_1).f0) == ((rd_T54 l1 x5_1).f0)) || (!(((rd_T54 l0 x5_1).f1) == ((rd_T54 l1 x5_1).f1)) || (!(((rd_T54 l0 x5_1).f2) == ((rd_T54 l1 x5_1).f2)) || (!(((rd_T54 l0 x5_1).f3) == ((rd_T54 l1 x5_1).f3)) || (!(((rd_T54 l0 x5_1).f4) == ((rd_T54 l1 x5_1).f4))))))) = false := by simpa using c7
        clear c7
        have H' := Aside0.mk H
        clear H
        have p371 : 0 ≤ (x5_1 : Int) := of_decide_eq_true (by first | (with_reducible assumption) | assumption)
        have q371 : x5_1 < (l0.length : Int) := of_decide_eq_true (by first | (with_reducible assumption) | assumption)
        obtain ⟨ad371, e371, hx371_0, hx371_1, hx371_2, hx371_3, hx371_4⟩ := at_T54 HR0.out x5_1 p371 q371
        cases e371
        replace p371 := eq_true p371
        replace q371 := eq_true q371
        have p372 : 0 ≤ (x5_1 : Int) := of_decide_eq_true (by first | (with_reducible assumption) | assumption)
        have q372 : x5_1 < (l1.length : Int) := of_decide_eq_true (by first | (with_reducible assumption) | assumption)
        obtain ⟨ad372, e372, hx372_0, hx372_1, hx372_2, hx372_3, hx372_4⟩ := at_T54 HR1.out x5_1 p372 q372
        cases e372
        replace p372 := eq_true p372
        replace q372 := eq_true q372
        go_wp2
        repeat (go_quiet (fail); try go_wp2)
        go_roundg k1
        case measure => have := HK1.out; omega
        case rel => exact ⟨(wrap64 (x5_1 + 1)), (by first | rfl | (simp; done) | (simp [*]; done)), H', ⟨by have := HK1.out; omega⟩, by repeat (first | exact Drawn0.refl _ | apply Drawn0.step)⟩
      ·rw [if_neg c6] at H
       exact absurd H (by simp)
     ·rw [if_neg c5] at H
      exact absurd H (by simp)
    ·rw [if_neg c4] at H
     have c4b0 : decide (x5_1 < (l0.length : Int)) = false := decide_eq_false c4
     clear c4
     obtain rfl := Option.some.inj H
     go_wp2
     repeat (go_quiet (fail); try go_wp2)
     go_ret
     exact ⟨by first | rfl | (simp; done) | (simp [*]; done), by repeat (first | exact Drawn0.refl _ | apply Drawn0.step)⟩
 ·rw [if_neg c3] at H
  have c3b0 : ((l0.length : Int) == (l1.length : Int)) = false := beq_eq_false_iff_ne.mpr c3
  have c3b1 : ((l0.length : Int) != (l1.length : Int)) = true := bne_iff_ne.mpr c3
  have c3b2 : (l0.length == l1.length) = false := by first | simpa using c3 | (simp at c3 ⊢; omega)
  obtain rfl := Option.some.inj H
  go_enter Try.func11, Try.ntmps11
  go_wp2
  repeat (go_quiet (fail); try go_wp2)
  go_ret
  exact ⟨by first | rfl | (simp; done) | (simp [*]; done), by repeat (first | exact Drawn0.refl _ | apply Drawn0.step)⟩
mutual
def linkhouseref4_Ordered.l0 : Nat → List (S54) → Int → List (S54) → Int → Option ((List (S54)))
  | 0, _, _, _, _ => none
  | k + 1, x0, x1, x5, x6 => if x6 < x1 then (linkhouseref4_Ordered.l1 k x0 x1 x5 x6 0) else (some x5)
def linkhouseref4_Ordered.l1 : Nat → List (S54) → Int → List (S54) → Int → Int → Option ((List (S54)))
 | 0, _, _, _, _, _ => none
 | k + 1, x0, x1, x5, x6, x7 => if x7 < (x0.length : Int) then (if 0 ≤ x7 then (if ((rd_T54 x0 x7).f0) = x6 then (if x5.length < 3518437208883 then (linkhouseref4_Ordered.l1 k x0 x1 (x5 ++ [(⟨(rd_T54 x0 x7).f0, (rd_T54 x0 x7).f1, (rd_T54 x0 x7).f2, (rd_T54 x0 x7).f3, (rd_T54 x0 x7).f4⟩ : S54)]) x6 (wrap64 (x7 + 1))) else (none)) else (linkhouseref4_Ordered.l1 k x0 x1 x5 x6 (wrap64 (x7 + 1)))) else (none)) else (linkhouseref4_Ordered.l0 k x0 x1 x5 (wrap64 (x6 + 1)))
end
def linkhouseref4_Ordered.f (k : Nat) (l0 : List (S54)) (a1 : Int) : Option ((List (S54))) := linkhouseref4_Ordered.l0 k l0 a1 ([] : List (S54)) 0
theorem linkhouseref4_Ordered.mono_l : ∀ k, (∀ y0 y1 y2 y3, LeO (linkhouseref4_Ordered.l0 k y0 y1 y2 y3) (linkhouseref4_Ordered.l0 (k + 1) y0 y1 y2 y3)) ∧ (∀ y0 y1 y2 y3 y4, LeO (linkhouseref4_Ordered.l1 k y0 y1 y2 y3 y4) (linkhouseref4_Ordered.l1 (k + 1) y0 y1 y2 y3 y4))
 | 0 => ⟨fun _ _ _ _ r h => by simp [linkhouseref4_Ordered.l0] at h, fun _ _ _ _ _ r h => by simp [linkhouseref4_Ordered.l1] at h⟩
 | k + 1 => by
  obtain ⟨ih0, ih1⟩ := linkhouseref4_Ordered.mono_l k
  refine ⟨?_, ?_⟩
  ·intro y0 y1 y2 y3
   unfold linkhouseref4_Ordered.l0
   repeat' first
   | (with_reducible exact ih0 _ _ _ _)
   | (with_reducible exact ih1 _ _ _ _ _)
   | (with_reducible exact LeO.refl _)
   | (with_reducible exact LeO.none _)
   | (with_reducible refine LeO.ite ?_ ?_)
   | (with_reducible refine LeO.bind ?_ (fun _ => ?_))
   | exact ih0 _ _ _ _
   | exact ih1 _ _ _ _ _
   | exact LeO.none _
   | refine LeO.ite ?_ ?_
   | refine LeO.bind ?_ (fun _ => ?_)
  ·intro y0 y1 y2 y3 y4
   unfold linkhouseref4_Ordered.l1
   repeat' first
   | (with_reducible exact ih0 _ _ _ _)
   | (with_reducible exact ih1 _ _ _ _ _)
   | (with_reducible exact LeO.refl _)
   | (with_reducible exact LeO.none _)
   | (with_reducible refine LeO.ite ?_ ?_)
   | (with_reducible refine LeO.bind ?_ (fun _ => ?_))
   | exact ih0 _ _ _ _
   | exact ih1 _ _ _ _ _
   | exact LeO.none _
   | refine LeO.ite ?_ ?_
   | refine LeO.bind ?_ (fun _ => ?_)
theorem linkhouseref4_Ordered.mono : ∀ a0 a1 k, LeO (linkhouseref4_Ordered.f k a0 a1) (linkhouseref4_Ordered.f (k + 1) a0 a1) := by
 intro a0 a1 k
 obtain ⟨ih0, ih1⟩ := linkhouseref4_Ordered.mono_l k
 unfold linkhouseref4_Ordered.f
 repeat' first
   | (with_reducible exact ih0 _ _ _ _)
   | (with_reducible exact ih1 _ _ _ _ _)
   | (with_reducible exact LeO.refl _)
   | (with_reducible exact LeO.none _)
   | (with_reducible refine LeO.ite ?_ ?_)
   | (with_reducible refine LeO.bind ?_ (fun _ => ?_))
   | exact ih0 _ _ _ _
   | exact ih1 _ _ _ _ _
   | exact LeO.none _
   | refine LeO.ite ?_ ?_
   | refine LeO.bind ?_ (fun _ => ?_)
set_option maxHeartbeats 8000000 in
set_option maxRecDepth 100000 in
theorem linkhouseref4_Ordered.calls (k : Nat) (A0 : Option Addr) (c0 : Nat) (l0 : List (S54)) (a1 : Int) (r : List (S54)) (w : World) (hr0 : Kd.C k54 w A0 l0.length l0) (hc0 : l0.length ≤ c0) (h : linkhouseref4_Ordered.f k l0 a1 = some r) :
  Calls Try.prog 12 #[.slice A0 l0.length c0, .int .i64 a1] w fun e w' => ∃ v0_ : Value, e = .returned (v0_) ∧ Kd.R k54 54 w' w.heap.size (fun _ => True) v0_ r ∧ Below w.heap.size w w' := by
 have hu54 := Try.underlying54
 have HR0 := Aside0.mk hr0
 have HC0 := Aside0.mk hc0
 clear hr0 hc0
 have HB := Aside0.mk (Below.refl w.heap.size w)
 have H : (linkhouseref4_Ordered.l0 k l0 a1 ([] : List (S54)) 0) = some r := h
 clear h
 have H' := Aside0.mk H
 clear H
 go_enter Try.func12, Try.ntmps12
 go_wp2
 go_loopg [5, 6] k (fun kq v5 v6 w' => ∃ (x5_1 : List (S54)) (x6_1 : Int), v6 = .int .i64 x6_1 ∧ Aside0 (linkhouseref4_Ordered.l0 kq l0 a1 x5_1 x6_1 = some r) ∧ Aside0 (kq ≤ k) ∧ Aside0 (Kd.R k54 54 w' w.heap.size (fun _ => True) v5 x5_1) ∧ Aside0 (Below w.heap.size w w'))
 case atStart => exact ⟨(([] : List (S54))), (0), (by first | rfl | (simp; done) | (simp [*]; done)), H', ⟨Nat.le_refl _⟩, ⟨by first | exact Kd.R_nil _ _ _ _ _ | exact Kd.N_nil _ _ _ _ _ | exact Kd.V_nil _ _ _ _ _ | exact Kd.Q_nil _ _ _ _ _ | exact Kd.S_nil _ _ _ _ _⟩, ⟨by repeat (first | (with_reducible first | exact HB.out | apply below_alloc | apply pw_below_drewN | apply below_drew1) | exact HB.out)⟩⟩
 case round =>
  clear H'
  try clear c1
  try clear p2
  obtain ⟨x5_1, x6_1, rfl, HA, HK1, HO_5, HB⟩ := hrel
  cases gk with
  | zero => exact absurd HA.out (by simp [linkhouseref4_Ordered.l0])
  | succ k1 =>
   have H := HA.out
   clear HA
   simp only [linkhouseref4_Ordered.l0] at H
   by_cases c3 : x6_1 < a1
   ·rw [if_pos c3] at H
    have c3b0 : decide (x6_1 < a1) = true := decide_eq_true c3
    clear c3
    have H' := Aside0.mk H
    clear H
    go_wp2
    go_loopg [5, 7] k1 (fun kq v5 v7 w' => ∃ (x5_2 : List (S54)) (x7_2 : Int), v7 = .int .i64 x7_2 ∧ Aside0 (linkhouseref4_Ordered.l1 kq l0 a1 x5_2 x6_1 x7_2 = some r) ∧ Aside0 (kq ≤ k1) ∧ Aside0 (Kd.R k54 54 w' w.heap.size (fun _ => True) v5 x5_2) ∧ Aside0 (Below w.heap.size w w'))
    case atStart => exact ⟨(x5_1), (0), (by first | rfl | (simp; done) | (simp [*]; done)), H', ⟨Nat.le_refl _⟩, ⟨by (with_reducible repeat (first | apply Kd.R_alloc | apply Kd.R_drewN | apply Kd.R_drew)); exact HO_5.out⟩, ⟨by repeat (first | (with_reducible first | exact HB.out | apply below_alloc | apply pw_below_drewN | apply below_drew1) | exact HB.out)⟩⟩
    case round =>
     clear H'
     try clear c1
     try clear p2
     try clear c3
     try clear c3b0
     try clear p2
     obtain ⟨x5_2, x7_2, rfl, HA, HK2, HO_5, HB⟩ := hrel
     cases gk with
     | zero => exact absurd HA.out (by simp [linkhouseref4_Ordered.l1])
     | succ k2 =>
      have H := HA.out
      clear HA
      simp only [linkhouseref4_Ordered.l1] at H
      by_cases c4 : x7_2 < (l0.length : Int)
      ·rw [if_pos c4] at H
       have c4b0 : decide (x7_2 < (l0.length : Int)) = true := decide_eq_true c4
       clear c4
       by_cases c5 : 0 ≤ x7_2
       ·rw [if_pos c5] at H
        have c5b0 : decide (0 ≤ x7_2) = true := decide_eq_true c5
        clear c5
        by_cases c6 : ((rd_T54 l0 x7_2).f0) = x6_1
        ·rw [if_pos c6] at H
         have c6b0 : (((rd_T54 l0 x7_2).f0) == x6_1) = true := beq_iff_eq.mpr c6
         have c6b1 : (((rd_T54 l0 x7_2).f0) != x6_1) = false := bne_eq_false_iff_eq.mpr c6
         clear c6
         by_cases c7 : x5_2.length < 3518437208883
         ·rw [if_pos c7] at H
          have LMc7 := Aside0.mk c7
          clear c7
          obtain ⟨y375, hy375⟩ : ∃ y_ : List (S54), y_ = (x5_2 ++ [(⟨(rd_T54 l0 x7_2).f0, (rd_T54 l0 x7_2).f1, (rd_T54 l0 x7_2).f2, (rd_T54 l0 x7_2).f3, (rd_T54 l0 x7_2).f4⟩ : S54)]) := ⟨_, rfl⟩
          replace H : (linkhouseref4_Ordered.l1 k2 l0 a1 y375 x6_1 (wrap64 (x7_2 + 1))) = some r := by first | (rw [hy375]; with_reducible exact H) | (have H2_ := (Option.bind_some _ _).symm.trans H; rw [hy375]; with_reducible exact H2_) | (have H2_ := (Option.bind_some _ _).symm.trans H; with_reducible exact H2_) | with_reducible exact H | (rw [hy375]; exact H) | exact H
          have Ny375 := Aside0.mk hy375
          clear hy375
          have H' := Aside0.mk H
          clear H
          have p373 : 0 ≤ (x7_2 : Int) := of_decide_eq_true (by first | (with_reducible assumption) | assumption)
          have q373 : x7_2 < (l0.length : Int) := of_decide_eq_true (by first | (with_reducible assumption) | assumption)
          obtain ⟨ad373, e373, hx373_0, hx373_1, hx373_2, hx373_3, hx373_4⟩ := at_T54 HR0.out x7_2 p373 q373
          cases e373
          replace hx373_0 := (HB.out.cell (World.block_lt_of_cell? w _ hx373_0)).trans hx373_0
          replace hx373_1 := (HB.out.cell (World.block_lt_of_cell? w _ hx373_1)).trans hx373_1
          replace hx373_2 := (HB.out.cell (World.block_lt_of_cell? w _ hx373_2)).trans hx373_2
          replace hx373_3 := (HB.out.cell (World.block_lt_of_cell? w _ hx373_3)).trans hx373_3
          replace hx373_4 := (HB.out.cell (World.block_lt_of_cell? w _ hx373_4)).trans hx373_4
          replace p373 := eq_true p373
          replace q373 := eq_true q373
          have p374 : 0 ≤ (x7_2 : Int) := of_decide_eq_true (by first | (with_reducible assumption) | assumption)
          have q374 : x7_2 < (l0.length : Int) := of_decide_eq_true (by first | (with_reducible assumption) | assumption)
          obtain ⟨ad374, e374, hx374_0, hx374_1, hx374_2, hx374_3, hx374_4⟩ := at_T54 HR0.out x7_2 p374 q374
          obtain rfl : ad373 = ad374 := (by injection e374)
          replace hx374_0 := (HB.out.cell (World.block_lt_of_cell? w _ hx374_0)).trans hx374_0
          replace hx374_1 := (HB.out.cell (World.block_lt_of_cell? w _ hx374_1)).trans hx374_1
          replace hx374_2 := (HB.out.cell (World.block_lt_of_cell? w _ hx374_2)).trans hx374_2
          replace hx374_3 := (HB.out.cell (World.block_lt_of_cell? w _ hx374_3)).trans hx374_3
          replace hx374_4 := (HB.out.cell (World.block_lt_of_cell? w _ hx374_4)).trans hx374_4
          replace p374 := eq_true p374
          replace q374 := eq_true q374
          go_wp2_with (first | ((with_reducible refine gate_builtin (b := .append) (xs := #[.tmp 26, .tmp 31]) rfl ?_); at_builtin; refine Kd.R_append k54 (w0 := w) w.heap.size rfl (.tmp 26) (.tmp 31) 32 54 (.agg #[(.int .i64 0), (.int .i64 0), (.int .i64 0), (.int .i64 0), (.int .i64 0)]) 40 rfl Try.underlying32 info54 rfl (by decide) (by omega) u5 x5_2 (⟨(rd_T54 l0 x7_2).f0, (rd_T54 l0 x7_2).f1, (rd_T54 l0 x7_2).f2, (rd_T54 l0 x7_2).f3, (rd_T54 l0 x7_2).f4⟩ : S54) [.int .i64 ((rd_T54 l0 x7_2).f0), .int .i64 ((rd_T54 l0 x7_2).f1), .int .i64 ((rd_T54 l0 x7_2).f2), .int .i64 ((rd_T54 l0 x7_2).f3), .int .i64 ((rd_T54 l0 x7_2).f4)] (fun _ => True) (fun _ => False) rfl rfl ?aP (fun _ hk => hk.elim) ?aF ?aO ?aB ?aS ?aL ?_; (case aP => exact k54_mkM _ _ _ (⟨(rd_T54 l0 x7_2).f0, (rd_T54 l0 x7_2).f1, (rd_T54 l0 x7_2).f2, (rd_T54 l0 x7_2).f3, (rd_T54 l0 x7_2).f4⟩ : S54)); (case aB => exact (by repeat (first | (with_reducible first | exact HB.out | apply below_alloc | apply pw_below_drewN | apply below_drew1) | exact HB.out))); (case aF => exact (fun _ _ => trivial)); (case aO => exact (by (with_reducible repeat (first | apply Kd.R_alloc | apply Kd.R_drewN | apply Kd.R_drew)); exact HO_5.out)); (case aS => exact (below_size (by repeat (first | (with_reducible first | exact HB.out | apply below_alloc | apply pw_below_drewN | apply below_drew1) | exact HB.out)))); (case aL => have := LMc7.out; omega); intro v376 w8 ho hb hg hat; rw [← Ny375.out] at ho; have n0_ := Aside0.mk (hb); have n1_ := Aside0.mk (ho); clear HB; clear HO_5; have HB := n0_; have HO377 := n1_; clear n0_ n1_; clear ho hb hg hat))
          go_roundg k2
          case measure => have := HK1.out; have := HK2.out; omega
          case rel => exact ⟨(y375), (wrap64 (x7_2 + 1)), (by first | rfl | (simp; done) | (simp [*]; done)), H', ⟨by have := HK1.out; have := HK2.out; omega⟩, ⟨by (with_reducible repeat (first | apply Kd.R_alloc | apply Kd.R_drewN | apply Kd.R_drew)); exact HO377.out⟩, ⟨by repeat (first | (with_reducible first | exact HB.out | apply below_alloc | apply pw_below_drewN | apply below_drew1) | exact HB.out)⟩⟩
         ·rw [if_neg c7] at H
          exact absurd H (by simp)
        ·rw [if_neg c6] at H
         have c6b0 : (((rd_T54 l0 x7_2).f0) == x6_1) = false := beq_eq_false_iff_ne.mpr c6
         have c6b1 : (((rd_T54 l0 x7_2).f0) != x6_1) = true := bne_iff_ne.mpr c6
         have H' := Aside0.mk H
         clear H
         have p373 : 0 ≤ (x7_2 : Int) := of_decide_eq_true (by first | (with_reducible assumption) | assumption)
         have q373 : x7_2 < (l0.length : Int) := of_decide_eq_true (by first | (with_reducible assumption) | assumption)
         obtain ⟨ad373, e373, hx373_0, hx373_1, hx373_2, hx373_3, hx373_4⟩ := at_T54 HR0.out x7_2 p373 q373
         cases e373
         replace hx373_0 := (HB.out.cell (World.block_lt_of_cell? w _ hx373_0)).trans hx373_0
         replace hx373_1 := (HB.out.cell (World.block_lt_of_cell? w _ hx373_1)).trans hx373_1
         replace hx373_2 := (HB.out.cell (World.block_lt_of_cell? w _ hx373_2)).trans hx373_2
         replace hx373_3 := (HB.out.cell (World.block_lt_of_cell? w _ hx373_3)).trans hx373_3
         replace hx373_4 := (HB.out.cell (World.block_lt_of_cell? w _ hx373_4)).trans hx373_4
         replace p373 := eq_true p373
         replace q373 := eq_true q373
         go_wp2
         go_roundg k2
         case measure => have := HK1.out; have := HK2.out; omega
         case rel => exact ⟨(x5_2), (wrap64 (x7_2 + 1)), (by first | rfl | (simp; done) | (simp [*]; done)), H', ⟨by have := HK1.out; have := HK2.out; omega⟩, ⟨by (with_reducible repeat (first | apply Kd.R_alloc | apply Kd.R_drewN | apply Kd.R_drew)); exact HO_5.out⟩, ⟨by repeat (first | (with_reducible first | exact HB.out | apply below_alloc | apply pw_below_drewN | apply below_drew1) | exact HB.out)⟩⟩
       ·rw [if_neg c5] at H
        exact absurd H (by simp)
      ·rw [if_neg c4] at H
       have c4b0 : decide (x7_2 < (l0.length : Int)) = false := decide_eq_false c4
       clear c4
       have H' := Aside0.mk H
       clear H
       go_wp2
       go_roundg k2
       case measure => have := HK1.out; have := HK2.out; omega
       case rel => exact ⟨(x5_2), (wrap64 (x6_1 + 1)), (by first | rfl | (simp; done) | (simp [*]; done)), H', ⟨by have := HK1.out; have := HK2.out; omega⟩, ⟨by (with_reducible repeat (first | apply Kd.R_alloc | apply Kd.R_drewN | apply Kd.R_drew)); exact HO_5.out⟩, ⟨by repeat (first | (with_reducible first | exact HB.out | apply below_alloc | apply pw_below_drewN | apply below_drew1) | exact HB.out)⟩⟩
   ·rw [if_neg c3] at H
    have c3b0 : decide (x6_1 < a1) = false := decide_eq_false c3
    clear c3
    obtain rfl := Option.some.inj H
    go_wp2
    go_ret
    exact ⟨_, by first | rfl | (simp [errW_none, errW_some] <;> rfl) | (simp [*, errW_none, errW_some] <;> rfl), by (with_reducible repeat (first | apply Kd.R_alloc | apply Kd.R_drewN | apply Kd.R_drew)); exact HO_5.out, by repeat (first | (with_reducible first | exact HB.out | apply below_alloc | apply pw_below_drewN | apply below_drew1) | exact HB.out)⟩
end Go.Proofs.Ytogcgcjhoebooaa.PVeneerMatchesSpec
end

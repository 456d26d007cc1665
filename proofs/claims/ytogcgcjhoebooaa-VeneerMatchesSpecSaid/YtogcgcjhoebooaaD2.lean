/- The law VeneerMatchesSpec: for every script, list of items and list of branches the law returns true, and the arguments read as before. No conditions. (Part 2 of 6 of the proof. Lines of the texts that print.sh printed for this seat are among it, cut to what is used.) -/
import Derived.Test.YtogcgcjhoebooaaD1
section
set_option linter.unusedVariables false
set_option linter.unusedSimpArgs false
namespace Go.Proofs.Ytogcgcjhoebooaa.PVeneerMatchesSpec
open Go.RowKit Go.Proofs.YtogcgcjhoebooaaW.PrintWords Go.Proofs.YtogcgcjhoebooaaW.PrintLast Go.Proofs.YtogcgcjhoebooaaW.PrintMore
def stringslite_HasSuffix.f (a0 : ByteArray) (a1 : ByteArray) : Option (Bool) := if (a0.size : Int) ≥ (a1.size : Int) then (if 0 ≤ (wrap64 ((a0.size : Int) - (a1.size : Int))) then (if (wrap64 ((a0.size : Int) - (a1.size : Int))) ≤ (a0.size : Int) then (some ((a0.extract ((wrap64 ((a0.size : Int) - (a1.size : Int))) : Int).toNat a0.size).toList == a1.toList)) else (none)) else (none)) else (some false)
set_option maxHeartbeats 8000000 in
set_option maxRecDepth 100000 in
theorem stringslite_HasSuffix.calls (a0 : ByteArray) (a1 : ByteArray) (r : Bool) (w : World) (h : stringslite_HasSuffix.f a0 a1 = some r) :
  Calls Try.prog 61 #[.string a0, .string a1] w fun e w' => e = .returned (.bool r) ∧ Drawn0 w w' := by
 have H : (if (a0.size : Int) ≥ (a1.size : Int) then (if 0 ≤ (wrap64 ((a0.size : Int) - (a1.size : Int))) then (if (wrap64 ((a0.size : Int) - (a1.size : Int))) ≤ (a0.size : Int) then (some ((a0.extract ((wrap64 ((a0.size : Int) - (a1.size : Int))) : Int).toNat a0.size).toList == a1.toList)) else (none)) else (none)) else (some false)) = some r := h
 clear h
 by_cases c3 : (a0.size : Int) ≥ (a1.size : Int)
 ·rw [if_pos c3] at H
  have c3b0 : decide ((a1.size : Int) ≤ (a0.size : Int)) = true := decide_eq_true c3
  have c3b1 : decide (a1.size ≤ a0.size) = true := decide_eq_true (Int.ofNat_le.mp c3)
  clear c3
  obtain ⟨ji4, hji4⟩ : ∃ j_ : Int, (wrap64 ((a0.size : Int) - (a1.size : Int))) = j_ := ⟨_, rfl⟩
  replace H : (if 0 ≤ (ji4) then (if (ji4) ≤ (a0.size : Int) then (some ((a0.extract ((ji4) : Int).toNat a0.size).toList == a1.toList)) else (none)) else (none)) = some r := by first | (rw [hji4] at H; exact H) | (simp only [hji4] at H ⊢; exact H)
  have hji4w : (IntKind.i64.wrap ((a0.size : Int) - (a1.size : Int))) = ji4 := (i64_w _).trans hji4
  by_cases c5 : 0 ≤ (ji4)
  ·rw [if_pos c5] at H
   have c5b0 := eq_true c5
   have c5b1 : decide (0 ≤ (ji4)) = true := decide_eq_true c5
   clear c5
   by_cases c6 : (ji4) ≤ (a0.size : Int)
   ·rw [if_pos c6] at H
    have c6b0 := eq_true c6
    have c6b1 : decide ((ji4) ≤ (a0.size : Int)) = true := decide_eq_true c6
    clear c6
    obtain rfl := Option.some.inj H
    go_enter Try.func61, Try.ntmps61
    go_wp2
    go_ret
    exact ⟨by first | rfl | (simp; done) | (simp only [← hji4] <;> (first | rfl | simp)) | (simp [*]; done), by repeat (first | exact Drawn0.refl _ | apply Drawn0.step)⟩
   ·rw [if_neg c6] at H
    exact absurd H (by simp)
  ·rw [if_neg c5] at H
   exact absurd H (by simp)
 ·rw [if_neg c3] at H
  have c3b0 : decide ((a1.size : Int) ≤ (a0.size : Int)) = false := decide_eq_false c3
  have c3b1 : decide (a1.size ≤ a0.size) = false := decide_eq_false (fun h => c3 (Int.ofNat_le.mpr h))
  clear c3
  obtain rfl := Option.some.inj H
  go_enter Try.func61, Try.ntmps61
  go_wp2
  go_ret
  exact ⟨by first | rfl | (simp; done) | (simp [*]; done), by repeat (first | exact Drawn0.refl _ | apply Drawn0.step)⟩
def stringslite_TrimSuffix.f (a0 : ByteArray) (a1 : ByteArray) : Option (ByteArray) := (stringslite_HasSuffix.f a0 a1).bind fun t274 => (if t274 = true then (if 0 ≤ (wrap64 ((a0.size : Int) - (a1.size : Int))) then (if (wrap64 ((a0.size : Int) - (a1.size : Int))) ≤ (a0.size : Int) then (some (a0.extract 0 ((wrap64 ((a0.size : Int) - (a1.size : Int))) : Int).toNat)) else (none)) else (none)) else (some a0))
set_option maxHeartbeats 8000000 in
set_option maxRecDepth 100000 in
theorem stringslite_TrimSuffix.calls (a0 : ByteArray) (a1 : ByteArray) (r : ByteArray) (w : World) (h : stringslite_TrimSuffix.f a0 a1 = some r) :
  Calls Try.prog 53 #[.string a0, .string a1] w fun e w' => e = .returned (.string r) ∧ Drawn0 w w' := by
 have H : ((stringslite_HasSuffix.f a0 a1).bind fun t274 => (if t274 = true then (if 0 ≤ (wrap64 ((a0.size : Int) - (a1.size : Int))) then (if (wrap64 ((a0.size : Int) - (a1.size : Int))) ≤ (a0.size : Int) then (some (a0.extract 0 ((wrap64 ((a0.size : Int) - (a1.size : Int))) : Int).toNat)) else (none)) else (none)) else (some a0))) = some r := h
 clear h
 replace H := Option.bind_eq_some_iff.mp H
 obtain ⟨t274, A30, H⟩ := H
 replace H : (if t274 = true then (if 0 ≤ (wrap64 ((a0.size : Int) - (a1.size : Int))) then (if (wrap64 ((a0.size : Int) - (a1.size : Int))) ≤ (a0.size : Int) then (some (a0.extract 0 ((wrap64 ((a0.size : Int) - (a1.size : Int))) : Int).toNat)) else (none)) else (none)) else (some a0)) = some r := H
 have A3 := Aside0.mk A30
 clear A30
 by_cases c4 : t274 = true
 ·subst c4
  have H1 : (if 0 ≤ (wrap64 ((a0.size : Int) - (a1.size : Int))) then (if (wrap64 ((a0.size : Int) - (a1.size : Int))) ≤ (a0.size : Int) then (some (a0.extract 0 ((wrap64 ((a0.size : Int) - (a1.size : Int))) : Int).toNat)) else (none)) else (none)) = some r := by rw [if_pos rfl] at H; exact H
  clear H
  have H := H1
  clear H1
  obtain ⟨ji5, hji5⟩ : ∃ j_ : Int, (wrap64 ((a0.size : Int) - (a1.size : Int))) = j_ := ⟨_, rfl⟩
  replace H : (if 0 ≤ (ji5) then (if (ji5) ≤ (a0.size : Int) then (some (a0.extract 0 ((ji5) : Int).toNat)) else (none)) else (none)) = some r := by first | (rw [hji5] at H; exact H) | (simp only [hji5] at H ⊢; exact H)
  (try rw [hji5] at A3)
  have hji5w : (IntKind.i64.wrap ((a0.size : Int) - (a1.size : Int))) = ji5 := (i64_w _).trans hji5
  by_cases c6 : 0 ≤ (ji5)
  ·rw [if_pos c6] at H
   have c6b0 := eq_true c6
   have c6b1 : decide (0 ≤ (ji5)) = true := decide_eq_true c6
   clear c6
   by_cases c7 : (ji5) ≤ (a0.size : Int)
   ·rw [if_pos c7] at H
    have c7b0 := eq_true c7
    have c7b1 : decide ((ji5) ≤ (a0.size : Int)) = true := decide_eq_true c7
    clear c7
    obtain rfl := Option.some.inj H
    go_enter Try.func53, Try.ntmps53
    go_wp2_with (first | ((with_reducible refine gate_callee (f := 61) rfl ?_); refine goesL_ (some 7) rfl rfl Try.func61 (by kernel_rfl) rfl #[.string a0, .string a1] rfl (by (try simp only [List.map_toArray, List.map_cons, List.map_nil]); first | done | rfl | (simp only [List.length_drop, List.length_take]; rfl)) ?_; (with_reducible refine (stringslite_HasSuffix.calls a0 a1 true _ A3.out).mono ?_); rintro e w' ⟨rfl, ⟨nd, rfl⟩⟩; refine ⟨_, rfl, ?_⟩))
    go_ret
    exact ⟨by first | rfl | (simp; done) | (simp only [← hji5] <;> (first | rfl | simp)) | (simp [*]; done), by repeat (first | exact Drawn0.refl _ | apply Drawn0.step)⟩
   ·rw [if_neg c7] at H
    exact absurd H (by simp)
  ·rw [if_neg c6] at H
   exact absurd H (by simp)
 ·replace c4 := Bool.eq_false_iff.mpr c4
  subst c4
  have H1 : (some a0) = some r := by rw [if_neg (show ¬ (false = true) by decide)] at H; exact H
  clear H
  have H := H1
  clear H1
  obtain rfl := Option.some.inj H
  go_enter Try.func53, Try.ntmps53
  go_wp2_with (first | ((with_reducible refine gate_callee (f := 61) rfl ?_); refine goesL_ (some 7) rfl rfl Try.func61 (by kernel_rfl) rfl #[.string a0, .string a1] rfl (by (try simp only [List.map_toArray, List.map_cons, List.map_nil]); first | done | rfl | (simp only [List.length_drop, List.length_take]; rfl)) ?_; (with_reducible refine (stringslite_HasSuffix.calls a0 a1 false _ A3.out).mono ?_); rintro e w' ⟨rfl, ⟨nd, rfl⟩⟩; refine ⟨_, rfl, ?_⟩))
  go_ret
  exact ⟨by first | rfl | (simp; done) | (simp [*]; done), by repeat (first | exact Drawn0.refl _ | apply Drawn0.step)⟩
def strings_TrimSuffix.f (a0 : ByteArray) (a1 : ByteArray) : Option (ByteArray) := (stringslite_TrimSuffix.f a0 a1).bind fun t275 => (some t275)
set_option maxHeartbeats 8000000 in
set_option maxRecDepth 100000 in
theorem strings_TrimSuffix.calls (a0 : ByteArray) (a1 : ByteArray) (r : ByteArray) (w : World) (h : strings_TrimSuffix.f a0 a1 = some r) :
  Calls Try.prog 47 #[.string a0, .string a1] w fun e w' => e = .returned (.string r) ∧ Drawn0 w w' := by
 have H : ((stringslite_TrimSuffix.f a0 a1).bind fun t275 => (some t275)) = some r := h
 clear h
 replace H := Option.bind_eq_some_iff.mp H
 obtain ⟨t275, A30, H⟩ := H
 replace H : (some t275) = some r := H
 have A3 := Aside0.mk A30
 clear A30
 obtain rfl := Option.some.inj H
 go_enter Try.func47, Try.ntmps47
 go_wp2_with (first | ((with_reducible refine gate_callee (f := 53) rfl ?_); refine goesL_ (some 7) rfl rfl Try.func53 (by kernel_rfl) rfl #[.string a0, .string a1] rfl (by (try simp only [List.map_toArray, List.map_cons, List.map_nil]); first | done | rfl | (simp only [List.length_drop, List.length_take]; rfl)) ?_; (with_reducible refine (stringslite_TrimSuffix.calls a0 a1 t275 _ A3.out).mono ?_); rintro e w' ⟨rfl, ⟨nd, rfl⟩⟩; refine ⟨_, rfl, ?_⟩))
 go_ret
 exact ⟨by first | rfl | (simp; done) | (simp [*]; done), by repeat (first | exact Drawn0.refl _ | apply Drawn0.step)⟩
def script_isPattern.f (k : Nat) (a0 : ByteArray) : Option (Bool) := if a0.toList = ([42] : List UInt8) then (some true) else ((strings_TrimSuffix.f a0 (⟨#[42]⟩ : ByteArray)).bind fun t276 => ((script_IsName.f k t276).bind fun t277 => (some t277)))
theorem script_isPattern.mono : ∀ a0 k, LeO (script_isPattern.f k a0) (script_isPattern.f (k + 1) a0) := by
 intro a0 k
 unfold script_isPattern.f
 repeat' first
   | (with_reducible exact script_IsName.mono _ _)
   | (with_reducible exact LeO.refl _)
   | (with_reducible exact LeO.none _)
   | (with_reducible refine LeO.ite ?_ ?_)
   | (with_reducible refine LeO.bind ?_ (fun _ => ?_))
   | exact script_IsName.mono _ _
   | exact LeO.none _
   | refine LeO.ite ?_ ?_
   | refine LeO.bind ?_ (fun _ => ?_)
set_option maxHeartbeats 8000000 in
set_option maxRecDepth 100000 in
theorem script_isPattern.calls (k : Nat) (a0 : ByteArray) (r : Bool) (w : World) (h : script_isPattern.f k a0 = some r) :
  Calls Try.prog 40 #[.string a0] w fun e w' => e = .returned (.bool r) ∧ Drawn0 w w' := by
 have H : (if a0.toList = ([42] : List UInt8) then (some true) else ((strings_TrimSuffix.f a0 (⟨#[42]⟩ : ByteArray)).bind fun t276 => ((script_IsName.f k t276).bind fun t277 => (some t277)))) = some r := h
 clear h
 by_cases c2 : a0.toList = ([42] : List UInt8)
 ·rw [if_pos c2] at H
  have c2b0 : (a0.toList == ([42] : List UInt8)) = true := beq_iff_eq.mpr c2
  have c2b1 : (a0.toList != ([42] : List UInt8)) = false := bne_eq_false_iff_eq.mpr c2
  clear c2
  obtain rfl := Option.some.inj H
  go_enter Try.func40, Try.ntmps40
  go_wp2
  go_ret
  exact ⟨by first | rfl | (simp; done) | (simp [*]; done), by repeat (first | exact Drawn0.refl _ | apply Drawn0.step)⟩
 ·rw [if_neg c2] at H
  have c2b0 : (a0.toList == ([42] : List UInt8)) = false := beq_eq_false_iff_ne.mpr c2
  have c2b1 : (a0.toList != ([42] : List UInt8)) = true := bne_iff_ne.mpr c2
  replace H := Option.bind_eq_some_iff.mp H
  obtain ⟨t276, A30, H⟩ := H
  replace H : ((script_IsName.f k t276).bind fun t277 => (some t277)) = some r := H
  have A3 := Aside0.mk A30
  clear A30
  replace H := Option.bind_eq_some_iff.mp H
  obtain ⟨t277, A40, H⟩ := H
  replace H : (some t277) = some r := H
  have A4 := Aside0.mk A40
  clear A40
  obtain rfl := Option.some.inj H
  go_enter Try.func40, Try.ntmps40
  go_wp2_with (first | (go_at_call 47; (with_reducible refine (strings_TrimSuffix.calls a0 (⟨#[42]⟩ : ByteArray) t276 _ A3.out).mono ?_); rintro e w' ⟨rfl, ⟨nd, rfl⟩⟩) | (go_at_call 44; (with_reducible refine (script_IsName.calls k t276 t277 _ A4.out).mono ?_); rintro e w' ⟨rfl, ⟨nd, rfl⟩⟩))
  go_ret
  exact ⟨by first | rfl | (simp; done) | (simp [*]; done), by repeat (first | exact Drawn0.refl _ | apply Drawn0.step)⟩
mutual
def place_Items.l0 : Nat → Int → List (S57) → Int → Int → Option (Int × Int)
 | 0, _, _, _, _ => none
 | k + 1, x1, x11, x12, x13 => if x13 < x12 then (if 0 ≤ x13 then (if x13 < (x11.length : Int) then (if ((rd_T57 x11 x13).f0) < 0 then (place_Items.j1 k x1 x13 x11 x12 x13 true ((rd_T57 x11 x13).f0) ((rd_T57 x11 x13).f1) ((rd_T57 x11 x13).f2)) else (if ((rd_T57 x11 x13).f0) ≥ x1 then (place_Items.j1 k x1 x13 x11 x12 x13 true ((rd_T57 x11 x13).f0) ((rd_T57 x11 x13).f1) ((rd_T57 x11 x13).f2)) else (if ((rd_T57 x11 x13).f1) < 0 then (place_Items.j1 k x1 x13 x11 x12 x13 true ((rd_T57 x11 x13).f0) ((rd_T57 x11 x13).f1) ((rd_T57 x11 x13).f2)) else (place_Items.j1 k x1 x13 x11 x12 x13 (decide (((rd_T57 x11 x13).f1) > 1048576)) ((rd_T57 x11 x13).f0) ((rd_T57 x11 x13).f1) ((rd_T57 x11 x13).f2))))) else (none)) else (none)) else (some (0, 0))
def place_Items.j1 : Nat → Int → Int → List (S57) → Int → Int → Bool → Int → Int → Int → Option (Int × Int)
 | 0, _, _, _, _, _, _, _, _, _ => none
 | k + 1, x1, x5, x11, x12, x13, x18, x283000, x283001, x283002 => if x18 = true then (some (3, wrap64 ((-100) - x5))) else (if x283002 < 1 then (some (3, wrap64 ((-100) - x5))) else (if x283002 > 256 then (some (3, wrap64 ((-100) - x5))) else (if (Go.bits .and .i64 x283002 (wrap64 (x283002 - 1))) = 0 then (place_Items.l0 k x1 x11 x12 (wrap64 (x13 + 1))) else (some (3, wrap64 ((-100) - x5))))))
end
def place_Items.f (k : Nat) (l0 : List (S57)) (a1 : Int) : Option (Int × Int) := if (l0.length : Int) > 200 then (some (2, (-3))) else (place_Items.l0 k a1 l0 (l0.length : Int) 0)
theorem place_Items.mono_l : ∀ k, (∀ y0 y1 y2 y3, LeO (place_Items.l0 k y0 y1 y2 y3) (place_Items.l0 (k + 1) y0 y1 y2 y3)) ∧ (∀ y0 y1 y2 y3 y4 y5 y6 y7 y8, LeO (place_Items.j1 k y0 y1 y2 y3 y4 y5 y6 y7 y8) (place_Items.j1 (k + 1) y0 y1 y2 y3 y4 y5 y6 y7 y8))
 | 0 => ⟨fun _ _ _ _ r h => by simp [place_Items.l0] at h, fun _ _ _ _ _ _ _ _ _ r h => by simp [place_Items.j1] at h⟩
 | k + 1 => by
  obtain ⟨ih0, ih1⟩ := place_Items.mono_l k
  refine ⟨?_, ?_⟩
  ·intro y0 y1 y2 y3
   unfold place_Items.l0
   repeat' first
   | (with_reducible exact ih0 _ _ _ _)
   | (with_reducible exact ih1 _ _ _ _ _ _ _ _ _)
   | (with_reducible exact LeO.refl _)
   | (with_reducible exact LeO.none _)
   | (with_reducible refine LeO.ite ?_ ?_)
   | (with_reducible refine LeO.bind ?_ (fun _ => ?_))
   | exact ih0 _ _ _ _
   | exact ih1 _ _ _ _ _ _ _ _ _
   | exact LeO.none _
   | refine LeO.ite ?_ ?_
   | refine LeO.bind ?_ (fun _ => ?_)
  ·intro y0 y1 y2 y3 y4 y5 y6 y7 y8
   unfold place_Items.j1
   repeat' first
   | (with_reducible exact ih0 _ _ _ _)
   | (with_reducible exact ih1 _ _ _ _ _ _ _ _ _)
   | (with_reducible exact LeO.refl _)
   | (with_reducible exact LeO.none _)
   | (with_reducible refine LeO.ite ?_ ?_)
   | (with_reducible refine LeO.bind ?_ (fun _ => ?_))
   | exact ih0 _ _ _ _
   | exact ih1 _ _ _ _ _ _ _ _ _
   | exact LeO.none _
   | refine LeO.ite ?_ ?_
   | refine LeO.bind ?_ (fun _ => ?_)
theorem place_Items.mono : ∀ a0 a1 k, LeO (place_Items.f k a0 a1) (place_Items.f (k + 1) a0 a1) := by
 intro a0 a1 k
 obtain ⟨ih0, ih1⟩ := place_Items.mono_l k
 unfold place_Items.f
 repeat' first
   | (with_reducible exact ih0 _ _ _ _)
   | (with_reducible exact ih1 _ _ _ _ _ _ _ _ _)
   | (with_reducible exact LeO.refl _)
   | (with_reducible exact LeO.none _)
   | (with_reducible refine LeO.ite ?_ ?_)
   | (with_reducible refine LeO.bind ?_ (fun _ => ?_))
   | exact ih0 _ _ _ _
   | exact ih1 _ _ _ _ _ _ _ _ _
   | exact LeO.none _
   | refine LeO.ite ?_ ?_
   | refine LeO.bind ?_ (fun _ => ?_)
set_option maxHeartbeats 8000000 in
set_option maxRecDepth 100000 in
theorem place_Items.calls (k : Nat) (A0 : Option Addr) (c0 : Nat) (l0 : List (S57)) (a1 : Int) (r1 : Int) (r2 : Int) (w : World) (hr0 : Kd.C k57 w A0 l0.length l0) (hc0 : l0.length ≤ c0) (h : place_Items.f k l0 a1 = some (r1, r2)) :
  Calls Try.prog 26 #[.slice A0 l0.length c0, .int .i64 a1] w fun e w' => e = .returned (.agg #[.int .i64 r1, .int .i64 r2]) ∧ Below w.heap.size w w' := by
 have hu29 := Try.underlying29
 have hu57 := Try.underlying57
 have HR0 := Aside0.mk hr0
 have HC0 := Aside0.mk hc0
 clear hr0 hc0
 have HB := Aside0.mk (Below.refl w.heap.size w)
 have H : (if (l0.length : Int) > 200 then (some (2, (-3))) else (place_Items.l0 k a1 l0 (l0.length : Int) 0)) = some (r1, r2) := h
 clear h
 by_cases c3 : (l0.length : Int) > 200
 ·rw [if_pos c3] at H
  have c3b0 : decide (200 < (l0.length : Int)) = true := decide_eq_true c3
  have c3b1 : decide (200 < l0.length) = true := decide_eq_true (by omega)
  clear c3
  simp only [Option.some.injEq, Prod.mk.injEq] at H
  obtain ⟨rfl, rfl⟩ := H
  go_enter Try.func26, Try.ntmps26
  go_wp2_with (first | ((with_reducible refine gate_dst (N := 4) rfl ?_); refine box_event ?hg (N := 4) ?hd (cs := #[.int .i64 0, .int .i64 0]) (t := 29) ?hr ?_; (case hd => rfl); (case hg => rfl); (case hr => first | (go_simp; done) | (go_simp; rfl)); intro gb280 hg w4 hbox hb; have n0_ := Aside0.mk (below_step (by repeat (first | (with_reducible first | exact HB.out | apply below_alloc | apply pw_below_drewN | apply below_drew1) | exact HB.out)) hb); have n1_ := Aside0.mk (hbox); have n2_ := Aside0.mk ((by rw [hg]; exact (below_size (by repeat (first | (with_reducible first | exact HB.out | apply below_alloc | apply pw_below_drewN | apply below_drew1) | exact HB.out))) : w.heap.size ≤ gb280)); have n3_ := Aside0.mk ((by rw [hg]; exact (below_size (by repeat (first | (with_reducible first | exact HB.out | apply below_alloc | apply pw_below_drewN | apply below_drew1) | exact HB.out))) : w.heap.size ≤ gb280)); clear HB; have HB := n0_; have BK280 := n1_; have GW280 := n2_; have GE280 := n3_; clear n0_ n1_ n2_ n3_; clear hb hbox hg; have hcz5_0 : w4.cell? ⟨gb280, 0, none⟩ = some (.int .i64 0) := (blk_cell BK280.out 0).trans rfl; have hcz5_1 : w4.cell? ⟨gb280, 1, none⟩ = some (.int .i64 0) := (blk_cell BK280.out 1).trans rfl; have hfz5_0 := blk_frozen BK280.out 0; have hfz5_1 := blk_frozen BK280.out 1))
  refine bodyPost_ret (results_cell_row rfl _ _ gb280 29 #[.int .i64 2, .int .i64 (-3)] (0, 0) _ rfl (by (with_reducible repeat (first | refine blk_drewN ?_ _ | refine blk_drew ?_ | refine blk_alloc ?_ _)); refine blk_put (cs := #[.int .i64 2, .int .i64 0]) ?_ 1 _ rfl; (with_reducible repeat (first | refine blk_drewN ?_ _ | refine blk_drew ?_ | refine blk_alloc ?_ _)); refine blk_put (cs := #[.int .i64 0, .int .i64 0]) ?_ 0 _ rfl; (with_reducible repeat (first | refine blk_drewN ?_ _ | refine blk_drew ?_ | refine blk_alloc ?_ _)); exact BK280.out) Try.underlying29 rfl (by kernel_rfl)) rfl ?_
  exact ⟨by first | rfl | (simp [errW_none, errW_some] <;> rfl) | (simp [*, errW_none, errW_some] <;> rfl), by repeat (first | (with_reducible first | exact HB.out | apply below_alloc | apply pw_below_drewN | apply below_drew1 | refine below_set ?_ GE280.out) | exact HB.out)⟩
 ·rw [if_neg c3] at H
  have c3b0 : decide (200 < (l0.length : Int)) = false := decide_eq_false c3
  have c3b1 : decide (200 < l0.length) = false := decide_eq_false (by omega)
  clear c3
  have H' := Aside0.mk H
  clear H
  go_enter Try.func26, Try.ntmps26
  go_wp2_with (first | ((with_reducible refine gate_dst (N := 4) rfl ?_); refine box_event ?hg (N := 4) ?hd (cs := #[.int .i64 0, .int .i64 0]) (t := 29) ?hr ?_; (case hd => rfl); (case hg => rfl); (case hr => first | (go_simp; done) | (go_simp; rfl)); intro gb280 hg w6 hbox hb; have n0_ := Aside0.mk (below_step (by repeat (first | (with_reducible first | exact HB.out | apply below_alloc | apply pw_below_drewN | apply below_drew1) | exact HB.out)) hb); have n1_ := Aside0.mk (hbox); have n2_ := Aside0.mk ((by rw [hg]; exact (below_size (by repeat (first | (with_reducible first | exact HB.out | apply below_alloc | apply pw_below_drewN | apply below_drew1) | exact HB.out))) : w.heap.size ≤ gb280)); have n3_ := Aside0.mk ((by rw [hg]; exact (below_size (by repeat (first | (with_reducible first | exact HB.out | apply below_alloc | apply pw_below_drewN | apply below_drew1) | exact HB.out))) : w.heap.size ≤ gb280)); clear HB; have HB := n0_; have BK280 := n1_; have GW280 := n2_; have GE280 := n3_; clear n0_ n1_ n2_ n3_; clear hb hbox hg))
  go_loopg [13] k (fun kq v13 w' => ∃ (x13_1 : Int) (x281000_1 : Int) (x281001_1 : Int), v13 = .int .i64 x13_1 ∧ Aside0 (place_Items.l0 kq a1 l0 (l0.length : Int) x13_1 = some (r1, r2)) ∧ Aside0 (kq ≤ k) ∧ Aside0 (w'.heap[gb280]? = some (.cells #[.int .i64 x281000_1, .int .i64 x281001_1] 29 (0, 0))) ∧ Aside0 (Below w.heap.size w w'))
  case atStart => exact ⟨(0), (0), (0), (by first | rfl | (simp; done) | (simp [*]; done)), H', ⟨Nat.le_refl _⟩, ⟨by (with_reducible repeat (first | refine blk_drewN ?_ _ | refine blk_drew ?_ | refine blk_alloc ?_ _)); exact BK280.out⟩, ⟨by repeat (first | (with_reducible first | exact HB.out | apply below_alloc | apply pw_below_drewN | apply below_drew1 | refine below_set ?_ GE280.out) | exact HB.out)⟩⟩
  case round =>
   clear H'
   try clear c2
   try clear p2
   try clear c3
   try clear c3b0
   try clear c3b1
   try clear hcz5_0
   try clear hcz5_1
   try clear hfz5_0
   try clear hfz5_1
   obtain ⟨x13_1, x281000_1, x281001_1, rfl, HA, HK1, BK280, HB⟩ := hrel
   cases gk with
   | zero => exact absurd HA.out (by simp [place_Items.l0])
   | succ k1 =>
    have H := HA.out
    clear HA
    simp only [place_Items.l0] at H
    by_cases c7 : x13_1 < (l0.length : Int)
    ·rw [if_pos c7] at H
     have c7b0 : decide (x13_1 < (l0.length : Int)) = true := decide_eq_true c7
     clear c7
     by_cases c8 : 0 ≤ x13_1
     ·rw [if_pos c8] at H
      have c8b0 : decide (0 ≤ x13_1) = true := decide_eq_true c8
      clear c8
      by_cases c9 : x13_1 < (l0.length : Int)
      ·rw [if_pos c9] at H
       have c9b0 : decide (x13_1 < (l0.length : Int)) = true := decide_eq_true c9
       clear c9
       have HC10 := Aside0.mk H
       clear H
       have p281 : 0 ≤ (x13_1 : Int) := of_decide_eq_true (by first | (with_reducible assumption) | assumption)
       have q281 : x13_1 < (l0.length : Int) := of_decide_eq_true (by first | (with_reducible assumption) | assumption)
       obtain ⟨ad281, e281, hx281_0, hx281_1, hx281_2⟩ := at_T57 HR0.out x13_1 p281 q281
       cases e281
       replace hx281_0 := (HB.out.cell (World.block_lt_of_cell? w _ hx281_0)).trans hx281_0
       replace hx281_1 := (HB.out.cell (World.block_lt_of_cell? w _ hx281_1)).trans hx281_1
       replace hx281_2 := (HB.out.cell (World.block_lt_of_cell? w _ hx281_2)).trans hx281_2
       replace p281 := eq_true p281
       replace q281 := eq_true q281
       go_upto_region 6 with (first | ((with_reducible refine gate_dst (N := 6) rfl ?_); refine box_event ?hg (N := 6) ?hd (cs := #[.int .i64 0, .int .i64 0, .int .i64 0]) (t := 57) ?hr ?_; (case hd => rfl); (case hg => rfl); (case hr => first | (go_simp; done) | (go_simp; rfl)); intro gb282 hg w11 hbox hb; have n0_ := Aside0.mk (blk_below (g := gb280) (o := .cells #[.int .i64 x281000_1, .int .i64 x281001_1] 29 (0, 0)) (by (with_reducible repeat (first | refine blk_drewN ?_ _ | refine blk_drew ?_ | refine blk_alloc ?_ _)); exact BK280.out) hb); have n1_ := Aside0.mk (below_step (by repeat (first | (with_reducible first | exact HB.out | apply below_alloc | apply pw_below_drewN | apply below_drew1 | refine below_set ?_ GE280.out) | exact HB.out)) hb); have n2_ := Aside0.mk (hbox); have n3_ := Aside0.mk ((by rw [hg]; exact (below_size (by repeat (first | (with_reducible first | exact HB.out | apply below_alloc | apply pw_below_drewN | apply below_drew1 | refine below_set ?_ GE280.out) | exact HB.out))) : w.heap.size ≤ gb282)); have n4_ := Aside0.mk ((by rw [hg]; exact (below_size (by repeat (first | (with_reducible first | exact HB.out | apply below_alloc | apply pw_below_drewN | apply below_drew1 | refine below_set ?_ GE280.out) | exact HB.out))) : w.heap.size ≤ gb282)); have n5_ := Aside0.mk ((by rw [hg]; exact Nat.ne_of_lt (blk_lt (g := gb280) (o := .cells #[.int .i64 x281000_1, .int .i64 x281001_1] 29 (0, 0)) (by (with_reducible repeat (first | refine blk_drewN ?_ _ | refine blk_drew ?_ | refine blk_alloc ?_ _)); exact BK280.out)) : gb280 ≠ gb282)); have n6_ := Aside0.mk ((by rw [hg]; exact Nat.ne_of_gt (blk_lt (g := gb280) (o := .cells #[.int .i64 x281000_1, .int .i64 x281001_1] 29 (0, 0)) (by (with_reducible repeat (first | refine blk_drewN ?_ _ | refine blk_drew ?_ | refine blk_alloc ?_ _)); exact BK280.out)) : gb282 ≠ gb280)); clear BK280; clear HB; have BK280 := n0_; have HB := n1_; have BK282 := n2_; have GW282 := n3_; have GE282 := n4_; have NB280_282 := n5_; have NB282_280 := n6_; clear n0_ n1_ n2_ n3_ n4_ n5_ n6_; clear hb hbox hg; have hnb12 := NB282_280.out; have hnc12 := NB280_282.out; have hcz13_0 : w11.cell? ⟨gb282, 0, none⟩ = some (.int .i64 0) := (blk_cell BK282.out 0).trans rfl; have hcz13_1 : w11.cell? ⟨gb282, 1, none⟩ = some (.int .i64 0) := (blk_cell BK282.out 1).trans rfl; have hcz13_2 : w11.cell? ⟨gb282, 2, none⟩ = some (.int .i64 0) := (blk_cell BK282.out 2).trans rfl; have hfz13_0 := blk_frozen BK282.out 0; have hfz13_1 := blk_frozen BK282.out 1; have hfz13_2 := blk_frozen BK282.out 2))
       (try simp only [Act.put, List.setIfInBounds_toArray, List.set_cons_zero, List.set_cons_succ])
       go_cut [18] (fun v18 wc => ∃ (kq : Nat) (x18_9 : Bool), v18 = .bool x18_9 ∧ Aside0 (place_Items.j1 kq a1 x13_1 l0 (l0.length : Int) x13_1 x18_9 ((rd_T57 l0 x13_1).f0) ((rd_T57 l0 x13_1).f1) ((rd_T57 l0 x13_1).f2) = some (r1, r2)) ∧ Aside0 (kq ≤ k1) ∧ Aside0 (wc.heap[gb280]? = some (.cells #[.int .i64 x281000_1, .int .i64 x281001_1] 29 (0, 0))) ∧ Aside0 (wc.heap[gb282]? = some (.cells #[.int .i64 ((rd_T57 l0 x13_1).f0), .int .i64 ((rd_T57 l0 x13_1).f1), .int .i64 ((rd_T57 l0 x13_1).f2)] 57 (0, 0))) ∧ Aside0 (Below w.heap.size w wc))
       case first =>
        have H := HC10.out
        clear HC10
        by_cases c14 : ((rd_T57 l0 x13_1).f0) < 0
        ·rw [if_pos c14] at H
         have c14b0 : decide (((rd_T57 l0 x13_1).f0) < 0) = true := decide_eq_true c14
         clear c14
         (first | rw [c14b0] | (simp only [i64_w, i32_w]; rw [c14b0]) | skip)
         have H' := Aside0.mk H
         clear H
         have hnb15 := NB282_280.out
         have hnc15 := NB280_282.out
         have hcz16_0 : w11.cell? ⟨gb282, 0, none⟩ = some (.int .i64 0) := (blk_cell BK282.out 0).trans rfl
         have hcz16_1 : w11.cell? ⟨gb282, 1, none⟩ = some (.int .i64 0) := (blk_cell BK282.out 1).trans rfl
         have hcz16_2 : w11.cell? ⟨gb282, 2, none⟩ = some (.int .i64 0) := (blk_cell BK282.out 2).trans rfl
         have hfz16_0 := blk_frozen BK282.out 0
         have hfz16_1 := blk_frozen BK282.out 1
         have hfz16_2 := blk_frozen BK282.out 2
         go_wp2
         go_meet
         case rel => exact ⟨_, (true), (by first | rfl | (simp; done) | (simp [*]; done)), H', ⟨by have := HK1.out; first | omega | exact Nat.le_refl _⟩, ⟨by (with_reducible repeat (first | refine blk_drewN ?_ _ | refine blk_drew ?_ | refine blk_alloc ?_ _)); refine blk_far ?_ NB280_282.out _; (with_reducible repeat (first | refine blk_drewN ?_ _ | refine blk_drew ?_ | refine blk_alloc ?_ _)); refine blk_far ?_ NB280_282.out _; (with_reducible repeat (first | refine blk_drewN ?_ _ | refine blk_drew ?_ | refine blk_alloc ?_ _)); refine blk_far ?_ NB280_282.out _; (with_reducible repeat (first | refine blk_drewN ?_ _ | refine blk_drew ?_ | refine blk_alloc ?_ _)); exact BK280.out⟩, ⟨by (with_reducible repeat (first | refine blk_drewN ?_ _ | refine blk_drew ?_ | refine blk_alloc ?_ _)); refine blk_put (cs := #[.int .i64 ((rd_T57 l0 x13_1).f0), .int .i64 ((rd_T57 l0 x13_1).f1), .int .i64 0]) ?_ 2 _ rfl; (with_reducible repeat (first | refine blk_drewN ?_ _ | refine blk_drew ?_ | refine blk_alloc ?_ _)); refine blk_put (cs := #[.int .i64 ((rd_T57 l0 x13_1).f0), .int .i64 0, .int .i64 0]) ?_ 1 _ rfl; (with_reducible repeat (first | refine blk_drewN ?_ _ | refine blk_drew ?_ | refine blk_alloc ?_ _)); refine blk_put (cs := #[.int .i64 0, .int .i64 0, .int .i64 0]) ?_ 0 _ rfl; (with_reducible repeat (first | refine blk_drewN ?_ _ | refine blk_drew ?_ | refine blk_alloc ?_ _)); exact BK282.out⟩, ⟨by repeat (first | (with_reducible first | exact HB.out | apply below_alloc | apply pw_below_drewN | apply below_drew1 | refine below_set ?_ GE280.out | refine below_set ?_ GE282.out) | exact HB.out)⟩⟩
        ·rw [if_neg c14] at H
         have c14b0 : decide (((rd_T57 l0 x13_1).f0) < 0) = false := decide_eq_false c14
         clear c14
         (first | rw [c14b0] | (simp only [i64_w, i32_w]; rw [c14b0]) | skip)
         by_cases c17 : ((rd_T57 l0 x13_1).f0) ≥ a1
         ·rw [if_pos c17] at H
          have c17b0 : decide (a1 ≤ ((rd_T57 l0 x13_1).f0)) = true := decide_eq_true c17
          clear c17
          have H' := Aside0.mk H
          clear H
          have hnb18 := NB282_280.out
          have hnc18 := NB280_282.out
          have hcz19_0 : w11.cell? ⟨gb282, 0, none⟩ = some (.int .i64 0) := (blk_cell BK282.out 0).trans rfl
          have hcz19_1 : w11.cell? ⟨gb282, 1, none⟩ = some (.int .i64 0) := (blk_cell BK282.out 1).trans rfl
          have hcz19_2 : w11.cell? ⟨gb282, 2, none⟩ = some (.int .i64 0) := (blk_cell BK282.out 2).trans rfl
          have hfz19_0 := blk_frozen BK282.out 0
          have hfz19_1 := blk_frozen BK282.out 1
          have hfz19_2 := blk_frozen BK282.out 2
          go_wp2
          go_meet
          case rel => exact ⟨_, (true), (by first | rfl | (simp; done) | (simp [*]; done)), H', ⟨by have := HK1.out; first | omega | exact Nat.le_refl _⟩, ⟨by (with_reducible repeat (first | refine blk_drewN ?_ _ | refine blk_drew ?_ | refine blk_alloc ?_ _)); refine blk_far ?_ NB280_282.out _; (with_reducible repeat (first | refine blk_drewN ?_ _ | refine blk_drew ?_ | refine blk_alloc ?_ _)); refine blk_far ?_ NB280_282.out _; (with_reducible repeat (first | refine blk_drewN ?_ _ | refine blk_drew ?_ | refine blk_alloc ?_ _)); refine blk_far ?_ NB280_282.out _; (with_reducible repeat (first | refine blk_drewN ?_ _ | refine blk_drew ?_ | refine blk_alloc ?_ _)); exact BK280.out⟩, ⟨by (with_reducible repeat (first | refine blk_drewN ?_ _ | refine blk_drew ?_ | refine blk_alloc ?_ _)); refine blk_put (cs := #[.int .i64 ((rd_T57 l0 x13_1).f0), .int .i64 ((rd_T57 l0 x13_1).f1), .int .i64 0]) ?_ 2 _ rfl; (with_reducible repeat (first | refine blk_drewN ?_ _ | refine blk_drew ?_ | refine blk_alloc ?_ _)); refine blk_put (cs := #[.int .i64 ((rd_T57 l0 x13_1).f0), .int .i64 0, .int .i64 0]) ?_ 1 _ rfl; (with_reducible repeat (first | refine blk_drewN ?_ _ | refine blk_drew ?_ | refine blk_alloc ?_ _)); refine blk_put (cs := #[.int .i64 0, .int .i64 0, .int .i64 0]) ?_ 0 _ rfl; (with_reducible repeat (first | refine blk_drewN ?_ _ | refine blk_drew ?_ | refine blk_alloc ?_ _)); exact BK282.out⟩, ⟨by repeat (first | (with_reducible first | exact HB.out | apply below_alloc | apply pw_below_drewN | apply below_drew1 | refine below_set ?_ GE280.out | refine below_set ?_ GE282.out) | exact HB.out)⟩⟩
         ·rw [if_neg c17] at H
          have c17b0 : decide (a1 ≤ ((rd_T57 l0 x13_1).f0)) = false := decide_eq_false c17
          clear c17
          by_cases c20 : ((rd_T57 l0 x13_1).f1) < 0
          ·rw [if_pos c20] at H
           have c20b0 : decide (((rd_T57 l0 x13_1).f1) < 0) = true := decide_eq_true c20
           clear c20
           have H' := Aside0.mk H
           clear H
           have hnb21 := NB282_280.out
           have hnc21 := NB280_282.out
           have hcz22_0 : w11.cell? ⟨gb282, 0, none⟩ = some (.int .i64 0) := (blk_cell BK282.out 0).trans rfl
           have hcz22_1 : w11.cell? ⟨gb282, 1, none⟩ = some (.int .i64 0) := (blk_cell BK282.out 1).trans rfl
           have hcz22_2 : w11.cell? ⟨gb282, 2, none⟩ = some (.int .i64 0) := (blk_cell BK282.out 2).trans rfl
           have hfz22_0 := blk_frozen BK282.out 0
           have hfz22_1 := blk_frozen BK282.out 1
           have hfz22_2 := blk_frozen BK282.out 2
           go_wp2
           go_meet
           case rel => exact ⟨_, (true), (by first | rfl | (simp; done) | (simp [*]; done)), H', ⟨by have := HK1.out; first | omega | exact Nat.le_refl _⟩, ⟨by (with_reducible repeat (first | refine blk_drewN ?_ _ | refine blk_drew ?_ | refine blk_alloc ?_ _)); refine blk_far ?_ NB280_282.out _; (with_reducible repeat (first | refine blk_drewN ?_ _ | refine blk_drew ?_ | refine blk_alloc ?_ _)); refine blk_far ?_ NB280_282.out _; (with_reducible repeat (first | refine blk_drewN ?_ _ | refine blk_drew ?_ | refine blk_alloc ?_ _)); refine blk_far ?_ NB280_282.out _; (with_reducible repeat (first | refine blk_drewN ?_ _ | refine blk_drew ?_ | refine blk_alloc ?_ _)); exact BK280.out⟩, ⟨by (with_reducible repeat (first | refine blk_drewN ?_ _ | refine blk_drew ?_ | refine blk_alloc ?_ _)); refine blk_put (cs := #[.int .i64 ((rd_T57 l0 x13_1).f0), .int .i64 ((rd_T57 l0 x13_1).f1), .int .i64 0]) ?_ 2 _ rfl; (with_reducible repeat (first | refine blk_drewN ?_ _ | refine blk_drew ?_ | refine blk_alloc ?_ _)); refine blk_put (cs := #[.int .i64 ((rd_T57 l0 x13_1).f0), .int .i64 0, .int .i64 0]) ?_ 1 _ rfl; (with_reducible repeat (first | refine blk_drewN ?_ _ | refine blk_drew ?_ | refine blk_alloc ?_ _)); refine blk_put (cs := #[.int .i64 0, .int .i64 0, .int .i64 0]) ?_ 0 _ rfl; (with_reducible repeat (first | refine blk_drewN ?_ _ | refine blk_drew ?_ | refine blk_alloc ?_ _)); exact BK282.out⟩, ⟨by repeat (first | (with_reducible first | exact HB.out | apply below_alloc | apply pw_below_drewN | apply below_drew1 | refine below_set ?_ GE280.out | refine below_set ?_ GE282.out) | exact HB.out)⟩⟩
          ·rw [if_neg c20] at H
           have c20b0 : decide (((rd_T57 l0 x13_1).f1) < 0) = false := decide_eq_false c20
           clear c20
           have H' := Aside0.mk H
           clear H
           have hnb23 := NB282_280.out
           have hnc23 := NB280_282.out
           have hcz24_0 : w11.cell? ⟨gb282, 0, none⟩ = some (.int .i64 0) := (blk_cell BK282.out 0).trans rfl
           have hcz24_1 : w11.cell? ⟨gb282, 1, none⟩ = some (.int .i64 0) := (blk_cell BK282.out 1).trans rfl
           have hcz24_2 : w11.cell? ⟨gb282, 2, none⟩ = some (.int .i64 0) := (blk_cell BK282.out 2).trans rfl
           have hfz24_0 := blk_frozen BK282.out 0
           have hfz24_1 := blk_frozen BK282.out 1
           have hfz24_2 := blk_frozen BK282.out 2
           go_wp2
           go_meet
           case rel => exact ⟨_, (decide (((rd_T57 l0 x13_1).f1) > 1048576)), (by first | rfl | (simp; done) | (simp [*]; done)), H', ⟨by have := HK1.out; first | omega | exact Nat.le_refl _⟩, ⟨by (with_reducible repeat (first | refine blk_drewN ?_ _ | refine blk_drew ?_ | refine blk_alloc ?_ _)); refine blk_far ?_ NB280_282.out _; (with_reducible repeat (first | refine blk_drewN ?_ _ | refine blk_drew ?_ | refine blk_alloc ?_ _)); refine blk_far ?_ NB280_282.out _; (with_reducible repeat (first | refine blk_drewN ?_ _ | refine blk_drew ?_ | refine blk_alloc ?_ _)); refine blk_far ?_ NB280_282.out _; (with_reducible repeat (first | refine blk_drewN ?_ _ | refine blk_drew ?_ | refine blk_alloc ?_ _)); exact BK280.out⟩, ⟨by (with_reducible repeat (first | refine blk_drewN ?_ _ | refine blk_drew ?_ | refine blk_alloc ?_ _)); refine blk_put (cs := #[.int .i64 ((rd_T57 l0 x13_1).f0), .int .i64 ((rd_T57 l0 x13_1).f1), .int .i64 0]) ?_ 2 _ rfl; (with_reducible repeat (first | refine blk_drewN ?_ _ | refine blk_drew ?_ | refine blk_alloc ?_ _)); refine blk_put (cs := #[.int .i64 ((rd_T57 l0 x13_1).f0), .int .i64 0, .int .i64 0]) ?_ 1 _ rfl; (with_reducible repeat (first | refine blk_drewN ?_ _ | refine blk_drew ?_ | refine blk_alloc ?_ _)); refine blk_put (cs := #[.int .i64 0, .int .i64 0, .int .i64 0]) ?_ 0 _ rfl; (with_reducible repeat (first | refine blk_drewN ?_ _ | refine blk_drew ?_ | refine blk_alloc ?_ _)); exact BK282.out⟩, ⟨by repeat (first | (with_reducible first | exact HB.out | apply below_alloc | apply pw_below_drewN | apply below_drew1 | refine below_set ?_ GE280.out | refine below_set ?_ GE282.out) | exact HB.out)⟩⟩
       case rest =>
        clear HC10
        try clear c1
        try clear c2
        try clear p2
        try clear q2
        try clear hx2
        try clear c3
        try clear c3b0
        try clear c3b1
        try clear c7
        try clear c7b0
        try clear c8
        try clear c8b0
        try clear c9
        try clear c9b0
        try clear c12
        try clear c14
        try clear c14b0
        try clear c15
        try clear c17
        try clear c17b0
        try clear c18
        try clear c20
        try clear c20b0
        try clear c21
        try clear c23
        try clear hcz13_0
        try clear hcz13_1
        try clear hcz13_2
        try clear hcz16_0
        try clear hcz16_1
        try clear hcz16_2
        try clear hcz19_0
        try clear hcz19_1
        try clear hcz19_2
        try clear hcz22_0
        try clear hcz22_1
        try clear hcz22_2
        try clear hcz24_0
        try clear hcz24_1
        try clear hcz24_2
        try clear hcz5_0
        try clear hcz5_1
        try clear hfz13_0
        try clear hfz13_1
        try clear hfz13_2
        try clear hfz16_0
        try clear hfz16_1
        try clear hfz16_2
        try clear hfz19_0
        try clear hfz19_1
        try clear hfz19_2
        try clear hfz22_0
        try clear hfz22_1
        try clear hfz22_2
        try clear hfz24_0
        try clear hfz24_1
        try clear hfz24_2
        try clear hfz5_0
        try clear hfz5_1
        try clear hx281_0
        try clear hx281_1
        try clear hx281_2
        try clear p2
        try clear p281
        try clear q281
        obtain ⟨kq, x18_9, rfl, HA, HJ9, BK280, BK282, HB⟩ := hcut
        cases kq with
        | zero => exact absurd HA.out (by simp [place_Items.j1])
        | succ kj9 =>
         have H := HA.out
         clear HA
         simp only [place_Items.j1] at H
         by_cases c25 : x18_9 = true
         ·subst c25
          have H1 : (some (3, wrap64 ((-100) - x13_1))) = some (r1, r2) := by rw [if_pos rfl] at H; exact H
          clear H
          have H := H1
          clear H1
          simp only [Option.some.injEq, Prod.mk.injEq] at H
          obtain ⟨rfl, rfl⟩ := H
          have hnb26 := NB280_282.out
          have hnc26 := NB282_280.out
          have hcz27_0 : wc.cell? ⟨gb280, 0, none⟩ = some (.int .i64 x281000_1) := (blk_cell BK280.out 0).trans rfl
          have hcz27_1 : wc.cell? ⟨gb280, 1, none⟩ = some (.int .i64 x281001_1) := (blk_cell BK280.out 1).trans rfl
          have hfz27_0 := blk_frozen BK280.out 0
          have hfz27_1 := blk_frozen BK280.out 1
          go_wp2
          refine bodyPost_ret (results_cell_row rfl _ _ gb280 29 #[.int .i64 3, .int .i64 (wrap64 ((-100) - x13_1))] (0, 0) _ rfl (by (with_reducible repeat (first | refine blk_drewN ?_ _ | refine blk_drew ?_ | refine blk_alloc ?_ _)); refine blk_put (cs := #[.int .i64 3, .int .i64 x281001_1]) ?_ 1 _ rfl; (with_reducible repeat (first | refine blk_drewN ?_ _ | refine blk_drew ?_ | refine blk_alloc ?_ _)); refine blk_put (cs := #[.int .i64 x281000_1, .int .i64 x281001_1]) ?_ 0 _ rfl; (with_reducible repeat (first | refine blk_drewN ?_ _ | refine blk_drew ?_ | refine blk_alloc ?_ _)); exact BK280.out) Try.underlying29 rfl (by kernel_rfl)) rfl ?_
          exact ⟨by first | rfl | (simp [errW_none, errW_some] <;> rfl) | (simp [*, errW_none, errW_some] <;> rfl), by repeat (first | (with_reducible first | exact HB.out | apply below_alloc | apply pw_below_drewN | apply below_drew1 | refine below_set ?_ GE280.out | refine below_set ?_ GE282.out) | exact HB.out)⟩
         ·replace c25 := Bool.eq_false_iff.mpr c25
          subst c25
          have H1 : (if ((rd_T57 l0 x13_1).f2) < 1 then (some (3, wrap64 ((-100) - x13_1))) else (if ((rd_T57 l0 x13_1).f2) > 256 then (some (3, wrap64 ((-100) - x13_1))) else (if (Go.bits .and .i64 ((rd_T57 l0 x13_1).f2) (wrap64 (((rd_T57 l0 x13_1).f2) - 1))) = 0 then (place_Items.l0 kj9 a1 l0 (l0.length : Int) (wrap64 (x13_1 + 1))) else (some (3, wrap64 ((-100) - x13_1)))))) = some (r1, r2) := by rw [if_neg (show ¬ (false = true) by decide)] at H; exact H
          clear H
          have H := H1
          clear H1
          by_cases c28 : ((rd_T57 l0 x13_1).f2) < 1
          ·rw [if_pos c28] at H
           have c28b0 : decide (((rd_T57 l0 x13_1).f2) < 1) = true := decide_eq_true c28
           clear c28
           simp only [Option.some.injEq, Prod.mk.injEq] at H
           obtain ⟨rfl, rfl⟩ := H
           have hnb29 := NB282_280.out
           have hnc29 := NB280_282.out
           have hcz30_0 : wc.cell? ⟨gb282, 0, none⟩ = some (.int .i64 ((rd_T57 l0 x13_1).f0)) := (blk_cell BK282.out 0).trans rfl
           have hcz30_1 : wc.cell? ⟨gb282, 1, none⟩ = some (.int .i64 ((rd_T57 l0 x13_1).f1)) := (blk_cell BK282.out 1).trans rfl
           have hcz30_2 : wc.cell? ⟨gb282, 2, none⟩ = some (.int .i64 ((rd_T57 l0 x13_1).f2)) := (blk_cell BK282.out 2).trans rfl
           have hfz30_0 := blk_frozen BK282.out 0
           have hfz30_1 := blk_frozen BK282.out 1
           have hfz30_2 := blk_frozen BK282.out 2
           have hcz31_0 : wc.cell? ⟨gb280, 0, none⟩ = some (.int .i64 x281000_1) := (blk_cell BK280.out 0).trans rfl
           have hcz31_1 : wc.cell? ⟨gb280, 1, none⟩ = some (.int .i64 x281001_1) := (blk_cell BK280.out 1).trans rfl
           have hfz31_0 := blk_frozen BK280.out 0
           have hfz31_1 := blk_frozen BK280.out 1
           go_wp2
           refine bodyPost_ret (results_cell_row rfl _ _ gb280 29 #[.int .i64 3, .int .i64 (wrap64 ((-100) - x13_1))] (0, 0) _ rfl (by (with_reducible repeat (first | refine blk_drewN ?_ _ | refine blk_drew ?_ | refine blk_alloc ?_ _)); refine blk_put (cs := #[.int .i64 3, .int .i64 x281001_1]) ?_ 1 _ rfl; (with_reducible repeat (first | refine blk_drewN ?_ _ | refine blk_drew ?_ | refine blk_alloc ?_ _)); refine blk_put (cs := #[.int .i64 x281000_1, .int .i64 x281001_1]) ?_ 0 _ rfl; (with_reducible repeat (first | refine blk_drewN ?_ _ | refine blk_drew ?_ | refine blk_alloc ?_ _)); exact BK280.out) Try.underlying29 rfl (by kernel_rfl)) rfl ?_
           exact ⟨by first | rfl | (simp [errW_none, errW_some] <;> rfl) | (simp [*, errW_none, errW_some] <;> rfl), by repeat (first | (with_reducible first | exact HB.out | apply below_alloc | apply pw_below_drewN | apply below_drew1 | refine below_set ?_ GE280.out | refine below_set ?_ GE282.out) | exact HB.out)⟩
          ·rw [if_neg c28] at H
           have c28b0 : decide (((rd_T57 l0 x13_1).f2) < 1) = false := decide_eq_false c28
           clear c28
           by_cases c32 : ((rd_T57 l0 x13_1).f2) > 256
           ·rw [if_pos c32] at H
            have c32b0 : decide (256 < ((rd_T57 l0 x13_1).f2)) = true := decide_eq_true c32
            clear c32
            simp only [Option.some.injEq, Prod.mk.injEq] at H
            obtain ⟨rfl, rfl⟩ := H
            have hnb33 := NB282_280.out
            have hnc33 := NB280_282.out
            have hcz34_0 : wc.cell? ⟨gb282, 0, none⟩ = some (.int .i64 ((rd_T57 l0 x13_1).f0)) := (blk_cell BK282.out 0).trans rfl
            have hcz34_1 : wc.cell? ⟨gb282, 1, none⟩ = some (.int .i64 ((rd_T57 l0 x13_1).f1)) := (blk_cell BK282.out 1).trans rfl
            have hcz34_2 : wc.cell? ⟨gb282, 2, none⟩ = some (.int .i64 ((rd_T57 l0 x13_1).f2)) := (blk_cell BK282.out 2).trans rfl
            have hfz34_0 := blk_frozen BK282.out 0
            have hfz34_1 := blk_frozen BK282.out 1
            have hfz34_2 := blk_frozen BK282.out 2
            have hcz35_0 : wc.cell? ⟨gb280, 0, none⟩ = some (.int .i64 x281000_1) := (blk_cell BK280.out 0).trans rfl
            have hcz35_1 : wc.cell? ⟨gb280, 1, none⟩ = some (.int .i64 x281001_1) := (blk_cell BK280.out 1).trans rfl
            have hfz35_0 := blk_frozen BK280.out 0
            have hfz35_1 := blk_frozen BK280.out 1
            go_wp2
            refine bodyPost_ret (results_cell_row rfl _ _ gb280 29 #[.int .i64 3, .int .i64 (wrap64 ((-100) - x13_1))] (0, 0) _ rfl (by (with_reducible repeat (first | refine blk_drewN ?_ _ | refine blk_drew ?_ | refine blk_alloc ?_ _)); refine blk_put (cs := #[.int .i64 3, .int .i64 x281001_1]) ?_ 1 _ rfl; (with_reducible repeat (first | refine blk_drewN ?_ _ | refine blk_drew ?_ | refine blk_alloc ?_ _)); refine blk_put (cs := #[.int .i64 x281000_1, .int .i64 x281001_1]) ?_ 0 _ rfl; (with_reducible repeat (first | refine blk_drewN ?_ _ | refine blk_drew ?_ | refine blk_alloc ?_ _)); exact BK280.out) Try.underlying29 rfl (by kernel_rfl)) rfl ?_
            exact ⟨by first | rfl | (simp [errW_none, errW_some] <;> rfl) | (simp [*, errW_none, errW_some] <;> rfl), by repeat (first | (with_reducible first | exact HB.out | apply below_alloc | apply pw_below_drewN | apply below_drew1 | refine below_set ?_ GE280.out | refine below_set ?_ GE282.out) | exact HB.out)⟩
           ·rw [if_neg c32] at H
            have c32b0 : decide (256 < ((rd_T57 l0 x13_1).f2)) = false := decide_eq_false c32
            clear c32
            by_cases c36 : (Go.bits .and .i64 ((rd_T57 l0 x13_1).f2) (wrap64 (((rd_T57 l0 x13_1).f2) - 1))) = 0
            ·rw [if_pos c36] at H
             have c36b0 : ((Go.bits .and .i64 ((rd_T57 l0 x13_1).f2) (wrap64 (((rd_T57 l0 x13_1).f2) - 1))) == 0) = true := beq_iff_eq.mpr c36
             have c36b1 : ((Go.bits .and .i64 ((rd_T57 l0 x13_1).f2) (wrap64 (((rd_T57 l0 x13_1).f2) - 1))) != 0) = false := bne_eq_false_iff_eq.mpr c36
             clear c36
             have H' := Aside0.mk H
             clear H
             have hnb37 := NB282_280.out
             have hnc37 := NB280_282.out
             have hcz38_0 : wc.cell? ⟨gb282, 0, none⟩ = some (.int .i64 ((rd_T57 l0 x13_1).f0)) := (blk_cell BK282.out 0).trans rfl
             have hcz38_1 : wc.cell? ⟨gb282, 1, none⟩ = some (.int .i64 ((rd_T57 l0 x13_1).f1)) := (blk_cell BK282.out 1).trans rfl
             have hcz38_2 : wc.cell? ⟨gb282, 2, none⟩ = some (.int .i64 ((rd_T57 l0 x13_1).f2)) := (blk_cell BK282.out 2).trans rfl
             have hfz38_0 := blk_frozen BK282.out 0
             have hfz38_1 := blk_frozen BK282.out 1
             have hfz38_2 := blk_frozen BK282.out 2
             go_wp2
             go_roundg kj9
             case measure => have := HK1.out; have := HJ9.out; omega
             case rel => exact ⟨(wrap64 (x13_1 + 1)), (x281000_1), (x281001_1), (by first | rfl | (simp; done) | (simp [*]; done)), H', ⟨by have := HK1.out; have := HJ9.out; omega⟩, ⟨by (with_reducible repeat (first | refine blk_drewN ?_ _ | refine blk_drew ?_ | refine blk_alloc ?_ _)); exact BK280.out⟩, ⟨by repeat (first | (with_reducible first | exact HB.out | apply below_alloc | apply pw_below_drewN | apply below_drew1 | refine below_set ?_ GE280.out | refine below_set ?_ GE282.out) | exact HB.out)⟩⟩
            ·rw [if_neg c36] at H
             have c36b0 : ((Go.bits .and .i64 ((rd_T57 l0 x13_1).f2) (wrap64 (((rd_T57 l0 x13_1).f2) - 1))) == 0) = false := beq_eq_false_iff_ne.mpr c36
             have c36b1 : ((Go.bits .and .i64 ((rd_T57 l0 x13_1).f2) (wrap64 (((rd_T57 l0 x13_1).f2) - 1))) != 0) = true := bne_iff_ne.mpr c36
             simp only [Option.some.injEq, Prod.mk.injEq] at H
             obtain ⟨rfl, rfl⟩ := H
             have hnb39 := NB282_280.out
             have hnc39 := NB280_282.out
             have hcz40_0 : wc.cell? ⟨gb282, 0, none⟩ = some (.int .i64 ((rd_T57 l0 x13_1).f0)) := (blk_cell BK282.out 0).trans rfl
             have hcz40_1 : wc.cell? ⟨gb282, 1, none⟩ = some (.int .i64 ((rd_T57 l0 x13_1).f1)) := (blk_cell BK282.out 1).trans rfl
             have hcz40_2 : wc.cell? ⟨gb282, 2, none⟩ = some (.int .i64 ((rd_T57 l0 x13_1).f2)) := (blk_cell BK282.out 2).trans rfl
             have hfz40_0 := blk_frozen BK282.out 0
             have hfz40_1 := blk_frozen BK282.out 1
             have hfz40_2 := blk_frozen BK282.out 2
             have hcz41_0 : wc.cell? ⟨gb280, 0, none⟩ = some (.int .i64 x281000_1) := (blk_cell BK280.out 0).trans rfl
             have hcz41_1 : wc.cell? ⟨gb280, 1, none⟩ = some (.int .i64 x281001_1) := (blk_cell BK280.out 1).trans rfl
             have hfz41_0 := blk_frozen BK280.out 0
             have hfz41_1 := blk_frozen BK280.out 1
             go_wp2
             refine bodyPost_ret (results_cell_row rfl _ _ gb280 29 #[.int .i64 3, .int .i64 (wrap64 ((-100) - x13_1))] (0, 0) _ rfl (by (with_reducible repeat (first | refine blk_drewN ?_ _ | refine blk_drew ?_ | refine blk_alloc ?_ _)); refine blk_put (cs := #[.int .i64 3, .int .i64 x281001_1]) ?_ 1 _ rfl; (with_reducible repeat (first | refine blk_drewN ?_ _ | refine blk_drew ?_ | refine blk_alloc ?_ _)); refine blk_put (cs := #[.int .i64 x281000_1, .int .i64 x281001_1]) ?_ 0 _ rfl; (with_reducible repeat (first | refine blk_drewN ?_ _ | refine blk_drew ?_ | refine blk_alloc ?_ _)); exact BK280.out) Try.underlying29 rfl (by kernel_rfl)) rfl ?_
             exact ⟨by first | rfl | (simp [errW_none, errW_some] <;> rfl) | (simp [*, errW_none, errW_some] <;> rfl), by repeat (first | (with_reducible first | exact HB.out | apply below_alloc | apply pw_below_drewN | apply below_drew1 | refine below_set ?_ GE280.out | refine below_set ?_ GE282.out) | exact HB.out)⟩
      ·rw [if_neg c9] at H
       exact absurd H (by simp)
     ·rw [if_neg c8] at H
      exact absurd H (by simp)
    ·rw [if_neg c7] at H
     have c7b0 : decide (x13_1 < (l0.length : Int)) = false := decide_eq_false c7
     clear c7
     simp only [Option.some.injEq, Prod.mk.injEq] at H
     obtain ⟨rfl, rfl⟩ := H
     have hcz42_0 : wr.cell? ⟨gb280, 0, none⟩ = some (.int .i64 x281000_1) := (blk_cell BK280.out 0).trans rfl
     have hcz42_1 : wr.cell? ⟨gb280, 1, none⟩ = some (.int .i64 x281001_1) := (blk_cell BK280.out 1).trans rfl
     have hfz42_0 := blk_frozen BK280.out 0
     have hfz42_1 := blk_frozen BK280.out 1
     go_wp2
     refine bodyPost_ret (results_cell_row rfl _ _ gb280 29 #[.int .i64 0, .int .i64 0] (0, 0) _ rfl (by (with_reducible repeat (first | refine blk_drewN ?_ _ | refine blk_drew ?_ | refine blk_alloc ?_ _)); refine blk_put (cs := #[.int .i64 0, .int .i64 x281001_1]) ?_ 1 _ rfl; (with_reducible repeat (first | refine blk_drewN ?_ _ | refine blk_drew ?_ | refine blk_alloc ?_ _)); refine blk_put (cs := #[.int .i64 x281000_1, .int .i64 x281001_1]) ?_ 0 _ rfl; (with_reducible repeat (first | refine blk_drewN ?_ _ | refine blk_drew ?_ | refine blk_alloc ?_ _)); exact BK280.out) Try.underlying29 rfl (by kernel_rfl)) rfl ?_
     exact ⟨by first | rfl | (simp [errW_none, errW_some] <;> rfl) | (simp [*, errW_none, errW_some] <;> rfl), by repeat (first | (with_reducible first | exact HB.out | apply below_alloc | apply pw_below_drewN | apply below_drew1 | refine below_set ?_ GE280.out) | exact HB.out)⟩
def apply_Width.j0 : Nat → Int → Bool → Option (Int)
  | 0, _, _ => none
  | k + 1, x3, x4 => if x4 = true then (some 4) else (if x3 = 2 then (some 2) else (if x3 = 3 then (some 1) else (some 0)))
def apply_Width.f (k : Nat) (a0 : Int) : Option (Int) := if a0 = 1 then (apply_Width.j0 k a0 (a0 == 1)) else (if a0 = 4 then (apply_Width.j0 k a0 (a0 == 4)) else (apply_Width.j0 k a0 (a0 == 5)))
theorem apply_Width.mono_l : ∀ k, (∀ y0 y1, LeO (apply_Width.j0 k y0 y1) (apply_Width.j0 (k + 1) y0 y1))
 | 0 => fun _ _ r h => by simp [apply_Width.j0] at h
 | k + 1 => by
  have ih0 := apply_Width.mono_l k
  ·intro y0 y1
   unfold apply_Width.j0
   repeat' first
   | (with_reducible exact ih0 _ _)
   | (with_reducible exact LeO.refl _)
   | (with_reducible exact LeO.none _)
   | (with_reducible refine LeO.ite ?_ ?_)
   | (with_reducible refine LeO.bind ?_ (fun _ => ?_))
   | exact ih0 _ _
   | exact LeO.none _
   | refine LeO.ite ?_ ?_
   | refine LeO.bind ?_ (fun _ => ?_)
theorem apply_Width.mono : ∀ a0 k, LeO (apply_Width.f k a0) (apply_Width.f (k + 1) a0) := by
 intro a0 k
 have ih0 := apply_Width.mono_l k
 unfold apply_Width.f
 repeat' first
   | (with_reducible exact ih0 _ _)
   | (with_reducible exact LeO.refl _)
   | (with_reducible exact LeO.none _)
   | (with_reducible refine LeO.ite ?_ ?_)
   | (with_reducible refine LeO.bind ?_ (fun _ => ?_))
   | exact ih0 _ _
   | exact LeO.none _
   | refine LeO.ite ?_ ?_
   | refine LeO.bind ?_ (fun _ => ?_)
set_option maxHeartbeats 8000000 in
set_option maxRecDepth 100000 in
theorem apply_Width.calls (k : Nat) (a0 : Int) (r : Int) (w : World) (h : apply_Width.f k a0 = some r) :
  Calls Try.prog 41 #[.int .i64 a0] w fun e w' => e = .returned (.int .i64 r) ∧ Drawn0 w w' := by
 have H : (if a0 = 1 then (apply_Width.j0 k a0 (a0 == 1)) else (if a0 = 4 then (apply_Width.j0 k a0 (a0 == 4)) else (apply_Width.j0 k a0 (a0 == 5)))) = some r := h
 clear h
 have HC2 := Aside0.mk H
 clear H
 go_enter Try.func41, Try.ntmps41
 go_upto_if 4 with (fail)
 go_cut [4] (fun v4 wc => ∃ (kq : Nat) (x4_1 : Bool), v4 = .bool x4_1 ∧ Aside0 (apply_Width.j0 kq a0 x4_1 = some r) ∧ Aside0 (kq ≤ k) ∧ Drawn0 w wc)
 case first =>
  have H := HC2.out
  clear HC2
  by_cases c3 : a0 = 1
  ·rw [if_pos c3] at H
   have c3b0 : (a0 == 1) = true := beq_iff_eq.mpr c3
   have c3b1 : (a0 != 1) = false := bne_eq_false_iff_eq.mpr c3
   clear c3
   (first | rw [c3b0] | (simp only [i64_w, i32_w]; rw [c3b0]) | skip)
   have H' := Aside0.mk H
   clear H
   go_wp2
   go_meet
   case rel => exact ⟨_, ((a0 == 1)), (by first | rfl | (simp; done) | (simp [*]; done)), H', ⟨by first | omega | exact Nat.le_refl _⟩, by repeat (first | exact Drawn0.refl _ | apply Drawn0.step)⟩
  ·rw [if_neg c3] at H
   have c3b0 : (a0 == 1) = false := beq_eq_false_iff_ne.mpr c3
   have c3b1 : (a0 != 1) = true := bne_iff_ne.mpr c3
   (first | rw [c3b0] | (simp only [i64_w, i32_w]; rw [c3b0]) | skip)
   by_cases c4 : a0 = 4
   ·rw [if_pos c4] at H
    have c4b0 : (a0 == 4) = true := beq_iff_eq.mpr c4
    have c4b1 : (a0 != 4) = false := bne_eq_false_iff_eq.mpr c4
    clear c4
    have H' := Aside0.mk H
    clear H
    go_wp2
    go_meet
    case rel => exact ⟨_, ((a0 == 4)), (by first | rfl | (simp; done) | (simp [*]; done)), H', ⟨by first | omega | exact Nat.le_refl _⟩, by repeat (first | exact Drawn0.refl _ | apply Drawn0.step)⟩
   ·rw [if_neg c4] at H
    have c4b0 : (a0 == 4) = false := beq_eq_false_iff_ne.mpr c4
    have c4b1 : (a0 != 4) = true := bne_iff_ne.mpr c4
    have H' := Aside0.mk H
    clear H
    go_wp2
    go_meet
    case rel => exact ⟨_, ((a0 == 5)), (by first | rfl | (simp; done) | (simp [*]; done)), H', ⟨by first | omega | exact Nat.le_refl _⟩, by repeat (first | exact Drawn0.refl _ | apply Drawn0.step)⟩
 case rest =>
  clear HC2
  try clear p2
  try clear c3
  try clear c3b0
  try clear c3b1
  try clear c4
  try clear c4b0
  try clear c4b1
  obtain ⟨kq, x4_1, rfl, HA, HJ1, ⟨mc1, rfl⟩⟩ := hcut
  cases kq with
  | zero => exact absurd HA.out (by simp [apply_Width.j0])
  | succ kj1 =>
   have H := HA.out
   clear HA
   simp only [apply_Width.j0] at H
   by_cases c5 : x4_1 = true
   ·subst c5
    have H1 : (some 4) = some r := by rw [if_pos rfl] at H; exact H
    clear H
    have H := H1
    clear H1
    obtain rfl := Option.some.inj H
    go_wp2
    go_ret
    exact ⟨by first | rfl | (simp; done) | (simp [*]; done), by repeat (first | exact Drawn0.refl _ | apply Drawn0.step)⟩
   ·replace c5 := Bool.eq_false_iff.mpr c5
    subst c5
    have H1 : (if a0 = 2 then (some 2) else (if a0 = 3 then (some 1) else (some 0))) = some r := by rw [if_neg (show ¬ (false = true) by decide)] at H; exact H
    clear H
    have H := H1
    clear H1
    by_cases c6 : a0 = 2
    ·rw [if_pos c6] at H
     have c6b0 : (a0 == 2) = true := beq_iff_eq.mpr c6
     have c6b1 : (a0 != 2) = false := bne_eq_false_iff_eq.mpr c6
     clear c6
     obtain rfl := Option.some.inj H
     go_wp2
     go_ret
     exact ⟨by first | rfl | (simp; done) | (simp [*]; done), by repeat (first | exact Drawn0.refl _ | apply Drawn0.step)⟩
    ·rw [if_neg c6] at H
     have c6b0 : (a0 == 2) = false := beq_eq_false_iff_ne.mpr c6
     have c6b1 : (a0 != 2) = true := bne_iff_ne.mpr c6
     by_cases c7 : a0 = 3
     ·rw [if_pos c7] at H
      have c7b0 : (a0 == 3) = true := beq_iff_eq.mpr c7
      have c7b1 : (a0 != 3) = false := bne_eq_false_iff_eq.mpr c7
      clear c7
      obtain rfl := Option.some.inj H
      go_wp2
      go_ret
      exact ⟨by first | rfl | (simp; done) | (simp [*]; done), by repeat (first | exact Drawn0.refl _ | apply Drawn0.step)⟩
     ·rw [if_neg c7] at H
      have c7b0 : (a0 == 3) = false := beq_eq_false_iff_ne.mpr c7
      have c7b1 : (a0 != 3) = true := bne_iff_ne.mpr c7
      obtain rfl := Option.some.inj H
      go_wp2
      go_ret
      exact ⟨by first | rfl | (simp; done) | (simp [*]; done), by repeat (first | exact Drawn0.refl _ | apply Drawn0.step)⟩
end Go.Proofs.Ytogcgcjhoebooaa.PVeneerMatchesSpec
end
section
set_option linter.unusedVariables false
set_option linter.unusedSimpArgs false
namespace Go.Proofs.Ytogcgcjhoebooaa.PVeneerMatchesSpec
open Go.RowKit Go.Proofs.YtogcgcjhoebooaaW.PrintWords Go.Proofs.YtogcgcjhoebooaaW.PrintLast Go.Proofs.YtogcgcjhoebooaaW.PrintMore
def thread_Up.f (a0 : Int) (a1 : Int) : Option (Int) := if a1 = 0 then (none) else (some (wrap64 ((wrap64 (Int.tdiv (wrap64 ((wrap64 (a0 + a1)) - 1)) a1)) * a1)))
set_option maxHeartbeats 8000000 in
set_option maxRecDepth 100000 in
theorem thread_Up.calls (a0 : Int) (a1 : Int) (r : Int) (w : World) (h : thread_Up.f a0 a1 = some r) :
  Calls Try.prog 43 #[.int .i64 a0, .int .i64 a1] w fun e w' => e = .returned (.int .i64 r) ∧ Drawn0 w w' := by
 have H : (if a1 = 0 then (none) else (some (wrap64 ((wrap64 (Int.tdiv (wrap64 ((wrap64 (a0 + a1)) - 1)) a1)) * a1)))) = some r := h
 clear h
 by_cases c3 : a1 = 0
 ·rw [if_pos c3] at H
  exact absurd H (by simp)
 ·rw [if_neg c3] at H
  have c3b0 : (a1 == 0) = false := beq_eq_false_iff_ne.mpr c3
  have c3b1 : (a1 != 0) = true := bne_iff_ne.mpr c3
  obtain rfl := Option.some.inj H
  go_enter Try.func43, Try.ntmps43
  go_wp2
  go_ret
  exact ⟨by first | rfl | (simp; done) | (simp [*]; done), by repeat (first | exact Drawn0.refl _ | apply Drawn0.step)⟩
mutual
def place_Assign.l0 : Nat → List (S57) → List Int → List (S80) → Int → List (S72) → Int → Int → Option (List Int × (List (S80)) × Int × Int)
 | 0, _, _, _, _, _, _, _ => none
 | k + 1, x1, x7, x8, x9, x24, x25, x26 => if x26 < x25 then (if 0 ≤ x26 then (if x26 < (x24.length : Int) then (if ((rd_T72 x24 x26).f1) < 0 then ((thread_Up.f x9 256).bind fun t298 => ((thread_Up.f t298 ((rd_T72 x24 x26).f2)).bind fun t299 => (place_Assign.j1 k x1 x7 x8 x9 x26 t299 x24 x25 x26 ((rd_T72 x24 x26).f0) ((rd_T72 x24 x26).f1) ((rd_T72 x24 x26).f2) ((rd_T72 x24 x26).f3)))) else (place_Assign.j1 k x1 x7 x8 x9 x26 ((rd_T72 x24 x26).f1) x24 x25 x26 ((rd_T72 x24 x26).f0) ((rd_T72 x24 x26).f1) ((rd_T72 x24 x26).f2) ((rd_T72 x24 x26).f3))) else (none)) else (none)) else (some (x7, x8, 0, 0))
def place_Assign.j1 : Nat → List (S57) → List Int → List (S80) → Int → Int → Int → List (S72) → Int → Int → ByteArray → Int → Int → Int → Option (List Int × (List (S80)) × Int × Int)
 | 0, _, _, _, _, _, _, _, _, _, _, _, _, _ => none
 | k + 1, x1, x7, x8, x9, x10, x12, x24, x25, x26, x298000, x298001, x298002, x298003 => if x12 < x9 then (place_Assign.j2 k x1 x7 x8 x10 x12 x24 x25 x26 true) else (if x298002 = 0 then (none) else (place_Assign.j2 k x1 x7 x8 x10 x12 x24 x25 x26 ((Int.tmod x12 x298002) != 0)))
def place_Assign.j2 : Nat → List (S57) → List Int → List (S80) → Int → Int → List (S72) → Int → Int → Bool → Option (List Int × (List (S80)) × Int × Int)
 | 0, _, _, _, _, _, _, _, _, _ => none
 | k + 1, x1, x7, x8, x10, x12, x24, x25, x26, x49 => if x49 = true then (some (([] : List Int), ([] : List (S80)), 13, x10)) else (place_Assign.l1 k x1 x7 x8 x10 x12 x12 x24 x25 x26 x1 (x1.length : Int) 0)
def place_Assign.l1 : Nat → List (S57) → List Int → List (S80) → Int → Int → Int → List (S72) → Int → Int → List (S57) → Int → Int → Option (List Int × (List (S80)) × Int × Int)
 | 0, _, _, _, _, _, _, _, _, _, _, _, _ => none
 | k + 1, x1, x7, x8, x10, x12, x13, x24, x25, x26, x53, x54, x55 => if x55 < x54 then (if 0 ≤ x55 then (if x55 < (x53.length : Int) then (if ((rd_T57 x53 x55).f0) = x10 then ((thread_Up.f x13 ((rd_T57 x53 x55).f2)).bind fun t302 => (if x55 < (x7.length : Int) then ((some (x7.set (x55 : Int).toNat t302 : List Int)).bind fun y303 => (place_Assign.l1 k x1 y303 x8 x10 x12 (wrap64 ((rd y303 x55) + ((rd_T57 x53 x55).f1))) x24 x25 x26 x53 x54 (wrap64 (x55 + 1)))) else (none))) else (place_Assign.l1 k x1 x7 x8 x10 x12 x13 x24 x25 x26 x53 x54 (wrap64 (x55 + 1)))) else (none)) else (none)) else (if x13 > 1048576 then (some (([] : List Int), ([] : List (S80)), 10, x10)) else (if 0 ≤ x10 then (if x10 < (x8.length : Int) then (place_Assign.l0 k x1 x7 (x8.set (x10 : Int).toNat (⟨x12, wrap64 (x13 - x12)⟩ : S80)) x13 x24 x25 (wrap64 (x26 + 1))) else (none)) else (none)))
end
def place_Assign.f (k : Nat) (l0_0 : List (S72)) (l0_1 : List (S76)) (l1 : List (S57)) : Option (List Int × (List (S80)) × Int × Int) := if 0 ≤ (l1.length : Int) then (if ((l1.length : Int) : Int).toNat ≤ 35184372088832 then (if 0 ≤ (l0_0.length : Int) then (if ((l0_0.length : Int) : Int).toNat ≤ 17592186044416 then (place_Assign.l0 k l1 (List.replicate ((l1.length : Int) : Int).toNat 0) (List.replicate ((l0_0.length : Int) : Int).toNat z80) 256 l0_0 (l0_0.length : Int) 0) else (none)) else (none)) else (none)) else (none)
theorem place_Assign.mono_l : ∀ k, (∀ y0 y1 y2 y3 y4 y5 y6, LeO (place_Assign.l0 k y0 y1 y2 y3 y4 y5 y6) (place_Assign.l0 (k + 1) y0 y1 y2 y3 y4 y5 y6)) ∧ (∀ y0 y1 y2 y3 y4 y5 y6 y7 y8 y9 y10 y11 y12, LeO (place_Assign.j1 k y0 y1 y2 y3 y4 y5 y6 y7 y8 y9 y10 y11 y12) (place_Assign.j1 (k + 1) y0 y1 y2 y3 y4 y5 y6 y7 y8 y9 y10 y11 y12)) ∧ (∀ y0 y1 y2 y3 y4 y5 y6 y7 y8, LeO (place_Assign.j2 k y0 y1 y2 y3 y4 y5 y6 y7 y8) (place_Assign.j2 (k + 1) y0 y1 y2 y3 y4 y5 y6 y7 y8)) ∧ (∀ y0 y1 y2 y3 y4 y5 y6 y7 y8 y9 y10 y11, LeO (place_Assign.l1 k y0 y1 y2 y3 y4 y5 y6 y7 y8 y9 y10 y11) (place_Assign.l1 (k + 1) y0 y1 y2 y3 y4 y5 y6 y7 y8 y9 y10 y11))
 | 0 => ⟨fun _ _ _ _ _ _ _ r h => by simp [place_Assign.l0] at h, fun _ _ _ _ _ _ _ _ _ _ _ _ _ r h => by simp [place_Assign.j1] at h, fun _ _ _ _ _ _ _ _ _ r h => by simp [place_Assign.j2] at h, fun _ _ _ _ _ _ _ _ _ _ _ _ r h => by simp [place_Assign.l1] at h⟩
 | k + 1 => by
  obtain ⟨ih0, ih1, ih2, ih3⟩ := place_Assign.mono_l k
  refine ⟨?_, ?_, ?_, ?_⟩
  ·intro y0 y1 y2 y3 y4 y5 y6
   unfold place_Assign.l0
   repeat' first
   | (with_reducible exact ih0 _ _ _ _ _ _ _)
   | (with_reducible exact ih1 _ _ _ _ _ _ _ _ _ _ _ _ _)
   | (with_reducible exact ih2 _ _ _ _ _ _ _ _ _)
   | (with_reducible exact ih3 _ _ _ _ _ _ _ _ _ _ _ _)
   | (with_reducible exact LeO.refl _)
   | (with_reducible exact LeO.none _)
   | (with_reducible refine LeO.ite ?_ ?_)
   | (with_reducible refine LeO.bind ?_ (fun _ => ?_))
   | exact ih0 _ _ _ _ _ _ _
   | exact ih1 _ _ _ _ _ _ _ _ _ _ _ _ _
   | exact ih2 _ _ _ _ _ _ _ _ _
   | exact ih3 _ _ _ _ _ _ _ _ _ _ _ _
   | exact LeO.none _
   | refine LeO.ite ?_ ?_
   | refine LeO.bind ?_ (fun _ => ?_)
  ·intro y0 y1 y2 y3 y4 y5 y6 y7 y8 y9 y10 y11 y12
   unfold place_Assign.j1
   repeat' first
   | (with_reducible exact ih0 _ _ _ _ _ _ _)
   | (with_reducible exact ih1 _ _ _ _ _ _ _ _ _ _ _ _ _)
   | (with_reducible exact ih2 _ _ _ _ _ _ _ _ _)
   | (with_reducible exact ih3 _ _ _ _ _ _ _ _ _ _ _ _)
   | (with_reducible exact LeO.refl _)
   | (with_reducible exact LeO.none _)
   | (with_reducible refine LeO.ite ?_ ?_)
   | (with_reducible refine LeO.bind ?_ (fun _ => ?_))
   | exact ih0 _ _ _ _ _ _ _
   | exact ih1 _ _ _ _ _ _ _ _ _ _ _ _ _
   | exact ih2 _ _ _ _ _ _ _ _ _
   | exact ih3 _ _ _ _ _ _ _ _ _ _ _ _
   | exact LeO.none _
   | refine LeO.ite ?_ ?_
   | refine LeO.bind ?_ (fun _ => ?_)
  ·intro y0 y1 y2 y3 y4 y5 y6 y7 y8
   unfold place_Assign.j2
   repeat' first
   | (with_reducible exact ih0 _ _ _ _ _ _ _)
   | (with_reducible exact ih1 _ _ _ _ _ _ _ _ _ _ _ _ _)
   | (with_reducible exact ih2 _ _ _ _ _ _ _ _ _)
   | (with_reducible exact ih3 _ _ _ _ _ _ _ _ _ _ _ _)
   | (with_reducible exact LeO.refl _)
   | (with_reducible exact LeO.none _)
   | (with_reducible refine LeO.ite ?_ ?_)
   | (with_reducible refine LeO.bind ?_ (fun _ => ?_))
   | exact ih0 _ _ _ _ _ _ _
   | exact ih1 _ _ _ _ _ _ _ _ _ _ _ _ _
   | exact ih2 _ _ _ _ _ _ _ _ _
   | exact ih3 _ _ _ _ _ _ _ _ _ _ _ _
   | exact LeO.none _
   | refine LeO.ite ?_ ?_
   | refine LeO.bind ?_ (fun _ => ?_)
  ·intro y0 y1 y2 y3 y4 y5 y6 y7 y8 y9 y10 y11
   unfold place_Assign.l1
   repeat' first
   | (with_reducible exact ih0 _ _ _ _ _ _ _)
   | (with_reducible exact ih1 _ _ _ _ _ _ _ _ _ _ _ _ _)
   | (with_reducible exact ih2 _ _ _ _ _ _ _ _ _)
   | (with_reducible exact ih3 _ _ _ _ _ _ _ _ _ _ _ _)
   | (with_reducible exact LeO.refl _)
   | (with_reducible exact LeO.none _)
   | (with_reducible refine LeO.ite ?_ ?_)
   | (with_reducible refine LeO.bind ?_ (fun _ => ?_))
   | exact ih0 _ _ _ _ _ _ _
   | exact ih1 _ _ _ _ _ _ _ _ _ _ _ _ _
   | exact ih2 _ _ _ _ _ _ _ _ _
   | exact ih3 _ _ _ _ _ _ _ _ _ _ _ _
   | exact LeO.none _
   | refine LeO.ite ?_ ?_
   | refine LeO.bind ?_ (fun _ => ?_)
theorem place_Assign.mono : ∀ a0 a1 a2 k, LeO (place_Assign.f k a0 a1 a2) (place_Assign.f (k + 1) a0 a1 a2) := by
 intro a0 a1 a2 k
 obtain ⟨ih0, ih1, ih2, ih3⟩ := place_Assign.mono_l k
 unfold place_Assign.f
 repeat' first
   | (with_reducible exact ih0 _ _ _ _ _ _ _)
   | (with_reducible exact ih1 _ _ _ _ _ _ _ _ _ _ _ _ _)
   | (with_reducible exact ih2 _ _ _ _ _ _ _ _ _)
   | (with_reducible exact ih3 _ _ _ _ _ _ _ _ _ _ _ _)
   | (with_reducible exact LeO.refl _)
   | (with_reducible exact LeO.none _)
   | (with_reducible refine LeO.ite ?_ ?_)
   | (with_reducible refine LeO.bind ?_ (fun _ => ?_))
   | exact ih0 _ _ _ _ _ _ _
   | exact ih1 _ _ _ _ _ _ _ _ _ _ _ _ _
   | exact ih2 _ _ _ _ _ _ _ _ _
   | exact ih3 _ _ _ _ _ _ _ _ _ _ _ _
   | exact LeO.none _
   | refine LeO.ite ?_ ?_
   | refine LeO.bind ?_ (fun _ => ?_)
set_option maxHeartbeats 8000000 in
set_option maxRecDepth 100000 in
theorem place_Assign.calls (k : Nat) (A0_0 : Option Addr) (c0_0 : Nat) (l0_0 : List (S72)) (A0_1 : Option Addr) (c0_1 : Nat) (l0_1 : List (S76)) (A1 : Option Addr) (c1 : Nat) (l1 : List (S57)) (r1 : List Int) (r2 : List (S80)) (r3 : Int) (r4 : Int) (w : World) (hr0_0 : Kd.C k72 w A0_0 l0_0.length l0_0) (hc0_0 : l0_0.length ≤ c0_0) (hr0_1 : Kd.C k76 w A0_1 l0_1.length l0_1) (hc0_1 : l0_1.length ≤ c0_1) (hr1 : Kd.C k57 w A1 l1.length l1) (hc1 : l1.length ≤ c1) (h : place_Assign.f k l0_0 l0_1 l1 = some (r1, r2, r3, r4)) :
  Calls Try.prog 32 #[.agg #[.slice A0_0 l0_0.length c0_0, .slice A0_1 l0_1.length c0_1], .slice A1 l1.length c1] w fun e w' => ∃ v0_ v1_ : Value, e = .returned (.tuple #[v0_, v1_, .agg #[.int .i64 r3, .int .i64 r4]]) ∧ Kd.R (Kd.int .i64) 3 w' w.heap.size (fun _ => True) v0_ r1 ∧ Kd.R k80 80 w' w.heap.size (fun _ => True) v1_ r2 ∧ Below w.heap.size w w' := by
 have hu25 := Try.underlying25
 have hu29 := Try.underlying29
 have hu72 := Try.underlying72
 have hu57 := Try.underlying57
 have hu80 := Try.underlying80
 have HR0_0 := Aside0.mk hr0_0
 have HC0_0 := Aside0.mk hc0_0
 clear hr0_0 hc0_0
 have HR0_1 := Aside0.mk hr0_1
 have HC0_1 := Aside0.mk hc0_1
 clear hr0_1 hc0_1
 have HR1 := Aside0.mk hr1
 have HC1 := Aside0.mk hc1
 clear hr1 hc1
 have HB := Aside0.mk (Below.refl w.heap.size w)
 have H : (if 0 ≤ (l1.length : Int) then (if ((l1.length : Int) : Int).toNat ≤ 35184372088832 then (if 0 ≤ (l0_0.length : Int) then (if ((l0_0.length : Int) : Int).toNat ≤ 17592186044416 then (place_Assign.l0 k l1 (List.replicate ((l1.length : Int) : Int).toNat 0) (List.replicate ((l0_0.length : Int) : Int).toNat z80) 256 l0_0 (l0_0.length : Int) 0) else (none)) else (none)) else (none)) else (none)) = some (r1, r2, r3, r4) := h
 clear h
 by_cases c3 : 0 ≤ (l1.length : Int)
 ·rw [if_pos c3] at H
  have c3b0 := eq_true c3
  have c3b1 : decide (0 ≤ (l1.length : Int)) = true := decide_eq_true c3
  clear c3
  by_cases c4 : ((l1.length : Int) : Int).toNat ≤ 35184372088832
  ·rw [if_pos c4] at H
   have c4b0 := eq_true c4
   have c4b1 : decide (((l1.length : Int) : Int).toNat ≤ 35184372088832) = true := decide_eq_true c4
   clear c4
   obtain ⟨y290, hy290⟩ : ∃ y_ : List Int, y_ = (List.replicate ((l1.length : Int) : Int).toNat 0) := ⟨_, rfl⟩
   replace H : (if 0 ≤ (l0_0.length : Int) then (if ((l0_0.length : Int) : Int).toNat ≤ 17592186044416 then (place_Assign.l0 k l1 y290 (List.replicate ((l0_0.length : Int) : Int).toNat z80) 256 l0_0 (l0_0.length : Int) 0) else (none)) else (none)) = some (r1, r2, r3, r4) := by first | (rw [hy290]; with_reducible exact H) | (have H2_ := (Option.bind_some _ _).symm.trans H; rw [hy290]; with_reducible exact H2_) | (have H2_ := (Option.bind_some _ _).symm.trans H; with_reducible exact H2_) | with_reducible exact H | (rw [hy290]; exact H) | exact H
   have Ny290 := Aside0.mk hy290
   clear hy290
   by_cases c5 : 0 ≤ (l0_0.length : Int)
   ·rw [if_pos c5] at H
    have c5b0 := eq_true c5
    have c5b1 : decide (0 ≤ (l0_0.length : Int)) = true := decide_eq_true c5
    clear c5
    by_cases c6 : ((l0_0.length : Int) : Int).toNat ≤ 17592186044416
    ·rw [if_pos c6] at H
     have c6b0 := eq_true c6
     have c6b1 : decide (((l0_0.length : Int) : Int).toNat ≤ 17592186044416) = true := decide_eq_true c6
     clear c6
     obtain ⟨y293, hy293⟩ : ∃ y_ : List (S80), y_ = (List.replicate ((l0_0.length : Int) : Int).toNat z80) := ⟨_, rfl⟩
     replace H : (place_Assign.l0 k l1 y290 y293 256 l0_0 (l0_0.length : Int) 0) = some (r1, r2, r3, r4) := by first | (rw [hy293]; with_reducible exact H) | (have H2_ := (Option.bind_some _ _).symm.trans H; rw [hy293]; with_reducible exact H2_) | (have H2_ := (Option.bind_some _ _).symm.trans H; with_reducible exact H2_) | with_reducible exact H | (rw [hy293]; exact H) | exact H
     have Ny293 := Aside0.mk hy293
     clear hy293
     have H' := Aside0.mk H
     clear H
     go_enter Try.func32, Try.ntmps32
     go_wp2_with (first | ((with_reducible refine gate_dst (N := 2) rfl ?_); refine box_event ?hg (N := 2) ?hd (cs := #[.slice A0_0 l0_0.length c0_0, .slice A0_1 l0_1.length c0_1]) (t := 25) ?hr ?_; (case hd => rfl); (case hg => rfl); (case hr => first | (go_simp; done) | (go_simp; rfl)); intro gb288 hg w7 hbox hb; have n0_ := Aside0.mk (below_step (by repeat (first | (with_reducible first | exact HB.out | apply below_alloc | apply pw_below_drewN | apply below_drew1) | exact HB.out)) hb); have n1_ := Aside0.mk (hbox); have n2_ := Aside0.mk ((by rw [hg]; exact (below_size (by repeat (first | (with_reducible first | exact HB.out | apply below_alloc | apply pw_below_drewN | apply below_drew1) | exact HB.out))) : w.heap.size ≤ gb288)); have n3_ := Aside0.mk ((by rw [hg]; exact (below_size (by repeat (first | (with_reducible first | exact HB.out | apply below_alloc | apply pw_below_drewN | apply below_drew1) | exact HB.out))) : w.heap.size ≤ gb288)); clear HB; have HB := n0_; have BK288 := n1_; have GW288 := n2_; have GE288 := n3_; clear n0_ n1_ n2_ n3_; clear hb hbox hg) | ((with_reducible refine gate_dst (N := 6) rfl ?_); refine box_event ?hg (N := 6) ?hd (cs := #[.int .i64 0, .int .i64 0]) (t := 29) ?hr ?_; (case hd => rfl); (case hg => rfl); (case hr => first | (go_simp; done) | (go_simp; rfl)); intro gb289 hg w8 hbox hb; have n0_ := Aside0.mk (blk_below (g := gb288) (o := .cells #[.slice A0_0 l0_0.length c0_0, .slice A0_1 l0_1.length c0_1] 25 (0, 0)) (by (with_reducible repeat (first | refine blk_drewN ?_ _ | refine blk_drew ?_ | refine blk_alloc ?_ _)); exact BK288.out) hb); have n1_ := Aside0.mk (below_step (by repeat (first | (with_reducible first | exact HB.out | apply below_alloc | apply pw_below_drewN | apply below_drew1 | refine below_set ?_ GE288.out) | exact HB.out)) hb); have n2_ := Aside0.mk (hbox); have n3_ := Aside0.mk ((by rw [hg]; exact (below_size (by repeat (first | (with_reducible first | exact HB.out | apply below_alloc | apply pw_below_drewN | apply below_drew1 | refine below_set ?_ GE288.out) | exact HB.out))) : w.heap.size ≤ gb289)); have n4_ := Aside0.mk ((by rw [hg]; exact (below_size (by repeat (first | (with_reducible first | exact HB.out | apply below_alloc | apply pw_below_drewN | apply below_drew1 | refine below_set ?_ GE288.out) | exact HB.out))) : w.heap.size ≤ gb289)); have n5_ := Aside0.mk ((by rw [hg]; exact Nat.ne_of_lt (blk_lt (g := gb288) (o := .cells #[.slice A0_0 l0_0.length c0_0, .slice A0_1 l0_1.length c0_1] 25 (0, 0)) (by (with_reducible repeat (first | refine blk_drewN ?_ _ | refine blk_drew ?_ | refine blk_alloc ?_ _)); exact BK288.out)) : gb288 ≠ gb289)); have n6_ := Aside0.mk ((by rw [hg]; exact Nat.ne_of_gt (blk_lt (g := gb288) (o := .cells #[.slice A0_0 l0_0.length c0_0, .slice A0_1 l0_1.length c0_1] 25 (0, 0)) (by (with_reducible repeat (first | refine blk_drewN ?_ _ | refine blk_drew ?_ | refine blk_alloc ?_ _)); exact BK288.out)) : gb289 ≠ gb288)); clear BK288; clear HB; have BK288 := n0_; have HB := n1_; have BK289 := n2_; have GW289 := n3_; have GE289 := n4_; have NB288_289 := n5_; have NB289_288 := n6_; clear n0_ n1_ n2_ n3_ n4_ n5_ n6_; clear hb hbox hg) | ((with_reducible refine gate_dst (N := 18) rfl ?_); refine Kd.R_make (Kd.int .i64) _ 3 rfl (N := 18) rfl 33 _ _ rfl (l1.length : Int) rfl rfl Try.underlying33 (.int .i64 0) 8 info3 rfl (by decide) (by omega) 0 (ok := fun _ => True) (okp := fun _ => True) rfl (fun _ hk => hk) trivial (of_decide_eq_true (by first | (with_reducible assumption) | assumption)) (Nat.le_trans (Nat.mul_le_mul_right _ (of_decide_eq_true (by first | (with_reducible assumption) | assumption) : (l1.length : Int).toNat ≤ 35184372088832)) (by omega)) (Below.refl _ _) (Nat.le_refl _) ?_; intro v291 w9 ho10 hb hg_ hnew_; clear hg_ hnew_; (first | rw [← Ny290.out] at ho10 | (simp only [Int.reduceToNat] at ho10; rw [← Ny290.out] at ho10)); have n0_ := Aside0.mk (Kd.R_lower ho10 (below_size (by repeat (first | (with_reducible first | exact HB.out | apply below_alloc | apply pw_below_drewN | apply below_drew1 | refine below_set ?_ GE288.out | refine below_set ?_ GE289.out) | exact HB.out)))); have n1_ := Aside0.mk (blk_below (g := gb288) (o := .cells #[.slice A0_0 l0_0.length c0_0, .slice A0_1 l0_1.length c0_1] 25 (0, 0)) (by (with_reducible repeat (first | refine blk_drewN ?_ _ | refine blk_drew ?_ | refine blk_alloc ?_ _)); exact BK288.out) hb); have n2_ := Aside0.mk (blk_below (g := gb289) (o := .cells #[.int .i64 0, .int .i64 0] 29 (0, 0)) (by (with_reducible repeat (first | refine blk_drewN ?_ _ | refine blk_drew ?_ | refine blk_alloc ?_ _)); exact BK289.out) hb); have n3_ := Aside0.mk (below_step (by repeat (first | (with_reducible first | exact HB.out | apply below_alloc | apply pw_below_drewN | apply below_drew1 | refine below_set ?_ GE288.out | refine below_set ?_ GE289.out) | exact HB.out)) hb); clear BK288; clear BK289; clear HB; have HO292 := n0_; have BK288 := n1_; have BK289 := n2_; have HB := n3_; clear n0_ n1_ n2_ n3_; clear hb ho10; have hnb11 := NB288_289.out; have hnc11 := NB289_288.out; have hcz12_0 : w9.cell? ⟨gb288, 0, none⟩ = some (.slice A0_0 l0_0.length c0_0) := (blk_cell BK288.out 0).trans rfl; have hcz12_1 : w9.cell? ⟨gb288, 1, none⟩ = some (.slice A0_1 l0_1.length c0_1) := (blk_cell BK288.out 1).trans rfl; have hfz12_0 := blk_frozen BK288.out 0; have hfz12_1 := blk_frozen BK288.out 1) | ((with_reducible refine gate_dst (N := 22) rfl ?_); refine Kd.R_make k80 _ 80 rfl (N := 22) rfl 34 _ _ rfl (l0_0.length : Int) rfl rfl Try.underlying34 (.agg #[(.int .i64 0), (.int .i64 0)]) 16 info80 rfl (by decide) (by omega) z80 (ok := fun _ => True) (okp := fun _ => True) (k80_mkM _ _ _ z80 ) (fun _ hk => hk) trivial (of_decide_eq_true (by first | (with_reducible assumption) | assumption)) (Nat.le_trans (Nat.mul_le_mul_right _ (of_decide_eq_true (by first | (with_reducible assumption) | assumption) : (l0_0.length : Int).toNat ≤ 17592186044416)) (by omega)) (Below.refl _ _) (Nat.le_refl _) ?_; intro v294 w13 ho14 hb hg_ hnew_; clear hg_ hnew_; (first | rw [← Ny293.out] at ho14 | (simp only [Int.reduceToNat] at ho14; rw [← Ny293.out] at ho14)); have n0_ := Aside0.mk (Kd.R_below (by (with_reducible repeat (first | apply Kd.R_alloc | apply Kd.R_drewN | apply Kd.R_drew)); exact HO292.out) hb); have n1_ := Aside0.mk (Kd.R_lower ho14 (below_size (by repeat (first | (with_reducible first | exact HB.out | apply below_alloc | apply pw_below_drewN | apply below_drew1 | refine below_set ?_ GE288.out | refine below_set ?_ GE289.out) | exact HB.out)))); have n2_ := Aside0.mk (blk_below (g := gb288) (o := .cells #[.slice A0_0 l0_0.length c0_0, .slice A0_1 l0_1.length c0_1] 25 (0, 0)) (by (with_reducible repeat (first | refine blk_drewN ?_ _ | refine blk_drew ?_ | refine blk_alloc ?_ _)); exact BK288.out) hb); have n3_ := Aside0.mk (blk_below (g := gb289) (o := .cells #[.int .i64 0, .int .i64 0] 29 (0, 0)) (by (with_reducible repeat (first | refine blk_drewN ?_ _ | refine blk_drew ?_ | refine blk_alloc ?_ _)); exact BK289.out) hb); have n4_ := Aside0.mk (below_step (by repeat (first | (with_reducible first | exact HB.out | apply below_alloc | apply pw_below_drewN | apply below_drew1 | refine below_set ?_ GE288.out | refine below_set ?_ GE289.out) | exact HB.out)) hb); clear HO292; clear BK288; clear BK289; clear HB; have HO292 := n0_; have HO295 := n1_; have BK288 := n2_; have BK289 := n3_; have HB := n4_; clear n0_ n1_ n2_ n3_ n4_; clear hb ho14; have hcz15_0 : w13.cell? ⟨gb288, 0, none⟩ = some (.slice A0_0 l0_0.length c0_0) := (blk_cell BK288.out 0).trans rfl; have hcz15_1 : w13.cell? ⟨gb288, 1, none⟩ = some (.slice A0_1 l0_1.length c0_1) := (blk_cell BK288.out 1).trans rfl; have hfz15_0 := blk_frozen BK288.out 0; have hfz15_1 := blk_frozen BK288.out 1))
     skip
     go_loopg [9, 26] k (fun kq v9 v26 w' => ∃ (x7_1 : List Int) (x8_1 : List (S80)) (x9_1 : Int) (x26_1 : Int) (x290000_1 : Int) (x290001_1 : Int), v9 = .int .i64 x9_1 ∧ v26 = .int .i64 x26_1 ∧ Aside0 (place_Assign.l0 kq l1 x7_1 x8_1 x9_1 l0_0 (l0_0.length : Int) x26_1 = some (r1, r2, r3, r4)) ∧ Aside0 (kq ≤ k) ∧ Aside0 (Kd.R (Kd.int .i64) 3 w' w.heap.size (fun _ => True) v291 x7_1) ∧ Aside0 (Kd.R k80 80 w' w.heap.size (fun _ => True) v294 x8_1) ∧ Aside0 (w'.heap[gb288]? = some (.cells #[(.slice A0_0 l0_0.length c0_0), (.slice A0_1 l0_1.length c0_1)] 25 (0, 0))) ∧ Aside0 (w'.heap[gb289]? = some (.cells #[.int .i64 x290000_1, .int .i64 x290001_1] 29 (0, 0))) ∧ Aside0 (Below w.heap.size w w'))
     case atStart => exact ⟨(y290), (y293), (256), (0), (0), (0), (by first | rfl | (simp; done) | (simp [*]; done)), (by first | rfl | (simp; done) | (simp [*]; done)), H', ⟨Nat.le_refl _⟩, ⟨by (with_reducible repeat (first | apply Kd.R_alloc | apply Kd.R_drewN | apply Kd.R_drew)); exact HO292.out⟩, ⟨by (with_reducible repeat (first | apply Kd.R_alloc | apply Kd.R_drewN | apply Kd.R_drew)); exact HO295.out⟩, ⟨by (with_reducible repeat (first | refine blk_drewN ?_ _ | refine blk_drew ?_ | refine blk_alloc ?_ _)); exact BK288.out⟩, ⟨by (with_reducible repeat (first | refine blk_drewN ?_ _ | refine blk_drew ?_ | refine blk_alloc ?_ _)); exact BK289.out⟩, ⟨by repeat (first | (with_reducible first | exact HB.out | apply below_alloc | apply pw_below_drewN | apply below_drew1 | refine below_set ?_ GE288.out | refine below_set ?_ GE289.out) | exact HB.out)⟩⟩
     case round =>
      clear H'
      try clear c1
      try clear p2
      try clear c3
      try clear c3b0
      try clear c3b1
      try clear c4
      try clear c4b0
      try clear c4b1
      try clear c5
      try clear c5b0
      try clear c5b1
      try clear c6
      try clear c6b0
      try clear c6b1
      try clear c11
      try clear hcz12_0
      try clear hcz12_1
      try clear hcz15_0
      try clear hcz15_1
      try clear hfz12_0
      try clear hfz12_1
      try clear hfz15_0
      try clear hfz15_1
      obtain ⟨x7_1, x8_1, x9_1, x26_1, x290000_1, x290001_1, rfl, rfl, HA, HK1, HO_7, HO_8, BK288, BK289, HB⟩ := hrel
      cases gk with
      | zero => exact absurd HA.out (by simp [place_Assign.l0])
      | succ k1 =>
       have H := HA.out
       clear HA
       simp only [place_Assign.l0] at H
       by_cases c16 : x26_1 < (l0_0.length : Int)
       ·rw [if_pos c16] at H
        have c16b0 : decide (x26_1 < (l0_0.length : Int)) = true := decide_eq_true c16
        clear c16
        by_cases c17 : 0 ≤ x26_1
        ·rw [if_pos c17] at H
         have c17b0 : decide (0 ≤ x26_1) = true := decide_eq_true c17
         clear c17
         by_cases c18 : x26_1 < (l0_0.length : Int)
         ·rw [if_pos c18] at H
          have c18b0 : decide (x26_1 < (l0_0.length : Int)) = true := decide_eq_true c18
          clear c18
          have HC19 := Aside0.mk H
          clear H
          have p296 : 0 ≤ (x26_1 : Int) := of_decide_eq_true (by first | (with_reducible assumption) | assumption)
          have q296 : x26_1 < (l0_0.length : Int) := of_decide_eq_true (by first | (with_reducible assumption) | assumption)
          obtain ⟨ad296, e296, hx296_0, hx296_1, hx296_2, hx296_3⟩ := at_T72 HR0_0.out x26_1 p296 q296
          cases e296
          replace hx296_0 := (HB.out.cell (World.block_lt_of_cell? w _ hx296_0)).trans hx296_0
          replace hx296_1 := (HB.out.cell (World.block_lt_of_cell? w _ hx296_1)).trans hx296_1
          replace hx296_2 := (HB.out.cell (World.block_lt_of_cell? w _ hx296_2)).trans hx296_2
          replace hx296_3 := (HB.out.cell (World.block_lt_of_cell? w _ hx296_3)).trans hx296_3
          replace p296 := eq_true p296
          replace q296 := eq_true q296
          go_upto_if 34 with (first | ((with_reducible refine gate_dst (N := 11) rfl ?_); refine box_event ?hg (N := 11) ?hd (cs := #[.string (⟨#[]⟩ : ByteArray), .int .i64 0, .int .i64 0, .int .i64 0]) (t := 72) ?hr ?_; (case hd => rfl); (case hg => rfl); (case hr => first | (go_simp; done) | (go_simp; rfl)); intro gb297 hg w20 hbox hb; have n0_ := Aside0.mk (Kd.R_below (by (with_reducible repeat (first | apply Kd.R_alloc | apply Kd.R_drewN | apply Kd.R_drew)); exact HO_7.out) hb); have n1_ := Aside0.mk (Kd.R_below (by (with_reducible repeat (first | apply Kd.R_alloc | apply Kd.R_drewN | apply Kd.R_drew)); exact HO_8.out) hb); have n2_ := Aside0.mk (blk_below (g := gb288) (o := .cells #[.slice (some ad296) l0_0.length c0_0, .slice A0_1 l0_1.length c0_1] 25 (0, 0)) (by (with_reducible repeat (first | refine blk_drewN ?_ _ | refine blk_drew ?_ | refine blk_alloc ?_ _)); exact BK288.out) hb); have n3_ := Aside0.mk (blk_below (g := gb289) (o := .cells #[.int .i64 x290000_1, .int .i64 x290001_1] 29 (0, 0)) (by (with_reducible repeat (first | refine blk_drewN ?_ _ | refine blk_drew ?_ | refine blk_alloc ?_ _)); exact BK289.out) hb); have n4_ := Aside0.mk (below_step (by repeat (first | (with_reducible first | exact HB.out | apply below_alloc | apply pw_below_drewN | apply below_drew1 | refine below_set ?_ GE288.out | refine below_set ?_ GE289.out) | exact HB.out)) hb); have n5_ := Aside0.mk (hbox); have n6_ := Aside0.mk ((by rw [hg]; exact (below_size (by repeat (first | (with_reducible first | exact HB.out | apply below_alloc | apply pw_below_drewN | apply below_drew1 | refine below_set ?_ GE288.out | refine below_set ?_ GE289.out) | exact HB.out))) : w.heap.size ≤ gb297)); have n7_ := Aside0.mk ((by rw [hg]; exact (below_size (by repeat (first | (with_reducible first | exact HB.out | apply below_alloc | apply pw_below_drewN | apply below_drew1 | refine below_set ?_ GE288.out | refine below_set ?_ GE289.out) | exact HB.out))) : w.heap.size ≤ gb297)); have n8_ := Aside0.mk ((by rw [hg]; exact Nat.ne_of_lt (blk_lt (g := gb288) (o := .cells #[.slice (some ad296) l0_0.length c0_0, .slice A0_1 l0_1.length c0_1] 25 (0, 0)) (by (with_reducible repeat (first | refine blk_drewN ?_ _ | refine blk_drew ?_ | refine blk_alloc ?_ _)); exact BK288.out)) : gb288 ≠ gb297)); have n9_ := Aside0.mk ((by rw [hg]; exact Nat.ne_of_gt (blk_lt (g := gb288) (o := .cells #[.slice (some ad296) l0_0.length c0_0, .slice A0_1 l0_1.length c0_1] 25 (0, 0)) (by (with_reducible repeat (first | refine blk_drewN ?_ _ | refine blk_drew ?_ | refine blk_alloc ?_ _)); exact BK288.out)) : gb297 ≠ gb288)); have n10_ := Aside0.mk ((by rw [hg]; exact Nat.ne_of_lt (blk_lt (g := gb289) (o := .cells #[.int .i64 x290000_1, .int .i64 x290001_1] 29 (0, 0)) (by (with_reducible repeat (first | refine blk_drewN ?_ _ | refine blk_drew ?_ | refine blk_alloc ?_ _)); exact BK289.out)) : gb289 ≠ gb297)); have n11_ := Aside0.mk ((by rw [hg]; exact Nat.ne_of_gt (blk_lt (g := gb289) (o := .cells #[.int .i64 x290000_1, .int .i64 x290001_1] 29 (0, 0)) (by (with_reducible repeat (first | refine blk_drewN ?_ _ | refine blk_drew ?_ | refine blk_alloc ?_ _)); exact BK289.out)) : gb297 ≠ gb289)); clear HO_7; clear HO_8; clear BK288; clear BK289; clear HB; have HO_7 := n0_; have HO_8 := n1_; have BK288 := n2_; have BK289 := n3_; have HB := n4_; have BK297 := n5_; have GW297 := n6_; have GE297 := n7_; have NB288_297 := n8_; have NB297_288 := n9_; have NB289_297 := n10_; have NB297_289 := n11_; clear n0_ n1_ n2_ n3_ n4_ n5_ n6_ n7_ n8_ n9_ n10_ n11_; clear hb hbox hg; have hnb21 := NB297_288.out; have hnc21 := NB288_297.out; have hnb22 := NB297_289.out; have hnc22 := NB289_297.out; have hcz23_0 : w20.cell? ⟨gb297, 0, none⟩ = some (.string (⟨#[]⟩ : ByteArray)) := (blk_cell BK297.out 0).trans rfl; have hcz23_1 : w20.cell? ⟨gb297, 1, none⟩ = some (.int .i64 0) := (blk_cell BK297.out 1).trans rfl; have hcz23_2 : w20.cell? ⟨gb297, 2, none⟩ = some (.int .i64 0) := (blk_cell BK297.out 2).trans rfl; have hcz23_3 : w20.cell? ⟨gb297, 3, none⟩ = some (.int .i64 0) := (blk_cell BK297.out 3).trans rfl; have hfz23_0 := blk_frozen BK297.out 0; have hfz23_1 := blk_frozen BK297.out 1; have hfz23_2 := blk_frozen BK297.out 2; have hfz23_3 := blk_frozen BK297.out 3))
          skip
          (try simp only [Act.put, List.setIfInBounds_toArray, List.set_cons_zero, List.set_cons_succ])
          go_cut [12] (fun v12 wc => ∃ (kq : Nat) (x12_18 : Int), v12 = .int .i64 x12_18 ∧ Aside0 (place_Assign.j1 kq l1 x7_1 x8_1 x9_1 x26_1 x12_18 l0_0 (l0_0.length : Int) x26_1 ((rd_T72 l0_0 x26_1).f0) ((rd_T72 l0_0 x26_1).f1) ((rd_T72 l0_0 x26_1).f2) ((rd_T72 l0_0 x26_1).f3) = some (r1, r2, r3, r4)) ∧ Aside0 (kq ≤ k1) ∧ Aside0 (Kd.R (Kd.int .i64) 3 wc w.heap.size (fun _ => True) v291 x7_1) ∧ Aside0 (Kd.R k80 80 wc w.heap.size (fun _ => True) v294 x8_1) ∧ Aside0 (wc.heap[gb288]? = some (.cells #[(.slice (some ad296) l0_0.length c0_0), (.slice A0_1 l0_1.length c0_1)] 25 (0, 0))) ∧ Aside0 (wc.heap[gb289]? = some (.cells #[.int .i64 x290000_1, .int .i64 x290001_1] 29 (0, 0))) ∧ Aside0 (wc.heap[gb297]? = some (.cells #[.string ((rd_T72 l0_0 x26_1).f0), .int .i64 ((rd_T72 l0_0 x26_1).f1), .int .i64 ((rd_T72 l0_0 x26_1).f2), .int .i64 ((rd_T72 l0_0 x26_1).f3)] 72 (0, 0))) ∧ Aside0 (Below w.heap.size w wc))
          case first =>
           have H := HC19.out
           clear HC19
           by_cases c24 : ((rd_T72 l0_0 x26_1).f1) < 0
           ·rw [if_pos c24] at H
            have c24b0 : decide (((rd_T72 l0_0 x26_1).f1) < 0) = true := decide_eq_true c24
            clear c24
            (first | rw [c24b0] | (simp only [i64_w, i32_w]; rw [c24b0]) | skip)
            replace H := Option.bind_eq_some_iff.mp H
            obtain ⟨t298, A250, H⟩ := H
            replace H : ((thread_Up.f t298 ((rd_T72 l0_0 x26_1).f2)).bind fun t299 => (place_Assign.j1 k1 l1 x7_1 x8_1 x9_1 x26_1 t299 l0_0 (l0_0.length : Int) x26_1 ((rd_T72 l0_0 x26_1).f0) ((rd_T72 l0_0 x26_1).f1) ((rd_T72 l0_0 x26_1).f2) ((rd_T72 l0_0 x26_1).f3))) = some (r1, r2, r3, r4) := H
            have A25 := Aside0.mk A250
            clear A250
            replace H := Option.bind_eq_some_iff.mp H
            obtain ⟨t299, A260, H⟩ := H
            replace H : (place_Assign.j1 k1 l1 x7_1 x8_1 x9_1 x26_1 t299 l0_0 (l0_0.length : Int) x26_1 ((rd_T72 l0_0 x26_1).f0) ((rd_T72 l0_0 x26_1).f1) ((rd_T72 l0_0 x26_1).f2) ((rd_T72 l0_0 x26_1).f3)) = some (r1, r2, r3, r4) := H
            have A26 := Aside0.mk A260
            clear A260
            have H' := Aside0.mk H
            clear H
            go_wp2_with (first | (go_at_call 43; (with_reducible refine (thread_Up.calls x9_1 256 t298 _ A25.out).mono ?_); rintro e w' ⟨rfl, ⟨nd, rfl⟩⟩; (try first | exact ⟨rfl, _, World.drewN_drewN _ _ _⟩ | exact ⟨rfl, _, Eq.trans (World.drewN_drewN _ _ _) (congrArg (World.drewN _) (Nat.add_assoc _ _ _))⟩); have hnb27 := NB297_288.out; have hnc27 := NB288_297.out; have hnb28 := NB297_289.out; have hnc28 := NB289_297.out; have hcz29_0 : w20.cell? ⟨gb297, 0, none⟩ = some (.string (⟨#[]⟩ : ByteArray)) := (blk_cell BK297.out 0).trans rfl; have hcz29_1 : w20.cell? ⟨gb297, 1, none⟩ = some (.int .i64 0) := (blk_cell BK297.out 1).trans rfl; have hcz29_2 : w20.cell? ⟨gb297, 2, none⟩ = some (.int .i64 0) := (blk_cell BK297.out 2).trans rfl; have hcz29_3 : w20.cell? ⟨gb297, 3, none⟩ = some (.int .i64 0) := (blk_cell BK297.out 3).trans rfl; have hfz29_0 := blk_frozen BK297.out 0; have hfz29_1 := blk_frozen BK297.out 1; have hfz29_2 := blk_frozen BK297.out 2; have hfz29_3 := blk_frozen BK297.out 3) | (go_at_call 43; (with_reducible refine (thread_Up.calls t298 ((rd_T72 l0_0 x26_1).f2) t299 _ A26.out).mono ?_); rintro e w' ⟨rfl, ⟨nd, rfl⟩⟩; (try first | exact ⟨rfl, _, World.drewN_drewN _ _ _⟩ | exact ⟨rfl, _, Eq.trans (World.drewN_drewN _ _ _) (congrArg (World.drewN _) (Nat.add_assoc _ _ _))⟩)))
            repeat (go_quiet (first | (go_at_call 43; (with_reducible refine (thread_Up.calls x9_1 256 t298 _ A25.out).mono ?_); rintro e w' ⟨rfl, ⟨nd, rfl⟩⟩; (try first | exact ⟨rfl, _, World.drewN_drewN _ _ _⟩ | exact ⟨rfl, _, Eq.trans (World.drewN_drewN _ _ _) (congrArg (World.drewN _) (Nat.add_assoc _ _ _))⟩); have hnb27 := NB297_288.out; have hnc27 := NB288_297.out; have hnb28 := NB297_289.out; have hnc28 := NB289_297.out; have hcz29_0 : w20.cell? ⟨gb297, 0, none⟩ = some (.string (⟨#[]⟩ : ByteArray)) := (blk_cell BK297.out 0).trans rfl; have hcz29_1 : w20.cell? ⟨gb297, 1, none⟩ = some (.int .i64 0) := (blk_cell BK297.out 1).trans rfl; have hcz29_2 : w20.cell? ⟨gb297, 2, none⟩ = some (.int .i64 0) := (blk_cell BK297.out 2).trans rfl; have hcz29_3 : w20.cell? ⟨gb297, 3, none⟩ = some (.int .i64 0) := (blk_cell BK297.out 3).trans rfl; have hfz29_0 := blk_frozen BK297.out 0; have hfz29_1 := blk_frozen BK297.out 1; have hfz29_2 := blk_frozen BK297.out 2; have hfz29_3 := blk_frozen BK297.out 3) | (go_at_call 43; (with_reducible refine (thread_Up.calls t298 ((rd_T72 l0_0 x26_1).f2) t299 _ A26.out).mono ?_); rintro e w' ⟨rfl, ⟨nd, rfl⟩⟩; (try first | exact ⟨rfl, _, World.drewN_drewN _ _ _⟩ | exact ⟨rfl, _, Eq.trans (World.drewN_drewN _ _ _) (congrArg (World.drewN _) (Nat.add_assoc _ _ _))⟩))); try go_wp2_with (first | (go_at_call 43; (with_reducible refine (thread_Up.calls x9_1 256 t298 _ A25.out).mono ?_); rintro e w' ⟨rfl, ⟨nd, rfl⟩⟩; (try first | exact ⟨rfl, _, World.drewN_drewN _ _ _⟩ | exact ⟨rfl, _, Eq.trans (World.drewN_drewN _ _ _) (congrArg (World.drewN _) (Nat.add_assoc _ _ _))⟩); have hnb27 := NB297_288.out; have hnc27 := NB288_297.out; have hnb28 := NB297_289.out; have hnc28 := NB289_297.out; have hcz29_0 : w20.cell? ⟨gb297, 0, none⟩ = some (.string (⟨#[]⟩ : ByteArray)) := (blk_cell BK297.out 0).trans rfl; have hcz29_1 : w20.cell? ⟨gb297, 1, none⟩ = some (.int .i64 0) := (blk_cell BK297.out 1).trans rfl; have hcz29_2 : w20.cell? ⟨gb297, 2, none⟩ = some (.int .i64 0) := (blk_cell BK297.out 2).trans rfl; have hcz29_3 : w20.cell? ⟨gb297, 3, none⟩ = some (.int .i64 0) := (blk_cell BK297.out 3).trans rfl; have hfz29_0 := blk_frozen BK297.out 0; have hfz29_1 := blk_frozen BK297.out 1; have hfz29_2 := blk_frozen BK297.out 2; have hfz29_3 := blk_frozen BK297.out 3) | (go_at_call 43; (with_reducible refine (thread_Up.calls t298 ((rd_T72 l0_0 x26_1).f2) t299 _ A26.out).mono ?_); rintro e w' ⟨rfl, ⟨nd, rfl⟩⟩; (try first | exact ⟨rfl, _, World.drewN_drewN _ _ _⟩ | exact ⟨rfl, _, Eq.trans (World.drewN_drewN _ _ _) (congrArg (World.drewN _) (Nat.add_assoc _ _ _))⟩))))
            go_meet
            case rel => exact ⟨_, (t299), (by first | rfl | (simp; done) | (simp [*]; done)), H', ⟨by have := HK1.out; first | omega | exact Nat.le_refl _⟩, ⟨by (with_reducible repeat (first | apply Kd.R_alloc | apply Kd.R_drewN | apply Kd.R_drew)); exact Kd.R_mono (Kd.R_far (p := ⟨gb297, 3, none⟩) (Kd.R_far (p := ⟨gb297, 2, none⟩) (Kd.R_far (p := ⟨gb297, 1, none⟩) (Kd.R_far (p := ⟨gb297, 0, none⟩) (Kd.R_types HO_7.out BK297.out (by decide)) (fun _ hk => hk.2) (.string ((rd_T72 l0_0 x26_1).f0))) (fun _ hk => hk.2) (.int .i64 ((rd_T72 l0_0 x26_1).f1))) (fun _ hk => hk.2) (.int .i64 ((rd_T72 l0_0 x26_1).f2))) (fun _ hk => hk.2) (.int .i64 ((rd_T72 l0_0 x26_1).f3))) (fun _ hk => trivial)⟩, ⟨by (with_reducible repeat (first | apply Kd.R_alloc | apply Kd.R_drewN | apply Kd.R_drew)); exact Kd.R_mono (Kd.R_far (p := ⟨gb297, 3, none⟩) (Kd.R_far (p := ⟨gb297, 2, none⟩) (Kd.R_far (p := ⟨gb297, 1, none⟩) (Kd.R_far (p := ⟨gb297, 0, none⟩) (Kd.R_types HO_8.out BK297.out (by decide)) (fun _ hk => hk.2) (.string ((rd_T72 l0_0 x26_1).f0))) (fun _ hk => hk.2) (.int .i64 ((rd_T72 l0_0 x26_1).f1))) (fun _ hk => hk.2) (.int .i64 ((rd_T72 l0_0 x26_1).f2))) (fun _ hk => hk.2) (.int .i64 ((rd_T72 l0_0 x26_1).f3))) (fun _ hk => trivial)⟩, ⟨by (with_reducible repeat (first | refine blk_drewN ?_ _ | refine blk_drew ?_ | refine blk_alloc ?_ _)); refine blk_far ?_ NB288_297.out _; (with_reducible repeat (first | refine blk_drewN ?_ _ | refine blk_drew ?_ | refine blk_alloc ?_ _)); refine blk_far ?_ NB288_297.out _; (with_reducible repeat (first | refine blk_drewN ?_ _ | refine blk_drew ?_ | refine blk_alloc ?_ _)); refine blk_far ?_ NB288_297.out _; (with_reducible repeat (first | refine blk_drewN ?_ _ | refine blk_drew ?_ | refine blk_alloc ?_ _)); refine blk_far ?_ NB288_297.out _; (with_reducible repeat (first | refine blk_drewN ?_ _ | refine blk_drew ?_ | refine blk_alloc ?_ _)); exact BK288.out⟩, ⟨by (with_reducible repeat (first | refine blk_drewN ?_ _ | refine blk_drew ?_ | refine blk_alloc ?_ _)); refine blk_far ?_ NB289_297.out _; (with_reducible repeat (first | refine blk_drewN ?_ _ | refine blk_drew ?_ | refine blk_alloc ?_ _)); refine blk_far ?_ NB289_297.out _; (with_reducible repeat (first | refine blk_drewN ?_ _ | refine blk_drew ?_ | refine blk_alloc ?_ _)); refine blk_far ?_ NB289_297.out _; (with_reducible repeat (first | refine blk_drewN ?_ _ | refine blk_drew ?_ | refine blk_alloc ?_ _)); refine blk_far ?_ NB289_297.out _; (with_reducible repeat (first | refine blk_drewN ?_ _ | refine blk_drew ?_ | refine blk_alloc ?_ _)); exact BK289.out⟩, ⟨by (with_reducible repeat (first | refine blk_drewN ?_ _ | refine blk_drew ?_ | refine blk_alloc ?_ _)); refine blk_put (cs := #[.string ((rd_T72 l0_0 x26_1).f0), .int .i64 ((rd_T72 l0_0 x26_1).f1), .int .i64 ((rd_T72 l0_0 x26_1).f2), .int .i64 0]) ?_ 3 _ rfl; (with_reducible repeat (first | refine blk_drewN ?_ _ | refine blk_drew ?_ | refine blk_alloc ?_ _)); refine blk_put (cs := #[.string ((rd_T72 l0_0 x26_1).f0), .int .i64 ((rd_T72 l0_0 x26_1).f1), .int .i64 0, .int .i64 0]) ?_ 2 _ rfl; (with_reducible repeat (first | refine blk_drewN ?_ _ | refine blk_drew ?_ | refine blk_alloc ?_ _)); refine blk_put (cs := #[.string ((rd_T72 l0_0 x26_1).f0), .int .i64 0, .int .i64 0, .int .i64 0]) ?_ 1 _ rfl; (with_reducible repeat (first | refine blk_drewN ?_ _ | refine blk_drew ?_ | refine blk_alloc ?_ _)); refine blk_put (cs := #[.string (⟨#[]⟩ : ByteArray), .int .i64 0, .int .i64 0, .int .i64 0]) ?_ 0 _ rfl; (with_reducible repeat (first | refine blk_drewN ?_ _ | refine blk_drew ?_ | refine blk_alloc ?_ _)); exact BK297.out⟩, ⟨by repeat (first | (with_reducible first | exact HB.out | apply below_alloc | apply pw_below_drewN | apply below_drew1 | refine below_set ?_ GE288.out | refine below_set ?_ GE289.out | refine below_set ?_ GE297.out) | exact HB.out)⟩⟩
           ·rw [if_neg c24] at H
            have c24b0 : decide (((rd_T72 l0_0 x26_1).f1) < 0) = false := decide_eq_false c24
            clear c24
            (first | rw [c24b0] | (simp only [i64_w, i32_w]; rw [c24b0]) | skip)
            have H' := Aside0.mk H
            clear H
            go_wp2
            repeat (go_quiet (fail); try go_wp2)
            go_meet
            case rel => exact ⟨_, ((rd_T72 l0_0 x26_1).f1), (by first | rfl | (simp; done) | (simp [*]; done)), H', ⟨by have := HK1.out; first | omega | exact Nat.le_refl _⟩, ⟨by (with_reducible repeat (first | apply Kd.R_alloc | apply Kd.R_drewN | apply Kd.R_drew)); exact Kd.R_mono (Kd.R_far (p := ⟨gb297, 3, none⟩) (Kd.R_far (p := ⟨gb297, 2, none⟩) (Kd.R_far (p := ⟨gb297, 1, none⟩) (Kd.R_far (p := ⟨gb297, 0, none⟩) (Kd.R_types HO_7.out BK297.out (by decide)) (fun _ hk => hk.2) (.string ((rd_T72 l0_0 x26_1).f0))) (fun _ hk => hk.2) (.int .i64 ((rd_T72 l0_0 x26_1).f1))) (fun _ hk => hk.2) (.int .i64 ((rd_T72 l0_0 x26_1).f2))) (fun _ hk => hk.2) (.int .i64 ((rd_T72 l0_0 x26_1).f3))) (fun _ hk => trivial)⟩, ⟨by (with_reducible repeat (first | apply Kd.R_alloc | apply Kd.R_drewN | apply Kd.R_drew)); exact Kd.R_mono (Kd.R_far (p := ⟨gb297, 3, none⟩) (Kd.R_far (p := ⟨gb297, 2, none⟩) (Kd.R_far (p := ⟨gb297, 1, none⟩) (Kd.R_far (p := ⟨gb297, 0, none⟩) (Kd.R_types HO_8.out BK297.out (by decide)) (fun _ hk => hk.2) (.string ((rd_T72 l0_0 x26_1).f0))) (fun _ hk => hk.2) (.int .i64 ((rd_T72 l0_0 x26_1).f1))) (fun _ hk => hk.2) (.int .i64 ((rd_T72 l0_0 x26_1).f2))) (fun _ hk => hk.2) (.int .i64 ((rd_T72 l0_0 x26_1).f3))) (fun _ hk => trivial)⟩, ⟨by (with_reducible repeat (first | refine blk_drewN ?_ _ | refine blk_drew ?_ | refine blk_alloc ?_ _)); refine blk_far ?_ NB288_297.out _; (with_reducible repeat (first | refine blk_drewN ?_ _ | refine blk_drew ?_ | refine blk_alloc ?_ _)); refine blk_far ?_ NB288_297.out _; (with_reducible repeat (first | refine blk_drewN ?_ _ | refine blk_drew ?_ | refine blk_alloc ?_ _)); refine blk_far ?_ NB288_297.out _; (with_reducible repeat (first | refine blk_drewN ?_ _ | refine blk_drew ?_ | refine blk_alloc ?_ _)); refine blk_far ?_ NB288_297.out _; (with_reducible repeat (first | refine blk_drewN ?_ _ | refine blk_drew ?_ | refine blk_alloc ?_ _)); exact BK288.out⟩, ⟨by (with_reducible repeat (first | refine blk_drewN ?_ _ | refine blk_drew ?_ | refine blk_alloc ?_ _)); refine blk_far ?_ NB289_297.out _; (with_reducible repeat (first | refine blk_drewN ?_ _ | refine blk_drew ?_ | refine blk_alloc ?_ _)); refine blk_far ?_ NB289_297.out _; (with_reducible repeat (first | refine blk_drewN ?_ _ | refine blk_drew ?_ | refine blk_alloc ?_ _)); refine blk_far ?_ NB289_297.out _; (with_reducible repeat (first | refine blk_drewN ?_ _ | refine blk_drew ?_ | refine blk_alloc ?_ _)); refine blk_far ?_ NB289_297.out _; (with_reducible repeat (first | refine blk_drewN ?_ _ | refine blk_drew ?_ | refine blk_alloc ?_ _)); exact BK289.out⟩, ⟨by (with_reducible repeat (first | refine blk_drewN ?_ _ | refine blk_drew ?_ | refine blk_alloc ?_ _)); refine blk_put (cs := #[.string ((rd_T72 l0_0 x26_1).f0), .int .i64 ((rd_T72 l0_0 x26_1).f1), .int .i64 ((rd_T72 l0_0 x26_1).f2), .int .i64 0]) ?_ 3 _ rfl; (with_reducible repeat (first | refine blk_drewN ?_ _ | refine blk_drew ?_ | refine blk_alloc ?_ _)); refine blk_put (cs := #[.string ((rd_T72 l0_0 x26_1).f0), .int .i64 ((rd_T72 l0_0 x26_1).f1), .int .i64 0, .int .i64 0]) ?_ 2 _ rfl; (with_reducible repeat (first | refine blk_drewN ?_ _ | refine blk_drew ?_ | refine blk_alloc ?_ _)); refine blk_put (cs := #[.string ((rd_T72 l0_0 x26_1).f0), .int .i64 0, .int .i64 0, .int .i64 0]) ?_ 1 _ rfl; (with_reducible repeat (first | refine blk_drewN ?_ _ | refine blk_drew ?_ | refine blk_alloc ?_ _)); refine blk_put (cs := #[.string (⟨#[]⟩ : ByteArray), .int .i64 0, .int .i64 0, .int .i64 0]) ?_ 0 _ rfl; (with_reducible repeat (first | refine blk_drewN ?_ _ | refine blk_drew ?_ | refine blk_alloc ?_ _)); exact BK297.out⟩, ⟨by repeat (first | (with_reducible first | exact HB.out | apply below_alloc | apply pw_below_drewN | apply below_drew1 | refine below_set ?_ GE288.out | refine below_set ?_ GE289.out | refine below_set ?_ GE297.out) | exact HB.out)⟩⟩
          case rest =>
           clear HC19
           try clear c1
           try clear c2
           try clear p2
           try clear q2
           try clear hx2
           try clear c3
           try clear c3b0
           try clear c3b1
           try clear c4
           try clear c4b0
           try clear c4b1
           try clear c5
           try clear c5b0
           try clear c5b1
           try clear c6
           try clear c6b0
           try clear c6b1
           try clear c11
           try clear c16
           try clear c16b0
           try clear c17
           try clear c17b0
           try clear c18
           try clear c18b0
           try clear c21
           try clear c22
           try clear c24
           try clear c24b0
           try clear c27
           try clear c28
           try clear p29
           try clear q29
           try clear hx29
           try clear hcz12_0
           try clear hcz12_1
           try clear hcz15_0
           try clear hcz15_1
           try clear hcz23_0
           try clear hcz23_1
           try clear hcz23_2
           try clear hcz23_3
           try clear hcz29_0
           try clear hcz29_1
           try clear hcz29_2
           try clear hcz29_3
           try clear hfz12_0
           try clear hfz12_1
           try clear hfz15_0
           try clear hfz15_1
           try clear hfz23_0
           try clear hfz23_1
           try clear hfz23_2
           try clear hfz23_3
           try clear hfz29_0
           try clear hfz29_1
           try clear hfz29_2
           try clear hfz29_3
           try clear hx296_0
           try clear hx296_1
           try clear hx296_2
           try clear hx296_3
           try clear p2
           try clear p296
           try clear q296
           obtain ⟨kq, x12_18, rfl, HA, HJ18, HO_7, HO_8, BK288, BK289, BK297, HB⟩ := hcut
           cases kq with
           | zero => exact absurd HA.out (by simp [place_Assign.j1])
           | succ kj18 =>
            have H := HA.out
            clear HA
            simp only [place_Assign.j1] at H
            have HC30 := Aside0.mk H
            clear H
            go_upto_region 10 with (fail)
            repeat (go_quiet (fail); go_upto_region 10 with (fail))
            go_cut [49] (fun v49 wc => ∃ (kq : Nat) (x49_29 : Bool), v49 = .bool x49_29 ∧ Aside0 (place_Assign.j2 kq l1 x7_1 x8_1 x26_1 x12_18 l0_0 (l0_0.length : Int) x26_1 x49_29 = some (r1, r2, r3, r4)) ∧ Aside0 (kq ≤ kj18) ∧ Aside0 (Kd.R (Kd.int .i64) 3 wc w.heap.size (fun _ => True) v291 x7_1) ∧ Aside0 (Kd.R k80 80 wc w.heap.size (fun _ => True) v294 x8_1) ∧ Aside0 (wc.heap[gb288]? = some (.cells #[(.slice (some ad296) l0_0.length c0_0), (.slice A0_1 l0_1.length c0_1)] 25 (0, 0))) ∧ Aside0 (wc.heap[gb289]? = some (.cells #[.int .i64 x290000_1, .int .i64 x290001_1] 29 (0, 0))) ∧ Aside0 (wc.heap[gb297]? = some (.cells #[.string ((rd_T72 l0_0 x26_1).f0), .int .i64 ((rd_T72 l0_0 x26_1).f1), .int .i64 ((rd_T72 l0_0 x26_1).f2), .int .i64 ((rd_T72 l0_0 x26_1).f3)] 72 (0, 0))) ∧ Aside0 (Below w.heap.size w wc))
            case first =>
             have H := HC30.out
             clear HC30
             by_cases c31 : x12_18 < x9_1
             ·rw [if_pos c31] at H
              have c31b0 : decide (x12_18 < x9_1) = true := decide_eq_true c31
              clear c31
              (first | rw [c31b0] | (simp only [i64_w, i32_w]; rw [c31b0]) | skip)
              have H' := Aside0.mk H
              clear H
              go_wp2
              repeat (go_quiet (fail); try go_wp2)
              go_meet
              case rel => exact ⟨_, (true), (by first | rfl | (simp; done) | (simp [*]; done)), H', ⟨by have := HK1.out; have := HJ18.out; first | omega | exact Nat.le_refl _⟩, ⟨by (with_reducible repeat (first | apply Kd.R_alloc | apply Kd.R_drewN | apply Kd.R_drew)); exact HO_7.out⟩, ⟨by (with_reducible repeat (first | apply Kd.R_alloc | apply Kd.R_drewN | apply Kd.R_drew)); exact HO_8.out⟩, ⟨by (with_reducible repeat (first | refine blk_drewN ?_ _ | refine blk_drew ?_ | refine blk_alloc ?_ _)); exact BK288.out⟩, ⟨by (with_reducible repeat (first | refine blk_drewN ?_ _ | refine blk_drew ?_ | refine blk_alloc ?_ _)); exact BK289.out⟩, ⟨by (with_reducible repeat (first | refine blk_drewN ?_ _ | refine blk_drew ?_ | refine blk_alloc ?_ _)); exact BK297.out⟩, ⟨by repeat (first | (with_reducible first | exact HB.out | apply below_alloc | apply pw_below_drewN | apply below_drew1 | refine below_set ?_ GE288.out | refine below_set ?_ GE289.out | refine below_set ?_ GE297.out) | exact HB.out)⟩⟩
             ·rw [if_neg c31] at H
              have c31b0 : decide (x12_18 < x9_1) = false := decide_eq_false c31
              clear c31
              (first | rw [c31b0] | (simp only [i64_w, i32_w]; rw [c31b0]) | skip)
              by_cases c32 : ((rd_T72 l0_0 x26_1).f2) = 0
              ·rw [if_pos c32] at H
               exact absurd H (by simp)
              ·rw [if_neg c32] at H
               have c32b0 : (((rd_T72 l0_0 x26_1).f2) == 0) = false := beq_eq_false_iff_ne.mpr c32
               have c32b1 : (((rd_T72 l0_0 x26_1).f2) != 0) = true := bne_iff_ne.mpr c32
               have H' := Aside0.mk H
               clear H
               have hnb33 := NB297_288.out
               have hnc33 := NB288_297.out
               have hnb34 := NB297_289.out
               have hnc34 := NB289_297.out
               have hcz35_0 : wc.cell? ⟨gb297, 0, none⟩ = some (.string ((rd_T72 l0_0 x26_1).f0)) := (blk_cell BK297.out 0).trans rfl
               have hcz35_1 : wc.cell? ⟨gb297, 1, none⟩ = some (.int .i64 ((rd_T72 l0_0 x26_1).f1)) := (blk_cell BK297.out 1).trans rfl
               have hcz35_2 : wc.cell? ⟨gb297, 2, none⟩ = some (.int .i64 ((rd_T72 l0_0 x26_1).f2)) := (blk_cell BK297.out 2).trans rfl
               have hcz35_3 : wc.cell? ⟨gb297, 3, none⟩ = some (.int .i64 ((rd_T72 l0_0 x26_1).f3)) := (blk_cell BK297.out 3).trans rfl
               have hfz35_0 := blk_frozen BK297.out 0
               have hfz35_1 := blk_frozen BK297.out 1
               have hfz35_2 := blk_frozen BK297.out 2
               have hfz35_3 := blk_frozen BK297.out 3
               go_wp2
               repeat (go_quiet (fail); try go_wp2)
               go_meet
               case rel => exact ⟨_, (((Int.tmod x12_18 ((rd_T72 l0_0 x26_1).f2)) != 0)), (by first | rfl | (simp; done) | (simp [*]; done)), H', ⟨by have := HK1.out; have := HJ18.out; first | omega | exact Nat.le_refl _⟩, ⟨by (with_reducible repeat (first | apply Kd.R_alloc | apply Kd.R_drewN | apply Kd.R_drew)); exact HO_7.out⟩, ⟨by (with_reducible repeat (first | apply Kd.R_alloc | apply Kd.R_drewN | apply Kd.R_drew)); exact HO_8.out⟩, ⟨by (with_reducible repeat (first | refine blk_drewN ?_ _ | refine blk_drew ?_ | refine blk_alloc ?_ _)); exact BK288.out⟩, ⟨by (with_reducible repeat (first | refine blk_drewN ?_ _ | refine blk_drew ?_ | refine blk_alloc ?_ _)); exact BK289.out⟩, ⟨by (with_reducible repeat (first | refine blk_drewN ?_ _ | refine blk_drew ?_ | refine blk_alloc ?_ _)); exact BK297.out⟩, ⟨by repeat (first | (with_reducible first | exact HB.out | apply below_alloc | apply pw_below_drewN | apply below_drew1 | refine below_set ?_ GE288.out | refine below_set ?_ GE289.out | refine below_set ?_ GE297.out) | exact HB.out)⟩⟩
            case rest =>
             clear HC30
             try clear c1
             try clear c2
             try clear p2
             try clear q2
             try clear hx2
             try clear c3
             try clear c3b0
             try clear c3b1
             try clear c4
             try clear c4b0
             try clear c4b1
             try clear c5
             try clear c5b0
             try clear c5b1
             try clear c6
             try clear c6b0
             try clear c6b1
             try clear c11
             try clear c16
             try clear c16b0
             try clear c17
             try clear c17b0
             try clear c18
             try clear c18b0
             try clear c21
             try clear c22
             try clear c24
             try clear c24b0
             try clear c27
             try clear c28
             try clear p29
             try clear q29
             try clear hx29
             try clear c31
             try clear c31b0
             try clear c32
             try clear c32b0
             try clear c32b1
             try clear c33
             try clear c34
             try clear hcz12_0
             try clear hcz12_1
             try clear hcz15_0
             try clear hcz15_1
             try clear hcz23_0
             try clear hcz23_1
             try clear hcz23_2
             try clear hcz23_3
             try clear hcz29_0
             try clear hcz29_1
             try clear hcz29_2
             try clear hcz29_3
             try clear hcz35_0
             try clear hcz35_1
             try clear hcz35_2
             try clear hcz35_3
             try clear hfz12_0
             try clear hfz12_1
             try clear hfz15_0
             try clear hfz15_1
             try clear hfz23_0
             try clear hfz23_1
             try clear hfz23_2
             try clear hfz23_3
             try clear hfz29_0
             try clear hfz29_1
             try clear hfz29_2
             try clear hfz29_3
             try clear hfz35_0
             try clear hfz35_1
             try clear hfz35_2
             try clear hfz35_3
             try clear hx296_0
             try clear hx296_1
             try clear hx296_2
             try clear hx296_3
             try clear p2
             try clear p29
             try clear p296
             try clear q2
             try clear q29
             try clear q296
             obtain ⟨kq, x49_29, rfl, HA, HJ29, HO_7, HO_8, BK288, BK289, BK297, HB⟩ := hcut
             cases kq with
             | zero => exact absurd HA.out (by simp [place_Assign.j2])
             | succ kj29 =>
              have H := HA.out
              clear HA
              simp only [place_Assign.j2] at H
              by_cases c36 : x49_29 = true
              ·subst c36
               have H1 : (some (([] : List Int), ([] : List (S80)), 13, x26_1)) = some (r1, r2, r3, r4) := by rw [if_pos rfl] at H; exact H
               clear H
               have H := H1
               clear H1
               simp only [Option.some.injEq, Prod.mk.injEq] at H
               obtain ⟨rfl, rfl, rfl, rfl⟩ := H
               have hnb37 := NB289_288.out
               have hnc37 := NB288_289.out
               have hnb38 := NB289_297.out
               have hnc38 := NB297_289.out
               have hcz39_0 : wc.cell? ⟨gb289, 0, none⟩ = some (.int .i64 x290000_1) := (blk_cell BK289.out 0).trans rfl
               have hcz39_1 : wc.cell? ⟨gb289, 1, none⟩ = some (.int .i64 x290001_1) := (blk_cell BK289.out 1).trans rfl
               have hfz39_0 := blk_frozen BK289.out 0
               have hfz39_1 := blk_frozen BK289.out 1
               go_wp2
               repeat (go_quiet (fail); try go_wp2)
               refine bodyPost_ret (results_list (rs := [.tmp 4, .tmp 5, .cell 6 29]) rfl (by simp) (.tmp (.tmp (.cell gb289 29 #[.int .i64 13, .int .i64 x26_1] (0, 0) _ rfl (by (with_reducible repeat (first | refine blk_drewN ?_ _ | refine blk_drew ?_ | refine blk_alloc ?_ _)); refine blk_put (cs := #[.int .i64 13, .int .i64 x290001_1]) ?_ 1 _ rfl; (with_reducible repeat (first | refine blk_drewN ?_ _ | refine blk_drew ?_ | refine blk_alloc ?_ _)); refine blk_put (cs := #[.int .i64 x290000_1, .int .i64 x290001_1]) ?_ 0 _ rfl; (with_reducible repeat (first | refine blk_drewN ?_ _ | refine blk_drew ?_ | refine blk_alloc ?_ _)); exact BK289.out) Try.underlying29 rfl (by kernel_rfl) .nil)))) rfl ?_
               exact ⟨_, _, by first | rfl | (simp [errW_none, errW_some] <;> rfl) | (simp [*, errW_none, errW_some] <;> rfl), by first | exact Kd.R_nil _ _ _ _ _ | exact Kd.N_nil _ _ _ _ _ | exact Kd.V_nil _ _ _ _ _ | exact Kd.Q_nil _ _ _ _ _ | exact Kd.S_nil _ _ _ _ _, by first | exact Kd.R_nil _ _ _ _ _ | exact Kd.N_nil _ _ _ _ _ | exact Kd.V_nil _ _ _ _ _ | exact Kd.Q_nil _ _ _ _ _ | exact Kd.S_nil _ _ _ _ _, by repeat (first | (with_reducible first | exact HB.out | apply below_alloc | apply pw_below_drewN | apply below_drew1 | refine below_set ?_ GE288.out | refine below_set ?_ GE289.out | refine below_set ?_ GE297.out) | exact HB.out)⟩
              ·replace c36 := Bool.eq_false_iff.mpr c36
               subst c36
               have H1 : (place_Assign.l1 kj29 l1 x7_1 x8_1 x26_1 x12_18 x12_18 l0_0 (l0_0.length : Int) x26_1 l1 (l1.length : Int) 0) = some (r1, r2, r3, r4) := by rw [if_neg (show ¬ (false = true) by decide)] at H; exact H
               clear H
               have H := H1
               clear H1
               have H' := Aside0.mk H
               clear H
               go_wp2
               repeat (go_quiet (fail); try go_wp2)
               go_loopg [13, 55] kj29 (fun kq v13 v55 w' => ∃ (x7_4 : List Int) (x13_4 : Int) (x55_4 : Int), v13 = .int .i64 x13_4 ∧ v55 = .int .i64 x55_4 ∧ Aside0 (place_Assign.l1 kq l1 x7_4 x8_1 x26_1 x12_18 x13_4 l0_0 (l0_0.length : Int) x26_1 l1 (l1.length : Int) x55_4 = some (r1, r2, r3, r4)) ∧ Aside0 (kq ≤ kj29) ∧ Aside0 (Kd.R (Kd.int .i64) 3 w' w.heap.size (fun _ => True) v291 x7_4) ∧ Aside0 (Kd.R k80 80 w' w.heap.size (fun _ => True) v294 x8_1) ∧ Aside0 (w'.heap[gb288]? = some (.cells #[(.slice (some ad296) l0_0.length c0_0), (.slice A0_1 l0_1.length c0_1)] 25 (0, 0))) ∧ Aside0 (w'.heap[gb289]? = some (.cells #[.int .i64 x290000_1, .int .i64 x290001_1] 29 (0, 0))) ∧ Aside0 (w'.heap[gb297]? = some (.cells #[.string ((rd_T72 l0_0 x26_1).f0), .int .i64 ((rd_T72 l0_0 x26_1).f1), .int .i64 ((rd_T72 l0_0 x26_1).f2), .int .i64 ((rd_T72 l0_0 x26_1).f3)] 72 (0, 0))) ∧ Aside0 (Below w.heap.size w w'))
               case atStart => exact ⟨(x7_1), (x12_18), (0), (by first | rfl | (simp; done) | (simp [*]; done)), (by first | rfl | (simp; done) | (simp [*]; done)), H', ⟨Nat.le_refl _⟩, ⟨by (with_reducible repeat (first | apply Kd.R_alloc | apply Kd.R_drewN | apply Kd.R_drew)); exact HO_7.out⟩, ⟨by (with_reducible repeat (first | apply Kd.R_alloc | apply Kd.R_drewN | apply Kd.R_drew)); exact HO_8.out⟩, ⟨by (with_reducible repeat (first | refine blk_drewN ?_ _ | refine blk_drew ?_ | refine blk_alloc ?_ _)); exact BK288.out⟩, ⟨by (with_reducible repeat (first | refine blk_drewN ?_ _ | refine blk_drew ?_ | refine blk_alloc ?_ _)); exact BK289.out⟩, ⟨by (with_reducible repeat (first | refine blk_drewN ?_ _ | refine blk_drew ?_ | refine blk_alloc ?_ _)); exact BK297.out⟩, ⟨by repeat (first | (with_reducible first | exact HB.out | apply below_alloc | apply pw_below_drewN | apply below_drew1 | refine below_set ?_ GE288.out | refine below_set ?_ GE289.out | refine below_set ?_ GE297.out) | exact HB.out)⟩⟩
               case round =>
                clear H'
                try clear c1
                try clear c2
                try clear p2
                try clear q2
                try clear hx2
                try clear c3
                try clear c3b0
                try clear c3b1
                try clear c4
                try clear c4b0
                try clear c4b1
                try clear c5
                try clear c5b0
                try clear c5b1
                try clear c6
                try clear c6b0
                try clear c6b1
                try clear c11
                try clear c16
                try clear c16b0
                try clear c17
                try clear c17b0
                try clear c18
                try clear c18b0
                try clear c21
                try clear c22
                try clear c24
                try clear c24b0
                try clear c27
                try clear c28
                try clear p29
                try clear q29
                try clear hx29
                try clear c31
                try clear c31b0
                try clear c32
                try clear c32b0
                try clear c32b1
                try clear c33
                try clear c34
                try clear c36
                try clear c37
                try clear c38
                try clear hcz12_0
                try clear hcz12_1
                try clear hcz15_0
                try clear hcz15_1
                try clear hcz23_0
                try clear hcz23_1
                try clear hcz23_2
                try clear hcz23_3
                try clear hcz29_0
                try clear hcz29_1
                try clear hcz29_2
                try clear hcz29_3
                try clear hcz35_0
                try clear hcz35_1
                try clear hcz35_2
                try clear hcz35_3
                try clear hcz39_0
                try clear hcz39_1
                try clear hfz12_0
                try clear hfz12_1
                try clear hfz15_0
                try clear hfz15_1
                try clear hfz23_0
                try clear hfz23_1
                try clear hfz23_2
                try clear hfz23_3
                try clear hfz29_0
                try clear hfz29_1
                try clear hfz29_2
                try clear hfz29_3
                try clear hfz35_0
                try clear hfz35_1
                try clear hfz35_2
                try clear hfz35_3
                try clear hfz39_0
                try clear hfz39_1
                try clear hx296_0
                try clear hx296_1
                try clear hx296_2
                try clear hx296_3
                try clear p2
                try clear p29
                try clear p296
                try clear q2
                try clear q29
                try clear q296
                obtain ⟨x7_4, x13_4, x55_4, rfl, rfl, HA, HK4, HO_7, HO_8, BK288, BK289, BK297, HB⟩ := hrel
                cases gk with
                | zero => exact absurd HA.out (by simp [place_Assign.l1])
                | succ k4 =>
                 have H := HA.out
                 clear HA
                 simp only [place_Assign.l1] at H
                 by_cases c40 : x55_4 < (l1.length : Int)
                 ·rw [if_pos c40] at H
                  have c40b0 : decide (x55_4 < (l1.length : Int)) = true := decide_eq_true c40
                  clear c40
                  by_cases c41 : 0 ≤ x55_4
                  ·rw [if_pos c41] at H
                   have c41b0 : decide (0 ≤ x55_4) = true := decide_eq_true c41
                   clear c41
                   by_cases c42 : x55_4 < (l1.length : Int)
                   ·rw [if_pos c42] at H
                    have c42b0 : decide (x55_4 < (l1.length : Int)) = true := decide_eq_true c42
                    clear c42
                    by_cases c43 : ((rd_T57 l1 x55_4).f0) = x26_1
                    ·rw [if_pos c43] at H
                     have c43b0 : (((rd_T57 l1 x55_4).f0) == x26_1) = true := beq_iff_eq.mpr c43
                     have c43b1 : (((rd_T57 l1 x55_4).f0) != x26_1) = false := bne_eq_false_iff_eq.mpr c43
                     clear c43
                     replace H := Option.bind_eq_some_iff.mp H
                     obtain ⟨t302, A440, H⟩ := H
                     replace H : (if x55_4 < (x7_4.length : Int) then ((some (x7_4.set (x55_4 : Int).toNat t302 : List Int)).bind fun y303 => (place_Assign.l1 k4 l1 y303 x8_1 x26_1 x12_18 (wrap64 ((rd y303 x55_4) + ((rd_T57 l1 x55_4).f1))) l0_0 (l0_0.length : Int) x26_1 l1 (l1.length : Int) (wrap64 (x55_4 + 1)))) else (none)) = some (r1, r2, r3, r4) := H
                     have A44 := Aside0.mk A440
                     clear A440
                     by_cases c45 : x55_4 < (x7_4.length : Int)
                     ·rw [if_pos c45] at H
                      have c45b0 : decide (x55_4 < (x7_4.length : Int)) = true := decide_eq_true c45
                      clear c45
                      obtain ⟨y303, hy303⟩ : ∃ y_ : List Int, y_ = (x7_4.set (x55_4 : Int).toNat t302) := ⟨_, rfl⟩
                      replace H : (place_Assign.l1 k4 l1 y303 x8_1 x26_1 x12_18 (wrap64 ((rd y303 x55_4) + ((rd_T57 l1 x55_4).f1))) l0_0 (l0_0.length : Int) x26_1 l1 (l1.length : Int) (wrap64 (x55_4 + 1))) = some (r1, r2, r3, r4) := by first | (rw [hy303]; with_reducible exact H) | (have H2_ := (Option.bind_some _ _).symm.trans H; rw [hy303]; with_reducible exact H2_) | (have H2_ := (Option.bind_some _ _).symm.trans H; with_reducible exact H2_) | with_reducible exact H | (rw [hy303]; exact H) | exact H
                      have Ny303 := Aside0.mk hy303
                      clear hy303
                      have H' := Aside0.mk H
                      clear H
                      have p300 : 0 ≤ (x55_4 : Int) := of_decide_eq_true (by first | (with_reducible assumption) | assumption)
                      have q300 : x55_4 < (l1.length : Int) := of_decide_eq_true (by first | (with_reducible assumption) | assumption)
                      obtain ⟨ad300, e300, hx300_0, hx300_1, hx300_2⟩ := at_T57 HR1.out x55_4 p300 q300
                      cases e300
                      replace hx300_0 := (HB.out.cell (World.block_lt_of_cell? w _ hx300_0)).trans hx300_0
                      replace hx300_1 := (HB.out.cell (World.block_lt_of_cell? w _ hx300_1)).trans hx300_1
                      replace hx300_2 := (HB.out.cell (World.block_lt_of_cell? w _ hx300_2)).trans hx300_2
                      replace p300 := eq_true p300
                      replace q300 := eq_true q300
                      go_wp2_with (first | ((with_reducible refine gate_dst (N := 15) rfl ?_); refine box_event ?hg (N := 15) ?hd (cs := #[.int .i64 0, .int .i64 0, .int .i64 0]) (t := 57) ?hr ?_; (case hd => rfl); (case hg => rfl); (case hr => first | (go_simp; done) | (go_simp; rfl)); intro gb301 hg w47 hbox hb; have n0_ := Aside0.mk (Kd.R_below (by (with_reducible repeat (first | apply Kd.R_alloc | apply Kd.R_drewN | apply Kd.R_drew)); exact HO_7.out) hb); have n1_ := Aside0.mk (Kd.R_below (by (with_reducible repeat (first | apply Kd.R_alloc | apply Kd.R_drewN | apply Kd.R_drew)); exact HO_8.out) hb); have n2_ := Aside0.mk (blk_below (g := gb288) (o := .cells #[.slice (some ad296) l0_0.length c0_0, .slice A0_1 l0_1.length c0_1] 25 (0, 0)) (by (with_reducible repeat (first | refine blk_drewN ?_ _ | refine blk_drew ?_ | refine blk_alloc ?_ _)); exact BK288.out) hb); have n3_ := Aside0.mk (blk_below (g := gb289) (o := .cells #[.int .i64 x290000_1, .int .i64 x290001_1] 29 (0, 0)) (by (with_reducible repeat (first | refine blk_drewN ?_ _ | refine blk_drew ?_ | refine blk_alloc ?_ _)); exact BK289.out) hb); have n4_ := Aside0.mk (blk_below (g := gb297) (o := .cells #[.string ((rd_T72 l0_0 x26_1).f0), .int .i64 ((rd_T72 l0_0 x26_1).f1), .int .i64 ((rd_T72 l0_0 x26_1).f2), .int .i64 ((rd_T72 l0_0 x26_1).f3)] 72 (0, 0)) (by (with_reducible repeat (first | refine blk_drewN ?_ _ | refine blk_drew ?_ | refine blk_alloc ?_ _)); exact BK297.out) hb); have n5_ := Aside0.mk (below_step (by repeat (first | (with_reducible first | exact HB.out | apply below_alloc | apply pw_below_drewN | apply below_drew1 | refine below_set ?_ GE288.out | refine below_set ?_ GE289.out | refine below_set ?_ GE297.out) | exact HB.out)) hb); have n6_ := Aside0.mk (hbox); have n7_ := Aside0.mk ((by rw [hg]; exact (below_size (by repeat (first | (with_reducible first | exact HB.out | apply below_alloc | apply pw_below_drewN | apply below_drew1 | refine below_set ?_ GE288.out | refine below_set ?_ GE289.out | refine below_set ?_ GE297.out) | exact HB.out))) : w.heap.size ≤ gb301)); have n8_ := Aside0.mk ((by rw [hg]; exact (below_size (by repeat (first | (with_reducible first | exact HB.out | apply below_alloc | apply pw_below_drewN | apply below_drew1 | refine below_set ?_ GE288.out | refine below_set ?_ GE289.out | refine below_set ?_ GE297.out) | exact HB.out))) : w.heap.size ≤ gb301)); have n9_ := Aside0.mk ((by rw [hg]; exact Nat.ne_of_lt (blk_lt (g := gb288) (o := .cells #[.slice (some ad296) l0_0.length c0_0, .slice A0_1 l0_1.length c0_1] 25 (0, 0)) (by (with_reducible repeat (first | refine blk_drewN ?_ _ | refine blk_drew ?_ | refine blk_alloc ?_ _)); exact BK288.out)) : gb288 ≠ gb301)); have n10_ := Aside0.mk ((by rw [hg]; exact Nat.ne_of_gt (blk_lt (g := gb288) (o := .cells #[.slice (some ad296) l0_0.length c0_0, .slice A0_1 l0_1.length c0_1] 25 (0, 0)) (by (with_reducible repeat (first | refine blk_drewN ?_ _ | refine blk_drew ?_ | refine blk_alloc ?_ _)); exact BK288.out)) : gb301 ≠ gb288)); have n11_ := Aside0.mk ((by rw [hg]; exact Nat.ne_of_lt (blk_lt (g := gb289) (o := .cells #[.int .i64 x290000_1, .int .i64 x290001_1] 29 (0, 0)) (by (with_reducible repeat (first | refine blk_drewN ?_ _ | refine blk_drew ?_ | refine blk_alloc ?_ _)); exact BK289.out)) : gb289 ≠ gb301)); have n12_ := Aside0.mk ((by rw [hg]; exact Nat.ne_of_gt (blk_lt (g := gb289) (o := .cells #[.int .i64 x290000_1, .int .i64 x290001_1] 29 (0, 0)) (by (with_reducible repeat (first | refine blk_drewN ?_ _ | refine blk_drew ?_ | refine blk_alloc ?_ _)); exact BK289.out)) : gb301 ≠ gb289)); have n13_ := Aside0.mk ((by rw [hg]; exact Nat.ne_of_lt (blk_lt (g := gb297) (o := .cells #[.string ((rd_T72 l0_0 x26_1).f0), .int .i64 ((rd_T72 l0_0 x26_1).f1), .int .i64 ((rd_T72 l0_0 x26_1).f2), .int .i64 ((rd_T72 l0_0 x26_1).f3)] 72 (0, 0)) (by (with_reducible repeat (first | refine blk_drewN ?_ _ | refine blk_drew ?_ | refine blk_alloc ?_ _)); exact BK297.out)) : gb297 ≠ gb301)); have n14_ := Aside0.mk ((by rw [hg]; exact Nat.ne_of_gt (blk_lt (g := gb297) (o := .cells #[.string ((rd_T72 l0_0 x26_1).f0), .int .i64 ((rd_T72 l0_0 x26_1).f1), .int .i64 ((rd_T72 l0_0 x26_1).f2), .int .i64 ((rd_T72 l0_0 x26_1).f3)] 72 (0, 0)) (by (with_reducible repeat (first | refine blk_drewN ?_ _ | refine blk_drew ?_ | refine blk_alloc ?_ _)); exact BK297.out)) : gb301 ≠ gb297)); clear HO_7; clear HO_8; clear BK288; clear BK289; clear BK297; clear HB; have HO_7 := n0_; have HO_8 := n1_; have BK288 := n2_; have BK289 := n3_; have BK297 := n4_; have HB := n5_; have BK301 := n6_; have GW301 := n7_; have GE301 := n8_; have NB288_301 := n9_; have NB301_288 := n10_; have NB289_301 := n11_; have NB301_289 := n12_; have NB297_301 := n13_; have NB301_297 := n14_; clear n0_ n1_ n2_ n3_ n4_ n5_ n6_ n7_ n8_ n9_ n10_ n11_ n12_ n13_ n14_; clear hb hbox hg; have hnb48 := NB301_288.out; have hnc48 := NB288_301.out; have hnb49 := NB301_289.out; have hnc49 := NB289_301.out; have hnb50 := NB301_297.out; have hnc50 := NB297_301.out; have hcz51_0 : w47.cell? ⟨gb301, 0, none⟩ = some (.int .i64 0) := (blk_cell BK301.out 0).trans rfl; have hcz51_1 : w47.cell? ⟨gb301, 1, none⟩ = some (.int .i64 0) := (blk_cell BK301.out 1).trans rfl; have hcz51_2 : w47.cell? ⟨gb301, 2, none⟩ = some (.int .i64 0) := (blk_cell BK301.out 2).trans rfl; have hfz51_0 := blk_frozen BK301.out 0; have hfz51_1 := blk_frozen BK301.out 1; have hfz51_2 := blk_frozen BK301.out 2) | ((with_reducible refine gate_store (t := 57) (p := 15) rfl ?_); (try (rw [drewN_self w47]; generalize hq_ : World.drewN w47 _ = w47; have n0_ := Aside0.mk (Kd.R_at hq_ HO_7.out); have n1_ := Aside0.mk (Kd.R_at hq_ HO_8.out); have n2_ := Aside0.mk (blk_at hq_ BK288.out); have n3_ := Aside0.mk (blk_at hq_ BK289.out); have n4_ := Aside0.mk (blk_at hq_ BK297.out); have n5_ := Aside0.mk (blk_at hq_ BK301.out); have n6_ := Aside0.mk (below_at hq_ HB.out); clear hq_ HO_7 HO_8 BK288 BK289 BK297 BK301 HB; have HO_7 := n0_; have HO_8 := n1_; have BK288 := n2_; have BK289 := n3_; have BK297 := n4_; have BK301 := n5_; have HB := n6_; clear n0_ n1_ n2_ n3_ n4_ n5_ n6_)); refine store_event (t := 57) (p := 15) (v := ?vo_w52) (w1 := (((w47.setCell ⟨gb301, 0, none⟩ (.int .i64 ((rd_T57 l1 x55_4).f0))).setCell ⟨gb301, 1, none⟩ (.int .i64 ((rd_T57 l1 x55_4).f1))).setCell ⟨gb301, 2, none⟩ (.int .i64 ((rd_T57 l1 x55_4).f2)))) ?hg ?ho ?hn ?hr ?_; (case ho => rfl); (case hg => rfl); (case hn => rfl); (case hr => first | (go_simp; done) | (go_simp; rfl)); intro w52 hw; have n0_ : Aside0 (Kd.R (Kd.int .i64) 3 w52 w.heap.size (fun _ => True) v291 x7_4) := ⟨(by rw [hw]; exact (by (with_reducible repeat (first | apply Kd.R_alloc | apply Kd.R_drewN | apply Kd.R_drew)); exact Kd.R_mono (Kd.R_far (p := ⟨gb301, 2, none⟩) (Kd.R_far (p := ⟨gb301, 1, none⟩) (Kd.R_far (p := ⟨gb301, 0, none⟩) (Kd.R_types HO_7.out BK301.out (by decide)) (fun _ hk => hk.2) (.int .i64 ((rd_T57 l1 x55_4).f0))) (fun _ hk => hk.2) (.int .i64 ((rd_T57 l1 x55_4).f1))) (fun _ hk => hk.2) (.int .i64 ((rd_T57 l1 x55_4).f2))) (fun _ hk => trivial)))⟩; have n1_ : Aside0 (Kd.R k80 80 w52 w.heap.size (fun _ => True) v294 x8_1) := ⟨(by rw [hw]; exact (by (with_reducible repeat (first | apply Kd.R_alloc | apply Kd.R_drewN | apply Kd.R_drew)); exact Kd.R_mono (Kd.R_far (p := ⟨gb301, 2, none⟩) (Kd.R_far (p := ⟨gb301, 1, none⟩) (Kd.R_far (p := ⟨gb301, 0, none⟩) (Kd.R_types HO_8.out BK301.out (by decide)) (fun _ hk => hk.2) (.int .i64 ((rd_T57 l1 x55_4).f0))) (fun _ hk => hk.2) (.int .i64 ((rd_T57 l1 x55_4).f1))) (fun _ hk => hk.2) (.int .i64 ((rd_T57 l1 x55_4).f2))) (fun _ hk => trivial)))⟩; have n2_ : Aside0 (w52.heap[gb288]? = some (.cells #[.slice (some ad296) l0_0.length c0_0, .slice A0_1 l0_1.length c0_1] 25 (0, 0))) := ⟨(by rw [hw]; exact (by (with_reducible repeat (first | refine blk_drewN ?_ _ | refine blk_drew ?_ | refine blk_alloc ?_ _)); refine blk_far ?_ NB288_301.out _; (with_reducible repeat (first | refine blk_drewN ?_ _ | refine blk_drew ?_ | refine blk_alloc ?_ _)); refine blk_far ?_ NB288_301.out _; (with_reducible repeat (first | refine blk_drewN ?_ _ | refine blk_drew ?_ | refine blk_alloc ?_ _)); refine blk_far ?_ NB288_301.out _; (with_reducible repeat (first | refine blk_drewN ?_ _ | refine blk_drew ?_ | refine blk_alloc ?_ _)); exact BK288.out))⟩; have n3_ : Aside0 (w52.heap[gb289]? = some (.cells #[.int .i64 x290000_1, .int .i64 x290001_1] 29 (0, 0))) := ⟨(by rw [hw]; exact (by (with_reducible repeat (first | refine blk_drewN ?_ _ | refine blk_drew ?_ | refine blk_alloc ?_ _)); refine blk_far ?_ NB289_301.out _; (with_reducible repeat (first | refine blk_drewN ?_ _ | refine blk_drew ?_ | refine blk_alloc ?_ _)); refine blk_far ?_ NB289_301.out _; (with_reducible repeat (first | refine blk_drewN ?_ _ | refine blk_drew ?_ | refine blk_alloc ?_ _)); refine blk_far ?_ NB289_301.out _; (with_reducible repeat (first | refine blk_drewN ?_ _ | refine blk_drew ?_ | refine blk_alloc ?_ _)); exact BK289.out))⟩; have n4_ : Aside0 (w52.heap[gb297]? = some (.cells #[.string ((rd_T72 l0_0 x26_1).f0), .int .i64 ((rd_T72 l0_0 x26_1).f1), .int .i64 ((rd_T72 l0_0 x26_1).f2), .int .i64 ((rd_T72 l0_0 x26_1).f3)] 72 (0, 0))) := ⟨(by rw [hw]; exact (by (with_reducible repeat (first | refine blk_drewN ?_ _ | refine blk_drew ?_ | refine blk_alloc ?_ _)); refine blk_far ?_ NB297_301.out _; (with_reducible repeat (first | refine blk_drewN ?_ _ | refine blk_drew ?_ | refine blk_alloc ?_ _)); refine blk_far ?_ NB297_301.out _; (with_reducible repeat (first | refine blk_drewN ?_ _ | refine blk_drew ?_ | refine blk_alloc ?_ _)); refine blk_far ?_ NB297_301.out _; (with_reducible repeat (first | refine blk_drewN ?_ _ | refine blk_drew ?_ | refine blk_alloc ?_ _)); exact BK297.out))⟩; have n5_ : Aside0 (w52.heap[gb301]? = some (.cells #[.int .i64 ((rd_T57 l1 x55_4).f0), .int .i64 ((rd_T57 l1 x55_4).f1), .int .i64 ((rd_T57 l1 x55_4).f2)] 57 (0, 0))) := ⟨(by rw [hw]; exact (by (with_reducible repeat (first | refine blk_drewN ?_ _ | refine blk_drew ?_ | refine blk_alloc ?_ _)); refine blk_put (cs := #[.int .i64 ((rd_T57 l1 x55_4).f0), .int .i64 ((rd_T57 l1 x55_4).f1), .int .i64 0]) ?_ 2 _ rfl; (with_reducible repeat (first | refine blk_drewN ?_ _ | refine blk_drew ?_ | refine blk_alloc ?_ _)); refine blk_put (cs := #[.int .i64 ((rd_T57 l1 x55_4).f0), .int .i64 0, .int .i64 0]) ?_ 1 _ rfl; (with_reducible repeat (first | refine blk_drewN ?_ _ | refine blk_drew ?_ | refine blk_alloc ?_ _)); refine blk_put (cs := #[.int .i64 0, .int .i64 0, .int .i64 0]) ?_ 0 _ rfl; (with_reducible repeat (first | refine blk_drewN ?_ _ | refine blk_drew ?_ | refine blk_alloc ?_ _)); exact BK301.out))⟩; have n6_ : Aside0 (Below w.heap.size w w52) := ⟨(by rw [hw]; exact (by repeat (first | (with_reducible first | exact HB.out | apply below_alloc | apply pw_below_drewN | apply below_drew1 | refine below_set ?_ GE288.out | refine below_set ?_ GE289.out | refine below_set ?_ GE297.out | refine below_set ?_ GE301.out) | exact HB.out)))⟩; clear hw; clear HO_7; clear HO_8; clear BK288; clear BK289; clear BK297; clear BK301; clear HB; have HO_7 := n0_; have HO_8 := n1_; have BK288 := n2_; have BK289 := n3_; have BK297 := n4_; have BK301 := n5_; have HB := n6_; clear n0_ n1_ n2_ n3_ n4_ n5_ n6_; have hcz53_0 : w52.cell? ⟨gb301, 0, none⟩ = some (.int .i64 ((rd_T57 l1 x55_4).f0)) := (blk_cell BK301.out 0).trans rfl; have hcz53_1 : w52.cell? ⟨gb301, 1, none⟩ = some (.int .i64 ((rd_T57 l1 x55_4).f1)) := (blk_cell BK301.out 1).trans rfl; have hcz53_2 : w52.cell? ⟨gb301, 2, none⟩ = some (.int .i64 ((rd_T57 l1 x55_4).f2)) := (blk_cell BK301.out 2).trans rfl; have hfz53_0 := blk_frozen BK301.out 0; have hfz53_1 := blk_frozen BK301.out 1; have hfz53_2 := blk_frozen BK301.out 2) | (go_at_call 43; (with_reducible refine (thread_Up.calls x13_4 ((rd_T57 l1 x55_4).f2) t302 _ A44.out).mono ?_); rintro e w' ⟨rfl, ⟨nd, rfl⟩⟩; (try first | exact ⟨rfl, _, World.drewN_drewN _ _ _⟩ | exact ⟨rfl, _, Eq.trans (World.drewN_drewN _ _ _) (congrArg (World.drewN _) (Nat.add_assoc _ _ _))⟩); have p46 : 0 ≤ (x55_4 : Int) := of_decide_eq_true (by first | (with_reducible assumption) | assumption); have q46 : (x55_4 : Int) < ((x7_4.length : Int) : Int) := of_decide_eq_true (by first | (with_reducible assumption) | assumption); obtain ⟨go46, co46, eo46, gb46, gl46, cl46, HG46⟩ := Kd.R_form HO_7.out (by omega); (first | cases eo46 | (injection eo46 with ea_ en_ ec_; (first | subst ea_ | (injection ea_ with ea_; subst ea_)); subst ec_; clear en_)); have GB46 := Aside0.mk gb46; have GG46 := Aside0.mk HG46; clear gb46 gl46 HG46; obtain ⟨hx46_0, hf46_0⟩ := Kd.R_celln 0 HO_7.out (x55_4 : Int) p46 q46; replace p46 := eq_true p46; replace q46 := eq_true q46; obtain ⟨hy54_, hz54_⟩ := Kd.R_celln 0 HO_7.out (x55_4 : Int) (of_decide_eq_true (by first | (with_reducible assumption) | assumption)) (of_decide_eq_true (by first | (with_reducible assumption) | assumption)); have HP54 := Kd.R_putg HO_7.out (x55_4 : Int) t302) | ((with_reducible refine gate_store (t := 3) (p := 70) rfl ?_); (try (rw [drewN_self w52]; generalize hq_ : World.drewN w52 _ = w52; have n0_ := Aside0.mk (Kd.R_at hq_ HO_7.out); have n1_ := Aside0.mk (Kd.R_at hq_ HO_8.out); have n2_ := Aside0.mk (blk_at hq_ BK288.out); have n3_ := Aside0.mk (blk_at hq_ BK289.out); have n4_ := Aside0.mk (blk_at hq_ BK297.out); have n5_ := Aside0.mk (blk_at hq_ BK301.out); have n6_ := Aside0.mk (below_at hq_ HB.out); clear hq_ HO_7 HO_8 BK288 BK289 BK297 BK301 HB; have HO_7 := n0_; have HO_8 := n1_; have BK288 := n2_; have BK289 := n3_; have BK297 := n4_; have BK301 := n5_; have HB := n6_; clear n0_ n1_ n2_ n3_ n4_ n5_ n6_; (try (obtain ⟨hy54_, hz54_⟩ := Kd.R_celln 0 HO_7.out (x55_4 : Int) (of_decide_eq_true (by first | (with_reducible assumption) | assumption)) (of_decide_eq_true (by first | (with_reducible assumption) | assumption)))); (try (have HP54 := Kd.R_putg HO_7.out (x55_4 : Int) t302)))); refine store_event (t := 3) (p := 70) (v := ?vo_w55) (w1 := (w52.setCell ⟨go46, (x55_4 : Int).toNat, none⟩ (.int .i64 t302))) ?hg ?ho ?hn ?hr ?_; (case ho => rfl); (case hg => rfl); (case hn => rfl); (case hr => first | (go_simp; done) | (go_simp; rfl)); intro w55 hw; have hg : w52.grownBy w55 (some go46) := (by rw [hw]; exact HP54.2); have hp_ : Kd.R (Kd.int .i64) 3 w55 w.heap.size (fun _ => True) (.slice (some ⟨go46, 0, none⟩) x7_4.length co46) y303 := (by rw [hw, Ny303.out]; exact HP54.1); clear HP54; have n0_ := Aside0.mk (hp_); have n1_ := Aside0.mk (Kd.R_over' (v := (.slice (some ⟨go46, 0, none⟩) x7_4.length co46)) (by (with_reducible repeat (first | apply Kd.R_alloc | apply Kd.R_drewN | apply Kd.R_drew)); exact HO_8.out) (Kd.R_typed HO_7.out) (by decide) hg); have n2_ := Aside0.mk (blk_grown (g := gb288) (o := .cells #[.slice (some ad296) l0_0.length c0_0, .slice A0_1 l0_1.length c0_1] 25 (0, 0)) (by (with_reducible repeat (first | refine blk_drewN ?_ _ | refine blk_drew ?_ | refine blk_alloc ?_ _)); exact BK288.out) hg (Kd.R_ne HO_7.out BK288.out (by decide))); have n3_ := Aside0.mk (blk_grown (g := gb289) (o := .cells #[.int .i64 x290000_1, .int .i64 x290001_1] 29 (0, 0)) (by (with_reducible repeat (first | refine blk_drewN ?_ _ | refine blk_drew ?_ | refine blk_alloc ?_ _)); exact BK289.out) hg (Kd.R_ne HO_7.out BK289.out (by decide))); have n4_ := Aside0.mk (blk_grown (g := gb297) (o := .cells #[.string ((rd_T72 l0_0 x26_1).f0), .int .i64 ((rd_T72 l0_0 x26_1).f1), .int .i64 ((rd_T72 l0_0 x26_1).f2), .int .i64 ((rd_T72 l0_0 x26_1).f3)] 72 (0, 0)) (by (with_reducible repeat (first | refine blk_drewN ?_ _ | refine blk_drew ?_ | refine blk_alloc ?_ _)); exact BK297.out) hg (Kd.R_ne HO_7.out BK297.out (by decide))); have n5_ := Aside0.mk (blk_grown (g := gb301) (o := .cells #[.int .i64 ((rd_T57 l1 x55_4).f0), .int .i64 ((rd_T57 l1 x55_4).f1), .int .i64 ((rd_T57 l1 x55_4).f2)] 57 (0, 0)) (by (with_reducible repeat (first | refine blk_drewN ?_ _ | refine blk_drew ?_ | refine blk_alloc ?_ _)); exact BK301.out) hg (Kd.R_ne HO_7.out BK301.out (by decide))); have n6_ := Aside0.mk ((by rw [hw]; exact below_set (HB.out) GB46.out : Below w.heap.size w w55)); clear HO_7; clear HO_8; clear BK288; clear BK289; clear BK297; clear BK301; clear HB; have HO_7 := n0_; have HO_8 := n1_; have BK288 := n2_; have BK289 := n3_; have BK297 := n4_; have BK301 := n5_; have HB := n6_; clear n0_ n1_ n2_ n3_ n4_ n5_ n6_; clear hg hw hp_; have p304 : 0 ≤ (x55_4 : Int) := of_decide_eq_true (by first | (with_reducible assumption) | assumption); have q304 : x55_4 < (y303.length : Int) := (by have h_ : (x55_4 : Int) < ((x7_4.length : Int) : Int) := of_decide_eq_true (by first | (with_reducible assumption) | assumption); first | (have e_ := (Kd.R_reads' HO_7.out).1; omega) | simpa only [Ny303.out, List.length_set] using h_); have ql304 : ((x55_4 : Int) < ((x7_4.length : Int) : Int)) = True := eq_true (of_decide_eq_true (by first | (with_reducible assumption) | assumption)); obtain ⟨ad304, e304, hx304_0⟩ := Kd.at_int (Kd.R_reads' HO_7.out).2.2 x55_4 p304 q304; obtain rfl : (⟨go46, 0, none⟩ : Addr) = ad304 := (by injection e304); (first | simp only [add_plain] at hx304_0 | simp only [add_at] at hx304_0 | simp only [Addr.add, Nat.zero_add] at hx304_0 | skip); replace p304 := eq_true p304; replace q304 := eq_true q304; have hcz56_0 : w55.cell? ⟨gb301, 0, none⟩ = some (.int .i64 ((rd_T57 l1 x55_4).f0)) := (blk_cell BK301.out 0).trans rfl; have hcz56_1 : w55.cell? ⟨gb301, 1, none⟩ = some (.int .i64 ((rd_T57 l1 x55_4).f1)) := (blk_cell BK301.out 1).trans rfl; have hcz56_2 : w55.cell? ⟨gb301, 2, none⟩ = some (.int .i64 ((rd_T57 l1 x55_4).f2)) := (blk_cell BK301.out 2).trans rfl; have hfz56_0 := blk_frozen BK301.out 0; have hfz56_1 := blk_frozen BK301.out 1; have hfz56_2 := blk_frozen BK301.out 2))
                      repeat (go_quiet (first | ((with_reducible refine gate_dst (N := 15) rfl ?_); refine box_event ?hg (N := 15) ?hd (cs := #[.int .i64 0, .int .i64 0, .int .i64 0]) (t := 57) ?hr ?_; (case hd => rfl); (case hg => rfl); (case hr => first | (go_simp; done) | (go_simp; rfl)); intro gb301 hg w47 hbox hb; have n0_ := Aside0.mk (Kd.R_below (by (with_reducible repeat (first | apply Kd.R_alloc | apply Kd.R_drewN | apply Kd.R_drew)); exact HO_7.out) hb); have n1_ := Aside0.mk (Kd.R_below (by (with_reducible repeat (first | apply Kd.R_alloc | apply Kd.R_drewN | apply Kd.R_drew)); exact HO_8.out) hb); have n2_ := Aside0.mk (blk_below (g := gb288) (o := .cells #[.slice (some ad296) l0_0.length c0_0, .slice A0_1 l0_1.length c0_1] 25 (0, 0)) (by (with_reducible repeat (first | refine blk_drewN ?_ _ | refine blk_drew ?_ | refine blk_alloc ?_ _)); exact BK288.out) hb); have n3_ := Aside0.mk (blk_below (g := gb289) (o := .cells #[.int .i64 x290000_1, .int .i64 x290001_1] 29 (0, 0)) (by (with_reducible repeat (first | refine blk_drewN ?_ _ | refine blk_drew ?_ | refine blk_alloc ?_ _)); exact BK289.out) hb); have n4_ := Aside0.mk (blk_below (g := gb297) (o := .cells #[.string ((rd_T72 l0_0 x26_1).f0), .int .i64 ((rd_T72 l0_0 x26_1).f1), .int .i64 ((rd_T72 l0_0 x26_1).f2), .int .i64 ((rd_T72 l0_0 x26_1).f3)] 72 (0, 0)) (by (with_reducible repeat (first | refine blk_drewN ?_ _ | refine blk_drew ?_ | refine blk_alloc ?_ _)); exact BK297.out) hb); have n5_ := Aside0.mk (below_step (by repeat (first | (with_reducible first | exact HB.out | apply below_alloc | apply pw_below_drewN | apply below_drew1 | refine below_set ?_ GE288.out | refine below_set ?_ GE289.out | refine below_set ?_ GE297.out) | exact HB.out)) hb); have n6_ := Aside0.mk (hbox); have n7_ := Aside0.mk ((by rw [hg]; exact (below_size (by repeat (first | (with_reducible first | exact HB.out | apply below_alloc | apply pw_below_drewN | apply below_drew1 | refine below_set ?_ GE288.out | refine below_set ?_ GE289.out | refine below_set ?_ GE297.out) | exact HB.out))) : w.heap.size ≤ gb301)); have n8_ := Aside0.mk ((by rw [hg]; exact (below_size (by repeat (first | (with_reducible first | exact HB.out | apply below_alloc | apply pw_below_drewN | apply below_drew1 | refine below_set ?_ GE288.out | refine below_set ?_ GE289.out | refine below_set ?_ GE297.out) | exact HB.out))) : w.heap.size ≤ gb301)); have n9_ := Aside0.mk ((by rw [hg]; exact Nat.ne_of_lt (blk_lt (g := gb288) (o := .cells #[.slice (some ad296) l0_0.length c0_0, .slice A0_1 l0_1.length c0_1] 25 (0, 0)) (by (with_reducible repeat (first | refine blk_drewN ?_ _ | refine blk_drew ?_ | refine blk_alloc ?_ _)); exact BK288.out)) : gb288 ≠ gb301)); have n10_ := Aside0.mk ((by rw [hg]; exact Nat.ne_of_gt (blk_lt (g := gb288) (o := .cells #[.slice (some ad296) l0_0.length c0_0, .slice A0_1 l0_1.length c0_1] 25 (0, 0)) (by (with_reducible repeat (first | refine blk_drewN ?_ _ | refine blk_drew ?_ | refine blk_alloc ?_ _)); exact BK288.out)) : gb301 ≠ gb288)); have n11_ := Aside0.mk ((by rw [hg]; exact Nat.ne_of_lt (blk_lt (g := gb289) (o := .cells #[.int .i64 x290000_1, .int .i64 x290001_1] 29 (0, 0)) (by (with_reducible repeat (first | refine blk_drewN ?_ _ | refine blk_drew ?_ | refine blk_alloc ?_ _)); exact BK289.out)) : gb289 ≠ gb301)); have n12_ := Aside0.mk ((by rw [hg]; exact Nat.ne_of_gt (blk_lt (g := gb289) (o := .cells #[.int .i64 x290000_1, .int .i64 x290001_1] 29 (0, 0)) (by (with_reducible repeat (first | refine blk_drewN ?_ _ | refine blk_drew ?_ | refine blk_alloc ?_ _)); exact BK289.out)) : gb301 ≠ gb289)); have n13_ := Aside0.mk ((by rw [hg]; exact Nat.ne_of_lt (blk_lt (g := gb297) (o := .cells #[.string ((rd_T72 l0_0 x26_1).f0), .int .i64 ((rd_T72 l0_0 x26_1).f1), .int .i64 ((rd_T72 l0_0 x26_1).f2), .int .i64 ((rd_T72 l0_0 x26_1).f3)] 72 (0, 0)) (by (with_reducible repeat (first | refine blk_drewN ?_ _ | refine blk_drew ?_ | refine blk_alloc ?_ _)); exact BK297.out)) : gb297 ≠ gb301)); have n14_ := Aside0.mk ((by rw [hg]; exact Nat.ne_of_gt (blk_lt (g := gb297) (o := .cells #[.string ((rd_T72 l0_0 x26_1).f0), .int .i64 ((rd_T72 l0_0 x26_1).f1), .int .i64 ((rd_T72 l0_0 x26_1).f2), .int .i64 ((rd_T72 l0_0 x26_1).f3)] 72 (0, 0)) (by (with_reducible repeat (first | refine blk_drewN ?_ _ | refine blk_drew ?_ | refine blk_alloc ?_ _)); exact BK297.out)) : gb301 ≠ gb297)); clear HO_7; clear HO_8; clear BK288; clear BK289; clear BK297; clear HB; have HO_7 := n0_; have HO_8 := n1_; have BK288 := n2_; have BK289 := n3_; have BK297 := n4_; have HB := n5_; have BK301 := n6_; have GW301 := n7_; have GE301 := n8_; have NB288_301 := n9_; have NB301_288 := n10_; have NB289_301 := n11_; have NB301_289 := n12_; have NB297_301 := n13_; have NB301_297 := n14_; clear n0_ n1_ n2_ n3_ n4_ n5_ n6_ n7_ n8_ n9_ n10_ n11_ n12_ n13_ n14_; clear hb hbox hg; have hnb48 := NB301_288.out; have hnc48 := NB288_301.out; have hnb49 := NB301_289.out; have hnc49 := NB289_301.out; have hnb50 := NB301_297.out; have hnc50 := NB297_301.out; have hcz51_0 : w47.cell? ⟨gb301, 0, none⟩ = some (.int .i64 0) := (blk_cell BK301.out 0).trans rfl; have hcz51_1 : w47.cell? ⟨gb301, 1, none⟩ = some (.int .i64 0) := (blk_cell BK301.out 1).trans rfl; have hcz51_2 : w47.cell? ⟨gb301, 2, none⟩ = some (.int .i64 0) := (blk_cell BK301.out 2).trans rfl; have hfz51_0 := blk_frozen BK301.out 0; have hfz51_1 := blk_frozen BK301.out 1; have hfz51_2 := blk_frozen BK301.out 2) | ((with_reducible refine gate_store (t := 57) (p := 15) rfl ?_); (try (rw [drewN_self w47]; generalize hq_ : World.drewN w47 _ = w47; have n0_ := Aside0.mk (Kd.R_at hq_ HO_7.out); have n1_ := Aside0.mk (Kd.R_at hq_ HO_8.out); have n2_ := Aside0.mk (blk_at hq_ BK288.out); have n3_ := Aside0.mk (blk_at hq_ BK289.out); have n4_ := Aside0.mk (blk_at hq_ BK297.out); have n5_ := Aside0.mk (blk_at hq_ BK301.out); have n6_ := Aside0.mk (below_at hq_ HB.out); clear hq_ HO_7 HO_8 BK288 BK289 BK297 BK301 HB; have HO_7 := n0_; have HO_8 := n1_; have BK288 := n2_; have BK289 := n3_; have BK297 := n4_; have BK301 := n5_; have HB := n6_; clear n0_ n1_ n2_ n3_ n4_ n5_ n6_)); refine store_event (t := 57) (p := 15) (v := ?vo_w52) (w1 := (((w47.setCell ⟨gb301, 0, none⟩ (.int .i64 ((rd_T57 l1 x55_4).f0))).setCell ⟨gb301, 1, none⟩ (.int .i64 ((rd_T57 l1 x55_4).f1))).setCell ⟨gb301, 2, none⟩ (.int .i64 ((rd_T57 l1 x55_4).f2)))) ?hg ?ho ?hn ?hr ?_; (case ho => rfl); (case hg => rfl); (case hn => rfl); (case hr => first | (go_simp; done) | (go_simp; rfl)); intro w52 hw; have n0_ : Aside0 (Kd.R (Kd.int .i64) 3 w52 w.heap.size (fun _ => True) v291 x7_4) := ⟨(by rw [hw]; exact (by (with_reducible repeat (first | apply Kd.R_alloc | apply Kd.R_drewN | apply Kd.R_drew)); exact Kd.R_mono (Kd.R_far (p := ⟨gb301, 2, none⟩) (Kd.R_far (p := ⟨gb301, 1, none⟩) (Kd.R_far (p := ⟨gb301, 0, none⟩) (Kd.R_types HO_7.out BK301.out (by decide)) (fun _ hk => hk.2) (.int .i64 ((rd_T57 l1 x55_4).f0))) (fun _ hk => hk.2) (.int .i64 ((rd_T57 l1 x55_4).f1))) (fun _ hk => hk.2) (.int .i64 ((rd_T57 l1 x55_4).f2))) (fun _ hk => trivial)))⟩; have n1_ : Aside0 (Kd.R k80 80 w52 w.heap.size (fun _ => True) v294 x8_1) := ⟨(by rw [hw]; exact (by (with_reducible repeat (first | apply Kd.R_alloc | apply Kd.R_drewN | apply Kd.R_drew)); exact Kd.R_mono (Kd.R_far (p := ⟨gb301, 2, none⟩) (Kd.R_far (p := ⟨gb301, 1, none⟩) (Kd.R_far (p := ⟨gb301, 0, none⟩) (Kd.R_types HO_8.out BK301.out (by decide)) (fun _ hk => hk.2) (.int .i64 ((rd_T57 l1 x55_4).f0))) (fun _ hk => hk.2) (.int .i64 ((rd_T57 l1 x55_4).f1))) (fun _ hk => hk.2) (.int .i64 ((rd_T57 l1 x55_4).f2))) (fun _ hk => trivial)))⟩; have n2_ : Aside0 (w52.heap[gb288]? = some (.cells #[.slice (some ad296) l0_0.length c0_0, .slice A0_1 l0_1.length c0_1] 25 (0, 0))) := ⟨(by rw [hw]; exact (by (with_reducible repeat (first | refine blk_drewN ?_ _ | refine blk_drew ?_ | refine blk_alloc ?_ _)); refine blk_far ?_ NB288_301.out _; (with_reducible repeat (first | refine blk_drewN ?_ _ | refine blk_drew ?_ | refine blk_alloc ?_ _)); refine blk_far ?_ NB288_301.out _; (with_reducible repeat (first | refine blk_drewN ?_ _ | refine blk_drew ?_ | refine blk_alloc ?_ _)); refine blk_far ?_ NB288_301.out _; (with_reducible repeat (first | refine blk_drewN ?_ _ | refine blk_drew ?_ | refine blk_alloc ?_ _)); exact BK288.out))⟩; have n3_ : Aside0 (w52.heap[gb289]? = some (.cells #[.int .i64 x290000_1, .int .i64 x290001_1] 29 (0, 0))) := ⟨(by rw [hw]; exact (by (with_reducible repeat (first | refine blk_drewN ?_ _ | refine blk_drew ?_ | refine blk_alloc ?_ _)); refine blk_far ?_ NB289_301.out _; (with_reducible repeat (first | refine blk_drewN ?_ _ | refine blk_drew ?_ | refine blk_alloc ?_ _)); refine blk_far ?_ NB289_301.out _; (with_reducible repeat (first | refine blk_drewN ?_ _ | refine blk_drew ?_ | refine blk_alloc ?_ _)); refine blk_far ?_ NB289_301.out _; (with_reducible repeat (first | refine blk_drewN ?_ _ | refine blk_drew ?_ | refine blk_alloc ?_ _)); exact BK289.out))⟩; have n4_ : Aside0 (w52.heap[gb297]? = some (.cells #[.string ((rd_T72 l0_0 x26_1).f0), .int .i64 ((rd_T72 l0_0 x26_1).f1), .int .i64 ((rd_T72 l0_0 x26_1).f2), .int .i64 ((rd_T72 l0_0 x26_1).f3)] 72 (0, 0))) := ⟨(by rw [hw]; exact (by (with_reducible repeat (first | refine blk_drewN ?_ _ | refine blk_drew ?_ | refine blk_alloc ?_ _)); refine blk_far ?_ NB297_301.out _; (with_reducible repeat (first | refine blk_drewN ?_ _ | refine blk_drew ?_ | refine blk_alloc ?_ _)); refine blk_far ?_ NB297_301.out _; (with_reducible repeat (first | refine blk_drewN ?_ _ | refine blk_drew ?_ | refine blk_alloc ?_ _)); refine blk_far ?_ NB297_301.out _; (with_reducible repeat (first | refine blk_drewN ?_ _ | refine blk_drew ?_ | refine blk_alloc ?_ _)); exact BK297.out))⟩; have n5_ : Aside0 (w52.heap[gb301]? = some (.cells #[.int .i64 ((rd_T57 l1 x55_4).f0), .int .i64 ((rd_T57 l1 x55_4).f1), .int .i64 ((rd_T57 l1 x55_4).f2)] 57 (0, 0))) := ⟨(by rw [hw]; exact (by (with_reducible repeat (first | refine blk_drewN ?_ _ | refine blk_drew ?_ | refine blk_alloc ?_ _)); refine blk_put (cs := #[.int .i64 ((rd_T57 l1 x55_4).f0), .int .i64 ((rd_T57 l1 x55_4).f1), .int .i64 0]) ?_ 2 _ rfl; (with_reducible repeat (first | refine blk_drewN ?_ _ | refine blk_drew ?_ | refine blk_alloc ?_ _)); refine blk_put (cs := #[.int .i64 ((rd_T57 l1 x55_4).f0), .int .i64 0, .int .i64 0]) ?_ 1 _ rfl; (with_reducible repeat (first | refine blk_drewN ?_ _ | refine blk_drew ?_ | refine blk_alloc ?_ _)); refine blk_put (cs := #[.int .i64 0, .int .i64 0, .int .i64 0]) ?_ 0 _ rfl; (with_reducible repeat (first | refine blk_drewN ?_ _ | refine blk_drew ?_ | refine blk_alloc ?_ _)); exact BK301.out))⟩; have n6_ : Aside0 (Below w.heap.size w w52) := ⟨(by rw [hw]; exact (by repeat (first | (with_reducible first | exact HB.out | apply below_alloc | apply pw_below_drewN | apply below_drew1 | refine below_set ?_ GE288.out | refine below_set ?_ GE289.out | refine below_set ?_ GE297.out | refine below_set ?_ GE301.out) | exact HB.out)))⟩; clear hw; clear HO_7; clear HO_8; clear BK288; clear BK289; clear BK297; clear BK301; clear HB; have HO_7 := n0_; have HO_8 := n1_; have BK288 := n2_; have BK289 := n3_; have BK297 := n4_; have BK301 := n5_; have HB := n6_; clear n0_ n1_ n2_ n3_ n4_ n5_ n6_; have hcz53_0 : w52.cell? ⟨gb301, 0, none⟩ = some (.int .i64 ((rd_T57 l1 x55_4).f0)) := (blk_cell BK301.out 0).trans rfl; have hcz53_1 : w52.cell? ⟨gb301, 1, none⟩ = some (.int .i64 ((rd_T57 l1 x55_4).f1)) := (blk_cell BK301.out 1).trans rfl; have hcz53_2 : w52.cell? ⟨gb301, 2, none⟩ = some (.int .i64 ((rd_T57 l1 x55_4).f2)) := (blk_cell BK301.out 2).trans rfl; have hfz53_0 := blk_frozen BK301.out 0; have hfz53_1 := blk_frozen BK301.out 1; have hfz53_2 := blk_frozen BK301.out 2) | (go_at_call 43; (with_reducible refine (thread_Up.calls x13_4 ((rd_T57 l1 x55_4).f2) t302 _ A44.out).mono ?_); rintro e w' ⟨rfl, ⟨nd, rfl⟩⟩; (try first | exact ⟨rfl, _, World.drewN_drewN _ _ _⟩ | exact ⟨rfl, _, Eq.trans (World.drewN_drewN _ _ _) (congrArg (World.drewN _) (Nat.add_assoc _ _ _))⟩); have p46 : 0 ≤ (x55_4 : Int) := of_decide_eq_true (by first | (with_reducible assumption) | assumption); have q46 : (x55_4 : Int) < ((x7_4.length : Int) : Int) := of_decide_eq_true (by first | (with_reducible assumption) | assumption); obtain ⟨go46, co46, eo46, gb46, gl46, cl46, HG46⟩ := Kd.R_form HO_7.out (by omega); (first | cases eo46 | (injection eo46 with ea_ en_ ec_; (first | subst ea_ | (injection ea_ with ea_; subst ea_)); subst ec_; clear en_)); have GB46 := Aside0.mk gb46; have GG46 := Aside0.mk HG46; clear gb46 gl46 HG46; obtain ⟨hx46_0, hf46_0⟩ := Kd.R_celln 0 HO_7.out (x55_4 : Int) p46 q46; replace p46 := eq_true p46; replace q46 := eq_true q46; obtain ⟨hy54_, hz54_⟩ := Kd.R_celln 0 HO_7.out (x55_4 : Int) (of_decide_eq_true (by first | (with_reducible assumption) | assumption)) (of_decide_eq_true (by first | (with_reducible assumption) | assumption)); have HP54 := Kd.R_putg HO_7.out (x55_4 : Int) t302) | ((with_reducible refine gate_store (t := 3) (p := 70) rfl ?_); (try (rw [drewN_self w52]; generalize hq_ : World.drewN w52 _ = w52; have n0_ := Aside0.mk (Kd.R_at hq_ HO_7.out); have n1_ := Aside0.mk (Kd.R_at hq_ HO_8.out); have n2_ := Aside0.mk (blk_at hq_ BK288.out); have n3_ := Aside0.mk (blk_at hq_ BK289.out); have n4_ := Aside0.mk (blk_at hq_ BK297.out); have n5_ := Aside0.mk (blk_at hq_ BK301.out); have n6_ := Aside0.mk (below_at hq_ HB.out); clear hq_ HO_7 HO_8 BK288 BK289 BK297 BK301 HB; have HO_7 := n0_; have HO_8 := n1_; have BK288 := n2_; have BK289 := n3_; have BK297 := n4_; have BK301 := n5_; have HB := n6_; clear n0_ n1_ n2_ n3_ n4_ n5_ n6_; (try (obtain ⟨hy54_, hz54_⟩ := Kd.R_celln 0 HO_7.out (x55_4 : Int) (of_decide_eq_true (by first | (with_reducible assumption) | assumption)) (of_decide_eq_true (by first | (with_reducible assumption) | assumption)))); (try (have HP54 := Kd.R_putg HO_7.out (x55_4 : Int) t302)))); refine store_event (t := 3) (p := 70) (v := ?vo_w55) (w1 := (w52.setCell ⟨go46, (x55_4 : Int).toNat, none⟩ (.int .i64 t302))) ?hg ?ho ?hn ?hr ?_; (case ho => rfl); (case hg => rfl); (case hn => rfl); (case hr => first | (go_simp; done) | (go_simp; rfl)); intro w55 hw; have hg : w52.grownBy w55 (some go46) := (by rw [hw]; exact HP54.2); have hp_ : Kd.R (Kd.int .i64) 3 w55 w.heap.size (fun _ => True) (.slice (some ⟨go46, 0, none⟩) x7_4.length co46) y303 := (by rw [hw, Ny303.out]; exact HP54.1); clear HP54; have n0_ := Aside0.mk (hp_); have n1_ := Aside0.mk (Kd.R_over' (v := (.slice (some ⟨go46, 0, none⟩) x7_4.length co46)) (by (with_reducible repeat (first | apply Kd.R_alloc | apply Kd.R_drewN | apply Kd.R_drew)); exact HO_8.out) (Kd.R_typed HO_7.out) (by decide) hg); have n2_ := Aside0.mk (blk_grown (g := gb288) (o := .cells #[.slice (some ad296) l0_0.length c0_0, .slice A0_1 l0_1.length c0_1] 25 (0, 0)) (by (with_reducible repeat (first | refine blk_drewN ?_ _ | refine blk_drew ?_ | refine blk_alloc ?_ _)); exact BK288.out) hg (Kd.R_ne HO_7.out BK288.out (by decide))); have n3_ := Aside0.mk (blk_grown (g := gb289) (o := .cells #[.int .i64 x290000_1, .int .i64 x290001_1] 29 (0, 0)) (by (with_reducible repeat (first | refine blk_drewN ?_ _ | refine blk_drew ?_ | refine blk_alloc ?_ _)); exact BK289.out) hg (Kd.R_ne HO_7.out BK289.out (by decide))); have n4_ := Aside0.mk (blk_grown (g := gb297) (o := .cells #[.string ((rd_T72 l0_0 x26_1).f0), .int .i64 ((rd_T72 l0_0 x26_1).f1), .int .i64 ((rd_T72 l0_0 x26_1).f2), .int .i64 ((rd_T72 l0_0 x26_1).f3)] 72 (0, 0)) (by (with_reducible repeat (first | refine blk_drewN ?_ _ | refine blk_drew ?_ | refine blk_alloc ?_ _)); exact BK297.out) hg (Kd.R_ne HO_7.out BK297.out (by decide))); have n5_ := Aside0.mk (blk_grown (g := gb301) (o := .cells #[.int .i64 ((rd_T57 l1 x55_4).f0), .int .i64 ((rd_T57 l1 x55_4).f1), .int .i64 ((rd_T57 l1 x55_4).f2)] 57 (0, 0)) (by (with_reducible repeat (first | refine blk_drewN ?_ _ | refine blk_drew ?_ | refine blk_alloc ?_ _)); exact BK301.out) hg (Kd.R_ne HO_7.out BK301.out (by decide))); have n6_ := Aside0.mk ((by rw [hw]; exact below_set (HB.out) GB46.out : Below w.heap.size w w55)); clear HO_7; clear HO_8; clear BK288; clear BK289; clear BK297; clear BK301; clear HB; have HO_7 := n0_; have HO_8 := n1_; have BK288 := n2_; have BK289 := n3_; have BK297 := n4_; have BK301 := n5_; have HB := n6_; clear n0_ n1_ n2_ n3_ n4_ n5_ n6_; clear hg hw hp_; have p304 : 0 ≤ (x55_4 : Int) := of_decide_eq_true (by first | (with_reducible assumption) | assumption); have q304 : x55_4 < (y303.length : Int) := (by have h_ : (x55_4 : Int) < ((x7_4.length : Int) : Int) := of_decide_eq_true (by first | (with_reducible assumption) | assumption); first | (have e_ := (Kd.R_reads' HO_7.out).1; omega) | simpa only [Ny303.out, List.length_set] using h_); have ql304 : ((x55_4 : Int) < ((x7_4.length : Int) : Int)) = True := eq_true (of_decide_eq_true (by first | (with_reducible assumption) | assumption)); obtain ⟨ad304, e304, hx304_0⟩ := Kd.at_int (Kd.R_reads' HO_7.out).2.2 x55_4 p304 q304; obtain rfl : (⟨go46, 0, none⟩ : Addr) = ad304 := (by injection e304); (first | simp only [add_plain] at hx304_0 | simp only [add_at] at hx304_0 | simp only [Addr.add, Nat.zero_add] at hx304_0 | skip); replace p304 := eq_true p304; replace q304 := eq_true q304; have hcz56_0 : w55.cell? ⟨gb301, 0, none⟩ = some (.int .i64 ((rd_T57 l1 x55_4).f0)) := (blk_cell BK301.out 0).trans rfl; have hcz56_1 : w55.cell? ⟨gb301, 1, none⟩ = some (.int .i64 ((rd_T57 l1 x55_4).f1)) := (blk_cell BK301.out 1).trans rfl; have hcz56_2 : w55.cell? ⟨gb301, 2, none⟩ = some (.int .i64 ((rd_T57 l1 x55_4).f2)) := (blk_cell BK301.out 2).trans rfl; have hfz56_0 := blk_frozen BK301.out 0; have hfz56_1 := blk_frozen BK301.out 1; have hfz56_2 := blk_frozen BK301.out 2)); try go_wp2_with (first | ((with_reducible refine gate_dst (N := 15) rfl ?_); refine box_event ?hg (N := 15) ?hd (cs := #[.int .i64 0, .int .i64 0, .int .i64 0]) (t := 57) ?hr ?_; (case hd => rfl); (case hg => rfl); (case hr => first | (go_simp; done) | (go_simp; rfl)); intro gb301 hg w47 hbox hb; have n0_ := Aside0.mk (Kd.R_below (by (with_reducible repeat (first | apply Kd.R_alloc | apply Kd.R_drewN | apply Kd.R_drew)); exact HO_7.out) hb); have n1_ := Aside0.mk (Kd.R_below (by (with_reducible repeat (first | apply Kd.R_alloc | apply Kd.R_drewN | apply Kd.R_drew)); exact HO_8.out) hb); have n2_ := Aside0.mk (blk_below (g := gb288) (o := .cells #[.slice (some ad296) l0_0.length c0_0, .slice A0_1 l0_1.length c0_1] 25 (0, 0)) (by (with_reducible repeat (first | refine blk_drewN ?_ _ | refine blk_drew ?_ | refine blk_alloc ?_ _)); exact BK288.out) hb); have n3_ := Aside0.mk (blk_below (g := gb289) (o := .cells #[.int .i64 x290000_1, .int .i64 x290001_1] 29 (0, 0)) (by (with_reducible repeat (first | refine blk_drewN ?_ _ | refine blk_drew ?_ | refine blk_alloc ?_ _)); exact BK289.out) hb); have n4_ := Aside0.mk (blk_below (g := gb297) (o := .cells #[.string ((rd_T72 l0_0 x26_1).f0), .int .i64 ((rd_T72 l0_0 x26_1).f1), .int .i64 ((rd_T72 l0_0 x26_1).f2), .int .i64 ((rd_T72 l0_0 x26_1).f3)] 72 (0, 0)) (by (with_reducible repeat (first | refine blk_drewN ?_ _ | refine blk_drew ?_ | refine blk_alloc ?_ _)); exact BK297.out) hb); have n5_ := Aside0.mk (below_step (by repeat (first | (with_reducible first | exact HB.out | apply below_alloc | apply pw_below_drewN | apply below_drew1 | refine below_set ?_ GE288.out | refine below_set ?_ GE289.out | refine below_set ?_ GE297.out) | exact HB.out)) hb); have n6_ := Aside0.mk (hbox); have n7_ := Aside0.mk ((by rw [hg]; exact (below_size (by repeat (first | (with_reducible first | exact HB.out | apply below_alloc | apply pw_below_drewN | apply below_drew1 | refine below_set ?_ GE288.out | refine below_set ?_ GE289.out | refine below_set ?_ GE297.out) | exact HB.out))) : w.heap.size ≤ gb301)); have n8_ := Aside0.mk ((by rw [hg]; exact (below_size (by repeat (first | (with_reducible first | exact HB.out | apply below_alloc | apply pw_below_drewN | apply below_drew1 | refine below_set ?_ GE288.out | refine below_set ?_ GE289.out | refine below_set ?_ GE297.out) | exact HB.out))) : w.heap.size ≤ gb301)); have n9_ := Aside0.mk ((by rw [hg]; exact Nat.ne_of_lt (blk_lt (g := gb288) (o := .cells #[.slice (some ad296) l0_0.length c0_0, .slice A0_1 l0_1.length c0_1] 25 (0, 0)) (by (with_reducible repeat (first | refine blk_drewN ?_ _ | refine blk_drew ?_ | refine blk_alloc ?_ _)); exact BK288.out)) : gb288 ≠ gb301)); have n10_ := Aside0.mk ((by rw [hg]; exact Nat.ne_of_gt (blk_lt (g := gb288) (o := .cells #[.slice (some ad296) l0_0.length c0_0, .slice A0_1 l0_1.length c0_1] 25 (0, 0)) (by (with_reducible repeat (first | refine blk_drewN ?_ _ | refine blk_drew ?_ | refine blk_alloc ?_ _)); exact BK288.out)) : gb301 ≠ gb288)); have n11_ := Aside0.mk ((by rw [hg]; exact Nat.ne_of_lt (blk_lt (g := gb289) (o := .cells #[.int .i64 x290000_1, .int .i64 x290001_1] 29 (0, 0)) (by (with_reducible repeat (first | refine blk_drewN ?_ _ | refine blk_drew ?_ | refine blk_alloc ?_ _)); exact BK289.out)) : gb289 ≠ gb301)); have n12_ := Aside0.mk ((by rw [hg]; exact Nat.ne_of_gt (blk_lt (g := gb289) (o := .cells #[.int .i64 x290000_1, .int .i64 x290001_1] 29 (0, 0)) (by (with_reducible repeat (first | refine blk_drewN ?_ _ | refine blk_drew ?_ | refine blk_alloc ?_ _)); exact BK289.out)) : gb301 ≠ gb289)); have n13_ := Aside0.mk ((by rw [hg]; exact Nat.ne_of_lt (blk_lt (g := gb297) (o := .cells #[.string ((rd_T72 l0_0 x26_1).f0), .int .i64 ((rd_T72 l0_0 x26_1).f1), .int .i64 ((rd_T72 l0_0 x26_1).f2), .int .i64 ((rd_T72 l0_0 x26_1).f3)] 72 (0, 0)) (by (with_reducible repeat (first | refine blk_drewN ?_ _ | refine blk_drew ?_ | refine blk_alloc ?_ _)); exact BK297.out)) : gb297 ≠ gb301)); have n14_ := Aside0.mk ((by rw [hg]; exact Nat.ne_of_gt (blk_lt (g := gb297) (o := .cells #[.string ((rd_T72 l0_0 x26_1).f0), .int .i64 ((rd_T72 l0_0 x26_1).f1), .int .i64 ((rd_T72 l0_0 x26_1).f2), .int .i64 ((rd_T72 l0_0 x26_1).f3)] 72 (0, 0)) (by (with_reducible repeat (first | refine blk_drewN ?_ _ | refine blk_drew ?_ | refine blk_alloc ?_ _)); exact BK297.out)) : gb301 ≠ gb297)); clear HO_7; clear HO_8; clear BK288; clear BK289; clear BK297; clear HB; have HO_7 := n0_; have HO_8 := n1_; have BK288 := n2_; have BK289 := n3_; have BK297 := n4_; have HB := n5_; have BK301 := n6_; have GW301 := n7_; have GE301 := n8_; have NB288_301 := n9_; have NB301_288 := n10_; have NB289_301 := n11_; have NB301_289 := n12_; have NB297_301 := n13_; have NB301_297 := n14_; clear n0_ n1_ n2_ n3_ n4_ n5_ n6_ n7_ n8_ n9_ n10_ n11_ n12_ n13_ n14_; clear hb hbox hg; have hnb48 := NB301_288.out; have hnc48 := NB288_301.out; have hnb49 := NB301_289.out; have hnc49 := NB289_301.out; have hnb50 := NB301_297.out; have hnc50 := NB297_301.out; have hcz51_0 : w47.cell? ⟨gb301, 0, none⟩ = some (.int .i64 0) := (blk_cell BK301.out 0).trans rfl; have hcz51_1 : w47.cell? ⟨gb301, 1, none⟩ = some (.int .i64 0) := (blk_cell BK301.out 1).trans rfl; have hcz51_2 : w47.cell? ⟨gb301, 2, none⟩ = some (.int .i64 0) := (blk_cell BK301.out 2).trans rfl; have hfz51_0 := blk_frozen BK301.out 0; have hfz51_1 := blk_frozen BK301.out 1; have hfz51_2 := blk_frozen BK301.out 2) | ((with_reducible refine gate_store (t := 57) (p := 15) rfl ?_); (try (rw [drewN_self w47]; generalize hq_ : World.drewN w47 _ = w47; have n0_ := Aside0.mk (Kd.R_at hq_ HO_7.out); have n1_ := Aside0.mk (Kd.R_at hq_ HO_8.out); have n2_ := Aside0.mk (blk_at hq_ BK288.out); have n3_ := Aside0.mk (blk_at hq_ BK289.out); have n4_ := Aside0.mk (blk_at hq_ BK297.out); have n5_ := Aside0.mk (blk_at hq_ BK301.out); have n6_ := Aside0.mk (below_at hq_ HB.out); clear hq_ HO_7 HO_8 BK288 BK289 BK297 BK301 HB; have HO_7 := n0_; have HO_8 := n1_; have BK288 := n2_; have BK289 := n3_; have BK297 := n4_; have BK301 := n5_; have HB := n6_; clear n0_ n1_ n2_ n3_ n4_ n5_ n6_)); refine store_event (t := 57) (p := 15) (v := ?vo_w52) (w1 := (((w47.setCell ⟨gb301, 0, none⟩ (.int .i64 ((rd_T57 l1 x55_4).f0))).setCell ⟨gb301, 1, none⟩ (.int .i64 ((rd_T57 l1 x55_4).f1))).setCell ⟨gb301, 2, none⟩ (.int .i64 ((rd_T57 l1 x55_4).f2)))) ?hg ?ho ?hn ?hr ?_; (case ho => rfl); (case hg => rfl); (case hn => rfl); (case hr => first | (go_simp; done) | (go_simp; rfl)); intro w52 hw; have n0_ : Aside0 (Kd.R (Kd.int .i64) 3 w52 w.heap.size (fun _ => True) v291 x7_4) := ⟨(by rw [hw]; exact (by (with_reducible repeat (first | apply Kd.R_alloc | apply Kd.R_drewN | apply Kd.R_drew)); exact Kd.R_mono (Kd.R_far (p := ⟨gb301, 2, none⟩) (Kd.R_far (p := ⟨gb301, 1, none⟩) (Kd.R_far (p := ⟨gb301, 0, none⟩) (Kd.R_types HO_7.out BK301.out (by decide)) (fun _ hk => hk.2) (.int .i64 ((rd_T57 l1 x55_4).f0))) (fun _ hk => hk.2) (.int .i64 ((rd_T57 l1 x55_4).f1))) (fun _ hk => hk.2) (.int .i64 ((rd_T57 l1 x55_4).f2))) (fun _ hk => trivial)))⟩; have n1_ : Aside0 (Kd.R k80 80 w52 w.heap.size (fun _ => True) v294 x8_1) := ⟨(by rw [hw]; exact (by (with_reducible repeat (first | apply Kd.R_alloc | apply Kd.R_drewN | apply Kd.R_drew)); exact Kd.R_mono (Kd.R_far (p := ⟨gb301, 2, none⟩) (Kd.R_far (p := ⟨gb301, 1, none⟩) (Kd.R_far (p := ⟨gb301, 0, none⟩) (Kd.R_types HO_8.out BK301.out (by decide)) (fun _ hk => hk.2) (.int .i64 ((rd_T57 l1 x55_4).f0))) (fun _ hk => hk.2) (.int .i64 ((rd_T57 l1 x55_4).f1))) (fun _ hk => hk.2) (.int .i64 ((rd_T57 l1 x55_4).f2))) (fun _ hk => trivial)))⟩; have n2_ : Aside0 (w52.heap[gb288]? = some (.cells #[.slice (some ad296) l0_0.length c0_0, .slice A0_1 l0_1.length c0_1] 25 (0, 0))) := ⟨(by rw [hw]; exact (by (with_reducible repeat (first | refine blk_drewN ?_ _ | refine blk_drew ?_ | refine blk_alloc ?_ _)); refine blk_far ?_ NB288_301.out _; (with_reducible repeat (first | refine blk_drewN ?_ _ | refine blk_drew ?_ | refine blk_alloc ?_ _)); refine blk_far ?_ NB288_301.out _; (with_reducible repeat (first | refine blk_drewN ?_ _ | refine blk_drew ?_ | refine blk_alloc ?_ _)); refine blk_far ?_ NB288_301.out _; (with_reducible repeat (first | refine blk_drewN ?_ _ | refine blk_drew ?_ | refine blk_alloc ?_ _)); exact BK288.out))⟩; have n3_ : Aside0 (w52.heap[gb289]? = some (.cells #[.int .i64 x290000_1, .int .i64 x290001_1] 29 (0, 0))) := ⟨(by rw [hw]; exact (by (with_reducible repeat (first | refine blk_drewN ?_ _ | refine blk_drew ?_ | refine blk_alloc ?_ _)); refine blk_far ?_ NB289_301.out _; (with_reducible repeat (first | refine blk_drewN ?_ _ | refine blk_drew ?_ | refine blk_alloc ?_ _)); refine blk_far ?_ NB289_301.out _; (with_reducible repeat (first | refine blk_drewN ?_ _ | refine blk_drew ?_ | refine blk_alloc ?_ _)); refine blk_far ?_ NB289_301.out _; (with_reducible repeat (first | refine blk_drewN ?_ _ | refine blk_drew ?_ | refine blk_alloc ?_ _)); exact BK289.out))⟩; have n4_ : Aside0 (w52.heap[gb297]? = some (.cells #[.string ((rd_T72 l0_0 x26_1).f0), .int .i64 ((rd_T72 l0_0 x26_1).f1), .int .i64 ((rd_T72 l0_0 x26_1).f2), .int .i64 ((rd_T72 l0_0 x26_1).f3)] 72 (0, 0))) := ⟨(by rw [hw]; exact (by (with_reducible repeat (first | refine blk_drewN ?_ _ | refine blk_drew ?_ | refine blk_alloc ?_ _)); refine blk_far ?_ NB297_301.out _; (with_reducible repeat (first | refine blk_drewN ?_ _ | refine blk_drew ?_ | refine blk_alloc ?_ _)); refine blk_far ?_ NB297_301.out _; (with_reducible repeat (first | refine blk_drewN ?_ _ | refine blk_drew ?_ | refine blk_alloc ?_ _)); refine blk_far ?_ NB297_301.out _; (with_reducible repeat (first | refine blk_drewN ?_ _ | refine blk_drew ?_ | refine blk_alloc ?_ _)); exact BK297.out))⟩; have n5_ : Aside0 (w52.heap[gb301]? = some (.cells #[.int .i64 ((rd_T57 l1 x55_4).f0), .int .i64 ((rd_T57 l1 x55_4).f1), .int .i64 ((rd_T57 l1 x55_4).f2)] 57 (0, 0))) := ⟨(by rw [hw]; exact (by (with_reducible repeat (first | refine blk_drewN ?_ _ | refine blk_drew ?_ | refine blk_alloc ?_ _)); refine blk_put (cs := #[.int .i64 ((rd_T57 l1 x55_4).f0), .int .i64 ((rd_T57 l1 x55_4).f1), .int .i64 0]) ?_ 2 _ rfl; (with_reducible repeat (first | refine blk_drewN ?_ _ | refine blk_drew ?_ | refine blk_alloc ?_ _)); refine blk_put (cs := #[.int .i64 ((rd_T57 l1 x55_4).f0), .int .i64 0, .int .i64 0]) ?_ 1 _ rfl; (with_reducible repeat (first | refine blk_drewN ?_ _ | refine blk_drew ?_ | refine blk_alloc ?_ _)); refine blk_put (cs := #[.int .i64 0, .int .i64 0, .int .i64 0]) ?_ 0 _ rfl; (with_reducible repeat (first | refine blk_drewN ?_ _ | refine blk_drew ?_ | refine blk_alloc ?_ _)); exact BK301.out))⟩; have n6_ : Aside0 (Below w.heap.size w w52) := ⟨(by rw [hw]; exact (by repeat (first | (with_reducible first | exact HB.out | apply below_alloc | apply pw_below_drewN | apply below_drew1 | refine below_set ?_ GE288.out | refine below_set ?_ GE289.out | refine below_set ?_ GE297.out | refine below_set ?_ GE301.out) | exact HB.out)))⟩; clear hw; clear HO_7; clear HO_8; clear BK288; clear BK289; clear BK297; clear BK301; clear HB; have HO_7 := n0_; have HO_8 := n1_; have BK288 := n2_; have BK289 := n3_; have BK297 := n4_; have BK301 := n5_; have HB := n6_; clear n0_ n1_ n2_ n3_ n4_ n5_ n6_; have hcz53_0 : w52.cell? ⟨gb301, 0, none⟩ = some (.int .i64 ((rd_T57 l1 x55_4).f0)) := (blk_cell BK301.out 0).trans rfl; have hcz53_1 : w52.cell? ⟨gb301, 1, none⟩ = some (.int .i64 ((rd_T57 l1 x55_4).f1)) := (blk_cell BK301.out 1).trans rfl; have hcz53_2 : w52.cell? ⟨gb301, 2, none⟩ = some (.int .i64 ((rd_T57 l1 x55_4).f2)) := (blk_cell BK301.out 2).trans rfl; have hfz53_0 := blk_frozen BK301.out 0; have hfz53_1 := blk_frozen BK301.out 1; have hfz53_2 := blk_frozen BK301.out 2) | (go_at_call 43; (with_reducible refine (thread_Up.calls x13_4 ((rd_T57 l1 x55_4).f2) t302 _ A44.out).mono ?_); rintro e w' ⟨rfl, ⟨nd, rfl⟩⟩; (try first | exact ⟨rfl, _, World.drewN_drewN _ _ _⟩ | exact ⟨rfl, _, Eq.trans (World.drewN_drewN _ _ _) (congrArg (World.drewN _) (Nat.add_assoc _ _ _))⟩); have p46 : 0 ≤ (x55_4 : Int) := of_decide_eq_true (by first | (with_reducible assumption) | assumption); have q46 : (x55_4 : Int) < ((x7_4.length : Int) : Int) := of_decide_eq_true (by first | (with_reducible assumption) | assumption); obtain ⟨go46, co46, eo46, gb46, gl46, cl46, HG46⟩ := Kd.R_form HO_7.out (by omega); (first | cases eo46 | (injection eo46 with ea_ en_ ec_; (first | subst ea_ | (injection ea_ with ea_; subst ea_)); subst ec_; clear en_)); have GB46 := Aside0.mk gb46; have GG46 := Aside0.mk HG46; clear gb46 gl46 HG46; obtain ⟨hx46_0, hf46_0⟩ := Kd.R_celln 0 HO_7.out (x55_4 : Int) p46 q46; replace p46 := eq_true p46; replace q46 := eq_true q46; obtain ⟨hy54_, hz54_⟩ := Kd.R_celln 0 HO_7.out (x55_4 : Int) (of_decide_eq_true (by first | (with_reducible assumption) | assumption)) (of_decide_eq_true (by first | (with_reducible assumption) | assumption)); have HP54 := Kd.R_putg HO_7.out (x55_4 : Int) t302) | ((with_reducible refine gate_store (t := 3) (p := 70) rfl ?_); (try (rw [drewN_self w52]; generalize hq_ : World.drewN w52 _ = w52; have n0_ := Aside0.mk (Kd.R_at hq_ HO_7.out); have n1_ := Aside0.mk (Kd.R_at hq_ HO_8.out); have n2_ := Aside0.mk (blk_at hq_ BK288.out); have n3_ := Aside0.mk (blk_at hq_ BK289.out); have n4_ := Aside0.mk (blk_at hq_ BK297.out); have n5_ := Aside0.mk (blk_at hq_ BK301.out); have n6_ := Aside0.mk (below_at hq_ HB.out); clear hq_ HO_7 HO_8 BK288 BK289 BK297 BK301 HB; have HO_7 := n0_; have HO_8 := n1_; have BK288 := n2_; have BK289 := n3_; have BK297 := n4_; have BK301 := n5_; have HB := n6_; clear n0_ n1_ n2_ n3_ n4_ n5_ n6_; (try (obtain ⟨hy54_, hz54_⟩ := Kd.R_celln 0 HO_7.out (x55_4 : Int) (of_decide_eq_true (by first | (with_reducible assumption) | assumption)) (of_decide_eq_true (by first | (with_reducible assumption) | assumption)))); (try (have HP54 := Kd.R_putg HO_7.out (x55_4 : Int) t302)))); refine store_event (t := 3) (p := 70) (v := ?vo_w55) (w1 := (w52.setCell ⟨go46, (x55_4 : Int).toNat, none⟩ (.int .i64 t302))) ?hg ?ho ?hn ?hr ?_; (case ho => rfl); (case hg => rfl); (case hn => rfl); (case hr => first | (go_simp; done) | (go_simp; rfl)); intro w55 hw; have hg : w52.grownBy w55 (some go46) := (by rw [hw]; exact HP54.2); have hp_ : Kd.R (Kd.int .i64) 3 w55 w.heap.size (fun _ => True) (.slice (some ⟨go46, 0, none⟩) x7_4.length co46) y303 := (by rw [hw, Ny303.out]; exact HP54.1); clear HP54; have n0_ := Aside0.mk (hp_); have n1_ := Aside0.mk (Kd.R_over' (v := (.slice (some ⟨go46, 0, none⟩) x7_4.length co46)) (by (with_reducible repeat (first | apply Kd.R_alloc | apply Kd.R_drewN | apply Kd.R_drew)); exact HO_8.out) (Kd.R_typed HO_7.out) (by decide) hg); have n2_ := Aside0.mk (blk_grown (g := gb288) (o := .cells #[.slice (some ad296) l0_0.length c0_0, .slice A0_1 l0_1.length c0_1] 25 (0, 0)) (by (with_reducible repeat (first | refine blk_drewN ?_ _ | refine blk_drew ?_ | refine blk_alloc ?_ _)); exact BK288.out) hg (Kd.R_ne HO_7.out BK288.out (by decide))); have n3_ := Aside0.mk (blk_grown (g := gb289) (o := .cells #[.int .i64 x290000_1, .int .i64 x290001_1] 29 (0, 0)) (by (with_reducible repeat (first | refine blk_drewN ?_ _ | refine blk_drew ?_ | refine blk_alloc ?_ _)); exact BK289.out) hg (Kd.R_ne HO_7.out BK289.out (by decide))); have n4_ := Aside0.mk (blk_grown (g := gb297) (o := .cells #[.string ((rd_T72 l0_0 x26_1).f0), .int .i64 ((rd_T72 l0_0 x26_1).f1), .int .i64 ((rd_T72 l0_0 x26_1).f2), .int .i64 ((rd_T72 l0_0 x26_1).f3)] 72 (0, 0)) (by (with_reducible repeat (first | refine blk_drewN ?_ _ | refine blk_drew ?_ | refine blk_alloc ?_ _)); exact BK297.out) hg (Kd.R_ne HO_7.out BK297.out (by decide))); have n5_ := Aside0.mk (blk_grown (g := gb301) (o := .cells #[.int .i64 ((rd_T57 l1 x55_4).f0), .int .i64 ((rd_T57 l1 x55_4).f1), .int .i64 ((rd_T57 l1 x55_4).f2)] 57 (0, 0)) (by (with_reducible repeat (first | refine blk_drewN ?_ _ | refine blk_drew ?_ | refine blk_alloc ?_ _)); exact BK301.out) hg (Kd.R_ne HO_7.out BK301.out (by decide))); have n6_ := Aside0.mk ((by rw [hw]; exact below_set (HB.out) GB46.out : Below w.heap.size w w55)); clear HO_7; clear HO_8; clear BK288; clear BK289; clear BK297; clear BK301; clear HB; have HO_7 := n0_; have HO_8 := n1_; have BK288 := n2_; have BK289 := n3_; have BK297 := n4_; have BK301 := n5_; have HB := n6_; clear n0_ n1_ n2_ n3_ n4_ n5_ n6_; clear hg hw hp_; have p304 : 0 ≤ (x55_4 : Int) := of_decide_eq_true (by first | (with_reducible assumption) | assumption); have q304 : x55_4 < (y303.length : Int) := (by have h_ : (x55_4 : Int) < ((x7_4.length : Int) : Int) := of_decide_eq_true (by first | (with_reducible assumption) | assumption); first | (have e_ := (Kd.R_reads' HO_7.out).1; omega) | simpa only [Ny303.out, List.length_set] using h_); have ql304 : ((x55_4 : Int) < ((x7_4.length : Int) : Int)) = True := eq_true (of_decide_eq_true (by first | (with_reducible assumption) | assumption)); obtain ⟨ad304, e304, hx304_0⟩ := Kd.at_int (Kd.R_reads' HO_7.out).2.2 x55_4 p304 q304; obtain rfl : (⟨go46, 0, none⟩ : Addr) = ad304 := (by injection e304); (first | simp only [add_plain] at hx304_0 | simp only [add_at] at hx304_0 | simp only [Addr.add, Nat.zero_add] at hx304_0 | skip); replace p304 := eq_true p304; replace q304 := eq_true q304; have hcz56_0 : w55.cell? ⟨gb301, 0, none⟩ = some (.int .i64 ((rd_T57 l1 x55_4).f0)) := (blk_cell BK301.out 0).trans rfl; have hcz56_1 : w55.cell? ⟨gb301, 1, none⟩ = some (.int .i64 ((rd_T57 l1 x55_4).f1)) := (blk_cell BK301.out 1).trans rfl; have hcz56_2 : w55.cell? ⟨gb301, 2, none⟩ = some (.int .i64 ((rd_T57 l1 x55_4).f2)) := (blk_cell BK301.out 2).trans rfl; have hfz56_0 := blk_frozen BK301.out 0; have hfz56_1 := blk_frozen BK301.out 1; have hfz56_2 := blk_frozen BK301.out 2)))
                      go_roundg k4
                      case measure => have := HK1.out; have := HJ18.out; have := HJ29.out; have := HK4.out; omega
                      case rel => exact ⟨(y303), (wrap64 ((rd y303 x55_4) + ((rd_T57 l1 x55_4).f1))), (wrap64 (x55_4 + 1)), (by first | rfl | (simp; done) | (simp [*]; done)), (by first | rfl | (simp; done) | (simp [*]; done)), H', ⟨by have := HK1.out; have := HJ18.out; have := HJ29.out; have := HK4.out; omega⟩, ⟨by (with_reducible repeat (first | apply Kd.R_alloc | apply Kd.R_drewN | apply Kd.R_drew)); exact HO_7.out⟩, ⟨by (with_reducible repeat (first | apply Kd.R_alloc | apply Kd.R_drewN | apply Kd.R_drew)); exact HO_8.out⟩, ⟨by (with_reducible repeat (first | refine blk_drewN ?_ _ | refine blk_drew ?_ | refine blk_alloc ?_ _)); exact BK288.out⟩, ⟨by (with_reducible repeat (first | refine blk_drewN ?_ _ | refine blk_drew ?_ | refine blk_alloc ?_ _)); exact BK289.out⟩, ⟨by (with_reducible repeat (first | refine blk_drewN ?_ _ | refine blk_drew ?_ | refine blk_alloc ?_ _)); exact BK297.out⟩, ⟨by repeat (first | (with_reducible first | exact HB.out | apply below_alloc | apply pw_below_drewN | apply below_drew1 | refine below_set ?_ GE288.out | refine below_set ?_ GE289.out | refine below_set ?_ GE297.out | refine below_set ?_ GE301.out) | exact HB.out)⟩⟩
                     ·rw [if_neg c45] at H
                      exact absurd H (by simp)
                    ·rw [if_neg c43] at H
                     have c43b0 : (((rd_T57 l1 x55_4).f0) == x26_1) = false := beq_eq_false_iff_ne.mpr c43
                     have c43b1 : (((rd_T57 l1 x55_4).f0) != x26_1) = true := bne_iff_ne.mpr c43
                     have H' := Aside0.mk H
                     clear H
                     have p300 : 0 ≤ (x55_4 : Int) := of_decide_eq_true (by first | (with_reducible assumption) | assumption)
                     have q300 : x55_4 < (l1.length : Int) := of_decide_eq_true (by first | (with_reducible assumption) | assumption)
                     obtain ⟨ad300, e300, hx300_0, hx300_1, hx300_2⟩ := at_T57 HR1.out x55_4 p300 q300
                     cases e300
                     replace hx300_0 := (HB.out.cell (World.block_lt_of_cell? w _ hx300_0)).trans hx300_0
                     replace hx300_1 := (HB.out.cell (World.block_lt_of_cell? w _ hx300_1)).trans hx300_1
                     replace hx300_2 := (HB.out.cell (World.block_lt_of_cell? w _ hx300_2)).trans hx300_2
                     replace p300 := eq_true p300
                     replace q300 := eq_true q300
                     go_wp2_with (first | ((with_reducible refine gate_dst (N := 15) rfl ?_); refine box_event ?hg (N := 15) ?hd (cs := #[.int .i64 0, .int .i64 0, .int .i64 0]) (t := 57) ?hr ?_; (case hd => rfl); (case hg => rfl); (case hr => first | (go_simp; done) | (go_simp; rfl)); intro gb301 hg w57 hbox hb; have n0_ := Aside0.mk (Kd.R_below (by (with_reducible repeat (first | apply Kd.R_alloc | apply Kd.R_drewN | apply Kd.R_drew)); exact HO_7.out) hb); have n1_ := Aside0.mk (Kd.R_below (by (with_reducible repeat (first | apply Kd.R_alloc | apply Kd.R_drewN | apply Kd.R_drew)); exact HO_8.out) hb); have n2_ := Aside0.mk (blk_below (g := gb288) (o := .cells #[.slice (some ad296) l0_0.length c0_0, .slice A0_1 l0_1.length c0_1] 25 (0, 0)) (by (with_reducible repeat (first | refine blk_drewN ?_ _ | refine blk_drew ?_ | refine blk_alloc ?_ _)); exact BK288.out) hb); have n3_ := Aside0.mk (blk_below (g := gb289) (o := .cells #[.int .i64 x290000_1, .int .i64 x290001_1] 29 (0, 0)) (by (with_reducible repeat (first | refine blk_drewN ?_ _ | refine blk_drew ?_ | refine blk_alloc ?_ _)); exact BK289.out) hb); have n4_ := Aside0.mk (blk_below (g := gb297) (o := .cells #[.string ((rd_T72 l0_0 x26_1).f0), .int .i64 ((rd_T72 l0_0 x26_1).f1), .int .i64 ((rd_T72 l0_0 x26_1).f2), .int .i64 ((rd_T72 l0_0 x26_1).f3)] 72 (0, 0)) (by (with_reducible repeat (first | refine blk_drewN ?_ _ | refine blk_drew ?_ | refine blk_alloc ?_ _)); exact BK297.out) hb); have n5_ := Aside0.mk (below_step (by repeat (first | (with_reducible first | exact HB.out | apply below_alloc | apply pw_below_drewN | apply below_drew1 | refine below_set ?_ GE288.out | refine below_set ?_ GE289.out | refine below_set ?_ GE297.out) | exact HB.out)) hb); have n6_ := Aside0.mk (hbox); have n7_ := Aside0.mk ((by rw [hg]; exact (below_size (by repeat (first | (with_reducible first | exact HB.out | apply below_alloc | apply pw_below_drewN | apply below_drew1 | refine below_set ?_ GE288.out | refine below_set ?_ GE289.out | refine below_set ?_ GE297.out) | exact HB.out))) : w.heap.size ≤ gb301)); have n8_ := Aside0.mk ((by rw [hg]; exact (below_size (by repeat (first | (with_reducible first | exact HB.out | apply below_alloc | apply pw_below_drewN | apply below_drew1 | refine below_set ?_ GE288.out | refine below_set ?_ GE289.out | refine below_set ?_ GE297.out) | exact HB.out))) : w.heap.size ≤ gb301)); have n9_ := Aside0.mk ((by rw [hg]; exact Nat.ne_of_lt (blk_lt (g := gb288) (o := .cells #[.slice (some ad296) l0_0.length c0_0, .slice A0_1 l0_1.length c0_1] 25 (0, 0)) (by (with_reducible repeat (first | refine blk_drewN ?_ _ | refine blk_drew ?_ | refine blk_alloc ?_ _)); exact BK288.out)) : gb288 ≠ gb301)); have n10_ := Aside0.mk ((by rw [hg]; exact Nat.ne_of_gt (blk_lt (g := gb288) (o := .cells #[.slice (some ad296) l0_0.length c0_0, .slice A0_1 l0_1.length c0_1] 25 (0, 0)) (by (with_reducible repeat (first | refine blk_drewN ?_ _ | refine blk_drew ?_ | refine blk_alloc ?_ _)); exact BK288.out)) : gb301 ≠ gb288)); have n11_ := Aside0.mk ((by rw [hg]; exact Nat.ne_of_lt (blk_lt (g := gb289) (o := .cells #[.int .i64 x290000_1, .int .i64 x290001_1] 29 (0, 0)) (by (with_reducible repeat (first | refine blk_drewN ?_ _ | refine blk_drew ?_ | refine blk_alloc ?_ _)); exact BK289.out)) : gb289 ≠ gb301)); have n12_ := Aside0.mk ((by rw [hg]; exact Nat.ne_of_gt (blk_lt (g := gb289) (o := .cells #[.int .i64 x290000_1, .int .i64 x290001_1] 29 (0, 0)) (by (with_reducible repeat (first | refine blk_drewN ?_ _ | refine blk_drew ?_ | refine blk_alloc ?_ _)); exact BK289.out)) : gb301 ≠ gb289)); have n13_ := Aside0.mk ((by rw [hg]; exact Nat.ne_of_lt (blk_lt (g := gb297) (o := .cells #[.string ((rd_T72 l0_0 x26_1).f0), .int .i64 ((rd_T72 l0_0 x26_1).f1), .int .i64 ((rd_T72 l0_0 x26_1).f2), .int .i64 ((rd_T72 l0_0 x26_1).f3)] 72 (0, 0)) (by (with_reducible repeat (first | refine blk_drewN ?_ _ | refine blk_drew ?_ | refine blk_alloc ?_ _)); exact BK297.out)) : gb297 ≠ gb301)); have n14_ := Aside0.mk ((by rw [hg]; exact Nat.ne_of_gt (blk_lt (g := gb297) (o := .cells #[.string ((rd_T72 l0_0 x26_1).f0), .int .i64 ((rd_T72 l0_0 x26_1).f1), .int .i64 ((rd_T72 l0_0 x26_1).f2), .int .i64 ((rd_T72 l0_0 x26_1).f3)] 72 (0, 0)) (by (with_reducible repeat (first | refine blk_drewN ?_ _ | refine blk_drew ?_ | refine blk_alloc ?_ _)); exact BK297.out)) : gb301 ≠ gb297)); clear HO_7; clear HO_8; clear BK288; clear BK289; clear BK297; clear HB; have HO_7 := n0_; have HO_8 := n1_; have BK288 := n2_; have BK289 := n3_; have BK297 := n4_; have HB := n5_; have BK301 := n6_; have GW301 := n7_; have GE301 := n8_; have NB288_301 := n9_; have NB301_288 := n10_; have NB289_301 := n11_; have NB301_289 := n12_; have NB297_301 := n13_; have NB301_297 := n14_; clear n0_ n1_ n2_ n3_ n4_ n5_ n6_ n7_ n8_ n9_ n10_ n11_ n12_ n13_ n14_; clear hb hbox hg; have hnb58 := NB301_288.out; have hnc58 := NB288_301.out; have hnb59 := NB301_289.out; have hnc59 := NB289_301.out; have hnb60 := NB301_297.out; have hnc60 := NB297_301.out; have hcz61_0 : w57.cell? ⟨gb301, 0, none⟩ = some (.int .i64 0) := (blk_cell BK301.out 0).trans rfl; have hcz61_1 : w57.cell? ⟨gb301, 1, none⟩ = some (.int .i64 0) := (blk_cell BK301.out 1).trans rfl; have hcz61_2 : w57.cell? ⟨gb301, 2, none⟩ = some (.int .i64 0) := (blk_cell BK301.out 2).trans rfl; have hfz61_0 := blk_frozen BK301.out 0; have hfz61_1 := blk_frozen BK301.out 1; have hfz61_2 := blk_frozen BK301.out 2))
                     skip
                     go_roundg k4
                     case measure => have := HK1.out; have := HJ18.out; have := HJ29.out; have := HK4.out; omega
                     case rel => exact ⟨(x7_4), (x13_4), (wrap64 (x55_4 + 1)), (by first | rfl | (simp; done) | (simp [*]; done)), (by first | rfl | (simp; done) | (simp [*]; done)), H', ⟨by have := HK1.out; have := HJ18.out; have := HJ29.out; have := HK4.out; omega⟩, ⟨by (with_reducible repeat (first | apply Kd.R_alloc | apply Kd.R_drewN | apply Kd.R_drew)); exact Kd.R_mono (Kd.R_far (p := ⟨gb301, 2, none⟩) (Kd.R_far (p := ⟨gb301, 1, none⟩) (Kd.R_far (p := ⟨gb301, 0, none⟩) (Kd.R_types HO_7.out BK301.out (by decide)) (fun _ hk => hk.2) (.int .i64 ((rd_T57 l1 x55_4).f0))) (fun _ hk => hk.2) (.int .i64 ((rd_T57 l1 x55_4).f1))) (fun _ hk => hk.2) (.int .i64 ((rd_T57 l1 x55_4).f2))) (fun _ hk => trivial)⟩, ⟨by (with_reducible repeat (first | apply Kd.R_alloc | apply Kd.R_drewN | apply Kd.R_drew)); exact Kd.R_mono (Kd.R_far (p := ⟨gb301, 2, none⟩) (Kd.R_far (p := ⟨gb301, 1, none⟩) (Kd.R_far (p := ⟨gb301, 0, none⟩) (Kd.R_types HO_8.out BK301.out (by decide)) (fun _ hk => hk.2) (.int .i64 ((rd_T57 l1 x55_4).f0))) (fun _ hk => hk.2) (.int .i64 ((rd_T57 l1 x55_4).f1))) (fun _ hk => hk.2) (.int .i64 ((rd_T57 l1 x55_4).f2))) (fun _ hk => trivial)⟩, ⟨by (with_reducible repeat (first | refine blk_drewN ?_ _ | refine blk_drew ?_ | refine blk_alloc ?_ _)); refine blk_far ?_ NB288_301.out _; (with_reducible repeat (first | refine blk_drewN ?_ _ | refine blk_drew ?_ | refine blk_alloc ?_ _)); refine blk_far ?_ NB288_301.out _; (with_reducible repeat (first | refine blk_drewN ?_ _ | refine blk_drew ?_ | refine blk_alloc ?_ _)); refine blk_far ?_ NB288_301.out _; (with_reducible repeat (first | refine blk_drewN ?_ _ | refine blk_drew ?_ | refine blk_alloc ?_ _)); exact BK288.out⟩, ⟨by (with_reducible repeat (first | refine blk_drewN ?_ _ | refine blk_drew ?_ | refine blk_alloc ?_ _)); refine blk_far ?_ NB289_301.out _; (with_reducible repeat (first | refine blk_drewN ?_ _ | refine blk_drew ?_ | refine blk_alloc ?_ _)); refine blk_far ?_ NB289_301.out _; (with_reducible repeat (first | refine blk_drewN ?_ _ | refine blk_drew ?_ | refine blk_alloc ?_ _)); refine blk_far ?_ NB289_301.out _; (with_reducible repeat (first | refine blk_drewN ?_ _ | refine blk_drew ?_ | refine blk_alloc ?_ _)); exact BK289.out⟩, ⟨by (with_reducible repeat (first | refine blk_drewN ?_ _ | refine blk_drew ?_ | refine blk_alloc ?_ _)); refine blk_far ?_ NB297_301.out _; (with_reducible repeat (first | refine blk_drewN ?_ _ | refine blk_drew ?_ | refine blk_alloc ?_ _)); refine blk_far ?_ NB297_301.out _; (with_reducible repeat (first | refine blk_drewN ?_ _ | refine blk_drew ?_ | refine blk_alloc ?_ _)); refine blk_far ?_ NB297_301.out _; (with_reducible repeat (first | refine blk_drewN ?_ _ | refine blk_drew ?_ | refine blk_alloc ?_ _)); exact BK297.out⟩, ⟨by repeat (first | (with_reducible first | exact HB.out | apply below_alloc | apply pw_below_drewN | apply below_drew1 | refine below_set ?_ GE288.out | refine below_set ?_ GE289.out | refine below_set ?_ GE297.out | refine below_set ?_ GE301.out) | exact HB.out)⟩⟩
                   ·rw [if_neg c42] at H
                    exact absurd H (by simp)
                  ·rw [if_neg c41] at H
                   exact absurd H (by simp)
                 ·rw [if_neg c40] at H
                  have c40b0 : decide (x55_4 < (l1.length : Int)) = false := decide_eq_false c40
                  clear c40
                  by_cases c62 : x13_4 > 1048576
                  ·rw [if_pos c62] at H
                   have c62b0 : decide (1048576 < x13_4) = true := decide_eq_true c62
                   clear c62
                   simp only [Option.some.injEq, Prod.mk.injEq] at H
                   obtain ⟨rfl, rfl, rfl, rfl⟩ := H
                   have hnb63 := NB289_288.out
                   have hnc63 := NB288_289.out
                   have hnb64 := NB289_297.out
                   have hnc64 := NB297_289.out
                   have hcz65_0 : wr.cell? ⟨gb289, 0, none⟩ = some (.int .i64 x290000_1) := (blk_cell BK289.out 0).trans rfl
                   have hcz65_1 : wr.cell? ⟨gb289, 1, none⟩ = some (.int .i64 x290001_1) := (blk_cell BK289.out 1).trans rfl
                   have hfz65_0 := blk_frozen BK289.out 0
                   have hfz65_1 := blk_frozen BK289.out 1
                   go_wp2
                   repeat (go_quiet (fail); try go_wp2)
                   refine bodyPost_ret (results_list (rs := [.tmp 4, .tmp 5, .cell 6 29]) rfl (by simp) (.tmp (.tmp (.cell gb289 29 #[.int .i64 10, .int .i64 x26_1] (0, 0) _ rfl (by (with_reducible repeat (first | refine blk_drewN ?_ _ | refine blk_drew ?_ | refine blk_alloc ?_ _)); refine blk_put (cs := #[.int .i64 10, .int .i64 x290001_1]) ?_ 1 _ rfl; (with_reducible repeat (first | refine blk_drewN ?_ _ | refine blk_drew ?_ | refine blk_alloc ?_ _)); refine blk_put (cs := #[.int .i64 x290000_1, .int .i64 x290001_1]) ?_ 0 _ rfl; (with_reducible repeat (first | refine blk_drewN ?_ _ | refine blk_drew ?_ | refine blk_alloc ?_ _)); exact BK289.out) Try.underlying29 rfl (by kernel_rfl) .nil)))) rfl ?_
                   exact ⟨_, _, by first | rfl | (simp [errW_none, errW_some] <;> rfl) | (simp [*, errW_none, errW_some] <;> rfl), by first | exact Kd.R_nil _ _ _ _ _ | exact Kd.N_nil _ _ _ _ _ | exact Kd.V_nil _ _ _ _ _ | exact Kd.Q_nil _ _ _ _ _ | exact Kd.S_nil _ _ _ _ _, by first | exact Kd.R_nil _ _ _ _ _ | exact Kd.N_nil _ _ _ _ _ | exact Kd.V_nil _ _ _ _ _ | exact Kd.Q_nil _ _ _ _ _ | exact Kd.S_nil _ _ _ _ _, by repeat (first | (with_reducible first | exact HB.out | apply below_alloc | apply pw_below_drewN | apply below_drew1 | refine below_set ?_ GE288.out | refine below_set ?_ GE289.out | refine below_set ?_ GE297.out) | exact HB.out)⟩
                  ·rw [if_neg c62] at H
                   have c62b0 : decide (1048576 < x13_4) = false := decide_eq_false c62
                   clear c62
                   by_cases c66 : 0 ≤ x26_1
                   ·rw [if_pos c66] at H
                    have c66b0 : decide (0 ≤ x26_1) = true := decide_eq_true c66
                    clear c66
                    by_cases c67 : x26_1 < (x8_1.length : Int)
                    ·rw [if_pos c67] at H
                     have c67b0 : decide (x26_1 < (x8_1.length : Int)) = true := decide_eq_true c67
                     clear c67
                     obtain ⟨y305, hy305⟩ : ∃ y_ : List (S80), y_ = (x8_1.set (x26_1 : Int).toNat (⟨x12_18, wrap64 (x13_4 - x12_18)⟩ : S80)) := ⟨_, rfl⟩
                     replace H : (place_Assign.l0 k4 l1 x7_4 y305 x13_4 l0_0 (l0_0.length : Int) (wrap64 (x26_1 + 1))) = some (r1, r2, r3, r4) := by first | (rw [hy305]; with_reducible exact H) | (have H2_ := (Option.bind_some _ _).symm.trans H; rw [hy305]; with_reducible exact H2_) | (have H2_ := (Option.bind_some _ _).symm.trans H; with_reducible exact H2_) | with_reducible exact H | (rw [hy305]; exact H) | exact H
                     have Ny305 := Aside0.mk hy305
                     clear hy305
                     have H' := Aside0.mk H
                     clear H
                     have p68 : 0 ≤ (x26_1 : Int) := of_decide_eq_true (by first | (with_reducible assumption) | assumption)
                     have q68 : (x26_1 : Int) < ((x8_1.length : Int) : Int) := of_decide_eq_true (by first | (with_reducible assumption) | assumption)
                     obtain ⟨go68, co68, eo68, gb68, gl68, cl68, HG68⟩ := Kd.R_form HO_8.out (by omega)
                     (first | cases eo68 | (injection eo68 with ea_ en_ ec_; (first | subst ea_ | (injection ea_ with ea_; subst ea_)); subst ec_; clear en_))
                     have GB68 := Aside0.mk gb68
                     have GG68 := Aside0.mk HG68
                     clear gb68 gl68 HG68
                     obtain ⟨ce68, hcl68, hM68, hcc68, hfr68⟩ := Kd.R_elem HO_8.out z80 (x26_1 : Int) p68 q68
                     obtain rfl := k80_openM hM68
                     have hx68_0 : wr.cell? ⟨go68, (x26_1 : Int).toNat * 2, none⟩ = some (.int .i64 ((rd_T80 x8_1 x26_1).f0)) := hcc68 0 _ rfl
                     have hx68_1 : wr.cell? ⟨go68, (x26_1 : Int).toNat * 2 + 1, none⟩ = some (.int .i64 ((rd_T80 x8_1 x26_1).f1)) := hcc68 1 _ rfl
                     have hf68_0 : wr.frozen? ⟨go68, (x26_1 : Int).toNat * 2, none⟩ = false := hfr68 0
                     have hf68_1 : wr.frozen? ⟨go68, (x26_1 : Int).toNat * 2 + 1, none⟩ = false := hfr68 1
                     clear hcl68 hcc68 hfr68 hM68
                     replace p68 := eq_true p68
                     replace q68 := eq_true q68
                     have HX69 := Aside0.mk (show Kd.R k80 80 wr w.heap.size (fun _ => True) (.slice (some ⟨go68, 0, none⟩) x8_1.length co68) x8_1 from (by (with_reducible repeat (first | apply Kd.R_alloc | apply Kd.R_drewN | apply Kd.R_drew)); exact HO_8.out))
                     obtain ⟨ce69, hcl69, hM69, hcc69, hfr69⟩ := Kd.R_elem HX69.out z80 (x26_1 : Int) (of_decide_eq_true (by first | (with_reducible assumption) | assumption)) (by have h_ : (x26_1 : Int) < ((x8_1.length : Int) : Int) := of_decide_eq_true (by first | (with_reducible assumption) | assumption); first | exact h_ | (have e_ := (Kd.R_reads' HO_8.out).1; omega) | simpa using h_)
                     obtain rfl := k80_openM hM69
                     have HP69 := Kd.R_seg HX69.out (x26_1 : Int) (of_decide_eq_true (by first | (with_reducible assumption) | assumption)) (by have h_ : (x26_1 : Int) < ((x8_1.length : Int) : Int) := of_decide_eq_true (by first | (with_reducible assumption) | assumption); first | exact h_ | (have e_ := (Kd.R_reads' HO_8.out).1; omega) | simpa using h_) (seg := [.int .i64 x12_18, .int .i64 (wrap64 (x13_4 - x12_18))]) (j := 0) hcl69 hcc69 (show 2 ≤ 2 from by decide) (x' := (⟨x12_18, wrap64 (x13_4 - x12_18)⟩ : S80)) (k80_mkM _ _ _ (⟨x12_18, wrap64 (x13_4 - x12_18)⟩ : S80) ) (fun _ hk => hk)
                     have hx69_0 := hcc69 0 _ rfl
                     (try simp only [show (k80).sz = 2 from rfl, Nat.mul_one, Nat.add_zero] at hx69_0)
                     have hf69_0 := hfr69 0
                     (try simp only [show (k80).sz = 2 from rfl, Nat.mul_one, Nat.add_zero] at hf69_0)
                     have hx69_1 := hcc69 1 _ rfl
                     (try simp only [show (k80).sz = 2 from rfl, Nat.mul_one, Nat.add_zero] at hx69_1)
                     have hf69_1 := hfr69 1
                     (try simp only [show (k80).sz = 2 from rfl, Nat.mul_one, Nat.add_zero] at hf69_1)
                     clear hcl69 hcc69 hfr69 hM69
                     go_wp2_with (first | ((with_reducible refine gate_store (t := 80) (p := 90) rfl ?_); (try (rw [drewN_self wr]; generalize hq_ : World.drewN wr _ = wr; have n0_ := Aside0.mk (Kd.R_at hq_ HO_7.out); have n1_ := Aside0.mk (Kd.R_at hq_ HO_8.out); have n2_ := Aside0.mk (blk_at hq_ BK288.out); have n3_ := Aside0.mk (blk_at hq_ BK289.out); have n4_ := Aside0.mk (blk_at hq_ BK297.out); have n5_ := Aside0.mk (below_at hq_ HB.out); clear hq_ HO_7 HO_8 BK288 BK289 BK297 HB; have HO_7 := n0_; have HO_8 := n1_; have BK288 := n2_; have BK289 := n3_; have BK297 := n4_; have HB := n5_; clear n0_ n1_ n2_ n3_ n4_ n5_; (try (have HX69 := Aside0.mk (show Kd.R k80 80 wr w.heap.size (fun _ => True) (.slice (some ⟨go68, 0, none⟩) x8_1.length co68) x8_1 from (by (with_reducible repeat (first | apply Kd.R_alloc | apply Kd.R_drewN | apply Kd.R_drew)); exact HO_8.out)))); (try (obtain ⟨ce69, hcl69, hM69, hcc69, hfr69⟩ := Kd.R_elem HX69.out z80 (x26_1 : Int) (of_decide_eq_true (by first | (with_reducible assumption) | assumption)) (by have h_ : (x26_1 : Int) < ((x8_1.length : Int) : Int) := of_decide_eq_true (by first | (with_reducible assumption) | assumption); first | exact h_ | (have e_ := (Kd.R_reads' HO_8.out).1; omega) | simpa using h_))); (try (obtain rfl := k80_openM hM69)); (try (have HP69 := Kd.R_seg HX69.out (x26_1 : Int) (of_decide_eq_true (by first | (with_reducible assumption) | assumption)) (by have h_ : (x26_1 : Int) < ((x8_1.length : Int) : Int) := of_decide_eq_true (by first | (with_reducible assumption) | assumption); first | exact h_ | (have e_ := (Kd.R_reads' HO_8.out).1; omega) | simpa using h_) (seg := [.int .i64 x12_18, .int .i64 (wrap64 (x13_4 - x12_18))]) (j := 0) hcl69 hcc69 (show 2 ≤ 2 from by decide) (x' := (⟨x12_18, wrap64 (x13_4 - x12_18)⟩ : S80)) (k80_mkM _ _ _ (⟨x12_18, wrap64 (x13_4 - x12_18)⟩ : S80) ) (fun _ hk => hk))); (try (have hx69_0 := hcc69 0 _ rfl)); (try (try simp only [show (k80).sz = 2 from rfl, Nat.mul_one, Nat.add_zero] at hx69_0)); (try (have hf69_0 := hfr69 0)); (try (try simp only [show (k80).sz = 2 from rfl, Nat.mul_one, Nat.add_zero] at hf69_0)); (try (have hx69_1 := hcc69 1 _ rfl)); (try (try simp only [show (k80).sz = 2 from rfl, Nat.mul_one, Nat.add_zero] at hx69_1)); (try (have hf69_1 := hfr69 1)); (try (try simp only [show (k80).sz = 2 from rfl, Nat.mul_one, Nat.add_zero] at hf69_1)); (try (clear hcl69 hcc69 hfr69 hM69)))); refine store_event (t := 80) (p := 90) (v := ?vo_w70) (w1 := ((wr.setCell ⟨go68, (x26_1 : Int).toNat * 2, none⟩ (.int .i64 x12_18)).setCell ⟨go68, (x26_1 : Int).toNat * 2 + 1, none⟩ (.int .i64 (wrap64 (x13_4 - x12_18))))) ?hg ?ho ?hn ?hr ?_; (case ho => rfl); (case hg => rfl); (case hn => rfl); (case hr => first | (go_simp; done) | (go_simp; rfl)); intro w70 hw; have hg : wr.grownBy w70 (some go68) := (by rw [hw]; exact HP69.2); have hp_ : Kd.R k80 80 w70 w.heap.size (fun _ => True) (.slice (some ⟨go68, 0, none⟩) x8_1.length co68) y305 := (by rw [hw, Ny305.out]; exact HP69.1); clear HP69; have n0_ := Aside0.mk (Kd.R_over' (v := (.slice (some ⟨go68, 0, none⟩) x8_1.length co68)) (by (with_reducible repeat (first | apply Kd.R_alloc | apply Kd.R_drewN | apply Kd.R_drew)); exact HO_7.out) (Kd.R_typed HO_8.out) (by decide) hg); have n1_ := Aside0.mk (hp_); have n2_ := Aside0.mk (blk_grown (g := gb288) (o := .cells #[.slice (some ad296) l0_0.length c0_0, .slice A0_1 l0_1.length c0_1] 25 (0, 0)) (by (with_reducible repeat (first | refine blk_drewN ?_ _ | refine blk_drew ?_ | refine blk_alloc ?_ _)); exact BK288.out) hg (Kd.R_ne HO_8.out BK288.out (by decide))); have n3_ := Aside0.mk (blk_grown (g := gb289) (o := .cells #[.int .i64 x290000_1, .int .i64 x290001_1] 29 (0, 0)) (by (with_reducible repeat (first | refine blk_drewN ?_ _ | refine blk_drew ?_ | refine blk_alloc ?_ _)); exact BK289.out) hg (Kd.R_ne HO_8.out BK289.out (by decide))); have n4_ := Aside0.mk (blk_grown (g := gb297) (o := .cells #[.string ((rd_T72 l0_0 x26_1).f0), .int .i64 ((rd_T72 l0_0 x26_1).f1), .int .i64 ((rd_T72 l0_0 x26_1).f2), .int .i64 ((rd_T72 l0_0 x26_1).f3)] 72 (0, 0)) (by (with_reducible repeat (first | refine blk_drewN ?_ _ | refine blk_drew ?_ | refine blk_alloc ?_ _)); exact BK297.out) hg (Kd.R_ne HO_8.out BK297.out (by decide))); have n5_ := Aside0.mk ((by rw [hw]; exact below_set (below_set (HB.out) GB68.out) GB68.out : Below w.heap.size w w70)); clear HO_7; clear HO_8; clear BK288; clear BK289; clear BK297; clear HB; have HO_7 := n0_; have HO_8 := n1_; have BK288 := n2_; have BK289 := n3_; have BK297 := n4_; have HB := n5_; clear n0_ n1_ n2_ n3_ n4_ n5_; clear hg hw hp_))
                     skip
                     go_roundg k4
                     case measure => have := HK1.out; have := HJ18.out; have := HJ29.out; have := HK4.out; omega
                     case rel => exact ⟨(x7_4), (y305), (x13_4), (wrap64 (x26_1 + 1)), (x290000_1), (x290001_1), (by first | rfl | (simp; done) | (simp [*]; done)), (by first | rfl | (simp; done) | (simp [*]; done)), H', ⟨by have := HK1.out; have := HJ18.out; have := HJ29.out; have := HK4.out; omega⟩, ⟨by (with_reducible repeat (first | apply Kd.R_alloc | apply Kd.R_drewN | apply Kd.R_drew)); exact HO_7.out⟩, ⟨by (with_reducible repeat (first | apply Kd.R_alloc | apply Kd.R_drewN | apply Kd.R_drew)); exact HO_8.out⟩, ⟨by (with_reducible repeat (first | refine blk_drewN ?_ _ | refine blk_drew ?_ | refine blk_alloc ?_ _)); exact BK288.out⟩, ⟨by (with_reducible repeat (first | refine blk_drewN ?_ _ | refine blk_drew ?_ | refine blk_alloc ?_ _)); exact BK289.out⟩, ⟨by repeat (first | (with_reducible first | exact HB.out | apply below_alloc | apply pw_below_drewN | apply below_drew1 | refine below_set ?_ GE288.out | refine below_set ?_ GE289.out | refine below_set ?_ GE297.out) | exact HB.out)⟩⟩
                    ·rw [if_neg c67] at H
                     exact absurd H (by simp)
                   ·rw [if_neg c66] at H
                    exact absurd H (by simp)
         ·rw [if_neg c18] at H
          exact absurd H (by simp)
        ·rw [if_neg c17] at H
         exact absurd H (by simp)
       ·rw [if_neg c16] at H
        have c16b0 : decide (x26_1 < (l0_0.length : Int)) = false := decide_eq_false c16
        clear c16
        simp only [Option.some.injEq, Prod.mk.injEq] at H
        obtain ⟨rfl, rfl, rfl, rfl⟩ := H
        have hnb71 := NB289_288.out
        have hnc71 := NB288_289.out
        have hcz72_0 : wr.cell? ⟨gb289, 0, none⟩ = some (.int .i64 x290000_1) := (blk_cell BK289.out 0).trans rfl
        have hcz72_1 : wr.cell? ⟨gb289, 1, none⟩ = some (.int .i64 x290001_1) := (blk_cell BK289.out 1).trans rfl
        have hfz72_0 := blk_frozen BK289.out 0
        have hfz72_1 := blk_frozen BK289.out 1
        go_wp2
        repeat (go_quiet (fail); try go_wp2)
        refine bodyPost_ret (results_list (rs := [.tmp 4, .tmp 5, .cell 6 29]) rfl (by simp) (.tmp (.tmp (.cell gb289 29 #[.int .i64 0, .int .i64 0] (0, 0) _ rfl (by (with_reducible repeat (first | refine blk_drewN ?_ _ | refine blk_drew ?_ | refine blk_alloc ?_ _)); refine blk_put (cs := #[.int .i64 0, .int .i64 x290001_1]) ?_ 1 _ rfl; (with_reducible repeat (first | refine blk_drewN ?_ _ | refine blk_drew ?_ | refine blk_alloc ?_ _)); refine blk_put (cs := #[.int .i64 x290000_1, .int .i64 x290001_1]) ?_ 0 _ rfl; (with_reducible repeat (first | refine blk_drewN ?_ _ | refine blk_drew ?_ | refine blk_alloc ?_ _)); exact BK289.out) Try.underlying29 rfl (by kernel_rfl) .nil)))) rfl ?_
        exact ⟨_, _, by first | rfl | (simp [errW_none, errW_some] <;> rfl) | (simp [*, errW_none, errW_some] <;> rfl), by (with_reducible repeat (first | apply Kd.R_alloc | apply Kd.R_drewN | apply Kd.R_drew)); exact Kd.R_mono (Kd.R_far (p := ⟨gb289, 1, none⟩) (Kd.R_far (p := ⟨gb289, 0, none⟩) (Kd.R_types HO_7.out BK289.out (by decide)) (fun _ hk => hk.2) (.int .i64 0)) (fun _ hk => hk.2) (.int .i64 0)) (fun _ hk => trivial), by (with_reducible repeat (first | apply Kd.R_alloc | apply Kd.R_drewN | apply Kd.R_drew)); exact Kd.R_mono (Kd.R_far (p := ⟨gb289, 1, none⟩) (Kd.R_far (p := ⟨gb289, 0, none⟩) (Kd.R_types HO_8.out BK289.out (by decide)) (fun _ hk => hk.2) (.int .i64 0)) (fun _ hk => hk.2) (.int .i64 0)) (fun _ hk => trivial), by repeat (first | (with_reducible first | exact HB.out | apply below_alloc | apply pw_below_drewN | apply below_drew1 | refine below_set ?_ GE288.out | refine below_set ?_ GE289.out) | exact HB.out)⟩
    ·rw [if_neg c6] at H
     exact absurd H (by simp)
   ·rw [if_neg c5] at H
    exact absurd H (by simp)
  ·rw [if_neg c4] at H
   exact absurd H (by simp)
 ·rw [if_neg c3] at H
  exact absurd H (by simp)
def apply_bounds.f (a0 : Int) : Option (Int × Int) := if a0 = 2 then (some ((-32768), 32767)) else (if a0 = 3 then (some ((-128), 127)) else (some (0, 4294967295)))
set_option maxHeartbeats 8000000 in
set_option maxRecDepth 100000 in
theorem apply_bounds.calls (a0 : Int) (r1 : Int) (r2 : Int) (w : World) (h : apply_bounds.f a0 = some (r1, r2)) :
  Calls Try.prog 62 #[.int .i64 a0] w fun e w' => e = .returned (.tuple #[.int .i64 r1, .int .i64 r2]) ∧ Drawn0 w w' := by
 have H : (if a0 = 2 then (some ((-32768), 32767)) else (if a0 = 3 then (some ((-128), 127)) else (some (0, 4294967295)))) = some (r1, r2) := h
 clear h
 by_cases c2 : a0 = 2
 ·rw [if_pos c2] at H
  have c2b0 : (a0 == 2) = true := beq_iff_eq.mpr c2
  have c2b1 : (a0 != 2) = false := bne_eq_false_iff_eq.mpr c2
  clear c2
  simp only [Option.some.injEq, Prod.mk.injEq] at H
  obtain ⟨rfl, rfl⟩ := H
  go_enter Try.func62, Try.ntmps62
  go_wp2
  go_ret2
  exact ⟨by first | rfl | (simp; done) | (simp [*]; done), by repeat (first | exact Drawn0.refl _ | apply Drawn0.step)⟩
 ·rw [if_neg c2] at H
  have c2b0 : (a0 == 2) = false := beq_eq_false_iff_ne.mpr c2
  have c2b1 : (a0 != 2) = true := bne_iff_ne.mpr c2
  by_cases c3 : a0 = 3
  ·rw [if_pos c3] at H
   have c3b0 : (a0 == 3) = true := beq_iff_eq.mpr c3
   have c3b1 : (a0 != 3) = false := bne_eq_false_iff_eq.mpr c3
   clear c3
   simp only [Option.some.injEq, Prod.mk.injEq] at H
   obtain ⟨rfl, rfl⟩ := H
   go_enter Try.func62, Try.ntmps62
   go_wp2
   go_ret2
   exact ⟨by first | rfl | (simp; done) | (simp [*]; done), by repeat (first | exact Drawn0.refl _ | apply Drawn0.step)⟩
  ·rw [if_neg c3] at H
   have c3b0 : (a0 == 3) = false := beq_eq_false_iff_ne.mpr c3
   have c3b1 : (a0 != 3) = true := bne_iff_ne.mpr c3
   simp only [Option.some.injEq, Prod.mk.injEq] at H
   obtain ⟨rfl, rfl⟩ := H
   go_enter Try.func62, Try.ntmps62
   go_wp2
   go_ret2
   exact ⟨by first | rfl | (simp; done) | (simp [*]; done), by repeat (first | exact Drawn0.refl _ | apply Drawn0.step)⟩
end Go.Proofs.Ytogcgcjhoebooaa.PVeneerMatchesSpec
end
section
set_option linter.unusedVariables false
set_option linter.unusedSimpArgs false
namespace Go.Proofs.Ytogcgcjhoebooaa.PVeneerMatchesSpec
open Go.RowKit Go.Proofs.YtogcgcjhoebooaaW.PrintWords Go.Proofs.YtogcgcjhoebooaaW.PrintLast Go.Proofs.YtogcgcjhoebooaaW.PrintMore
attribute [local go_sem high] eqA89
def apply_Number.j0 : Nat → Int → Int → Int → Bool → Option (Int × Bool)
 | 0, _, _, _, _ => none
 | k + 1, x0, x3, x10, x21 => if x21 = true then ((apply_Width.f k x0).bind fun t307 => ((apply_bounds.f x0).bind fun bt308 => (if (wrap64 (x10 - (wrap64 (x3 + t307)))) ≥ bt308.1 then (some (wrap64 (x10 - (wrap64 (x3 + t307))), decide ((wrap64 (x10 - (wrap64 (x3 + t307)))) ≤ bt308.2))) else (some (wrap64 (x10 - (wrap64 (x3 + t307))), false))))) else ((apply_bounds.f x0).bind fun bt310 => (if x10 ≥ bt310.1 then (some (x10, decide (x10 ≤ bt310.2))) else (some (x10, false))))
def apply_Number.f (k : Nat) (a0 : Int) (a1 : Int) (a2 : Int) (a3 : Int) : Option (Int × Bool) := if a0 = 2 then (apply_Number.j0 k a0 a3 (wrap64 (a1 + a2)) true) else (apply_Number.j0 k a0 a3 (wrap64 (a1 + a2)) (a0 == 3))
theorem apply_Number.mono_l : ∀ k, (∀ y0 y1 y2 y3, LeO (apply_Number.j0 k y0 y1 y2 y3) (apply_Number.j0 (k + 1) y0 y1 y2 y3))
 | 0 => fun _ _ _ _ r h => by simp [apply_Number.j0] at h
 | k + 1 => by
  have ih0 := apply_Number.mono_l k
  ·intro y0 y1 y2 y3
   unfold apply_Number.j0
   repeat' first
   | (with_reducible exact ih0 _ _ _ _)
   | (with_reducible exact apply_Width.mono _ _)
   | (with_reducible exact LeO.refl _)
   | (with_reducible exact LeO.none _)
   | (with_reducible refine LeO.ite ?_ ?_)
   | (with_reducible refine LeO.bind ?_ (fun _ => ?_))
   | exact ih0 _ _ _ _
   | exact apply_Width.mono _ _
   | exact LeO.none _
   | refine LeO.ite ?_ ?_
   | refine LeO.bind ?_ (fun _ => ?_)
theorem apply_Number.mono : ∀ a0 a1 a2 a3 k, LeO (apply_Number.f k a0 a1 a2 a3) (apply_Number.f (k + 1) a0 a1 a2 a3) := by
 intro a0 a1 a2 a3 k
 have ih0 := apply_Number.mono_l k
 unfold apply_Number.f
 repeat' first
   | (with_reducible exact ih0 _ _ _ _)
   | (with_reducible exact apply_Width.mono _ _)
   | (with_reducible exact LeO.refl _)
   | (with_reducible exact LeO.none _)
   | (with_reducible refine LeO.ite ?_ ?_)
   | (with_reducible refine LeO.bind ?_ (fun _ => ?_))
   | exact ih0 _ _ _ _
   | exact apply_Width.mono _ _
   | exact LeO.none _
   | refine LeO.ite ?_ ?_
   | refine LeO.bind ?_ (fun _ => ?_)
set_option maxHeartbeats 8000000 in
set_option maxRecDepth 100000 in
theorem apply_Number.calls (k : Nat) (a0 : Int) (a1 : Int) (a2 : Int) (a3 : Int) (r1 : Int) (r2 : Bool) (w : World) (h : apply_Number.f k a0 a1 a2 a3 = some (r1, r2)) :
  Calls Try.prog 55 #[.int .i64 a0, .int .i64 a1, .int .i64 a2, .int .i64 a3] w fun e w' => e = .returned (.tuple #[.int .i64 r1, .bool r2]) ∧ Drawn0 w w' := by
 have H : (if a0 = 2 then (apply_Number.j0 k a0 a3 (wrap64 (a1 + a2)) true) else (apply_Number.j0 k a0 a3 (wrap64 (a1 + a2)) (a0 == 3))) = some (r1, r2) := h
 clear h
 have HC5 := Aside0.mk H
 clear H
 go_enter Try.func55, Try.ntmps55
 go_upto_region 2 with (fail)
 go_cut [21] (fun v21 wc => ∃ (kq : Nat) (x21_4 : Bool), v21 = .bool x21_4 ∧ Aside0 (apply_Number.j0 kq a0 a3 (wrap64 (a1 + a2)) x21_4 = some (r1, r2)) ∧ Aside0 (kq ≤ k) ∧ Drawn0 w wc)
 case first =>
  have H := HC5.out
  clear HC5
  by_cases c6 : a0 = 2
  ·rw [if_pos c6] at H
   have c6b0 : (a0 == 2) = true := beq_iff_eq.mpr c6
   have c6b1 : (a0 != 2) = false := bne_eq_false_iff_eq.mpr c6
   clear c6
   (first | rw [c6b0] | (simp only [i64_w, i32_w]; rw [c6b0]) | skip)
   have H' := Aside0.mk H
   clear H
   go_wp2
   go_meet
   case rel => exact ⟨_, (true), (by first | rfl | (simp; done) | (simp [*]; done)), H', ⟨by first | omega | exact Nat.le_refl _⟩, by repeat (first | exact Drawn0.refl _ | apply Drawn0.step)⟩
  ·rw [if_neg c6] at H
   have c6b0 : (a0 == 2) = false := beq_eq_false_iff_ne.mpr c6
   have c6b1 : (a0 != 2) = true := bne_iff_ne.mpr c6
   (first | rw [c6b0] | (simp only [i64_w, i32_w]; rw [c6b0]) | skip)
   have H' := Aside0.mk H
   clear H
   go_wp2
   go_meet
   case rel => exact ⟨_, ((a0 == 3)), (by first | rfl | (simp; done) | (simp [*]; done)), H', ⟨by first | omega | exact Nat.le_refl _⟩, by repeat (first | exact Drawn0.refl _ | apply Drawn0.step)⟩
 case rest =>
  clear HC5
  try clear p2
  try clear c5
  try clear c6
  try clear c6b0
  try clear c6b1
  try clear p6
  obtain ⟨kq, x21_4, rfl, HA, HJ4, ⟨mc4, rfl⟩⟩ := hcut
  cases kq with
  | zero => exact absurd HA.out (by simp [apply_Number.j0])
  | succ kj4 =>
   have H := HA.out
   clear HA
   simp only [apply_Number.j0] at H
   by_cases c7 : x21_4 = true
   ·subst c7
    have H1 : ((apply_Width.f kj4 a0).bind fun t307 => ((apply_bounds.f a0).bind fun bt308 => (if (wrap64 ((wrap64 (a1 + a2)) - (wrap64 (a3 + t307)))) ≥ bt308.1 then (some (wrap64 ((wrap64 (a1 + a2)) - (wrap64 (a3 + t307))), decide ((wrap64 ((wrap64 (a1 + a2)) - (wrap64 (a3 + t307)))) ≤ bt308.2))) else (some (wrap64 ((wrap64 (a1 + a2)) - (wrap64 (a3 + t307))), false))))) = some (r1, r2) := by rw [if_pos rfl] at H; exact H
    clear H
    have H := H1
    clear H1
    replace H := Option.bind_eq_some_iff.mp H
    obtain ⟨t307, A80, H⟩ := H
    replace H : ((apply_bounds.f a0).bind fun bt308 => (if (wrap64 ((wrap64 (a1 + a2)) - (wrap64 (a3 + t307)))) ≥ bt308.1 then (some (wrap64 ((wrap64 (a1 + a2)) - (wrap64 (a3 + t307))), decide ((wrap64 ((wrap64 (a1 + a2)) - (wrap64 (a3 + t307)))) ≤ bt308.2))) else (some (wrap64 ((wrap64 (a1 + a2)) - (wrap64 (a3 + t307))), false)))) = some (r1, r2) := H
    have A8 := Aside0.mk A80
    clear A80
    replace H := Option.bind_eq_some_iff.mp H
    obtain ⟨⟨t308, t309⟩, A90, H⟩ := H
    replace H : (if (wrap64 ((wrap64 (a1 + a2)) - (wrap64 (a3 + t307)))) ≥ t308 then (some (wrap64 ((wrap64 (a1 + a2)) - (wrap64 (a3 + t307))), decide ((wrap64 ((wrap64 (a1 + a2)) - (wrap64 (a3 + t307)))) ≤ t309))) else (some (wrap64 ((wrap64 (a1 + a2)) - (wrap64 (a3 + t307))), false))) = some (r1, r2) := H
    have A9 := Aside0.mk A90
    clear A90
    by_cases c10 : (wrap64 ((wrap64 (a1 + a2)) - (wrap64 (a3 + t307)))) ≥ t308
    ·rw [if_pos c10] at H
     have c10b0 : decide (t308 ≤ (wrap64 ((wrap64 (a1 + a2)) - (wrap64 (a3 + t307))))) = true := decide_eq_true c10
     clear c10
     simp only [Option.some.injEq, Prod.mk.injEq] at H
     obtain ⟨rfl, rfl⟩ := H
     go_wp2_with (first | ((with_reducible refine gate_callee (f := 41) rfl ?_); refine goesL_ (some 25) rfl rfl Try.func41 (by kernel_rfl) rfl #[.int .i64 a0] rfl (by (try simp only [List.map_toArray, List.map_cons, List.map_nil]); first | done | rfl | (simp only [List.length_drop, List.length_take]; rfl)) ?_; (with_reducible refine (apply_Width.calls kj4 a0 t307 _ A8.out).mono ?_); rintro e w' ⟨rfl, ⟨nd, rfl⟩⟩; refine ⟨_, rfl, ?_⟩) | ((with_reducible refine gate_callee (f := 62) rfl ?_); refine goesL_ (some 30) rfl rfl Try.func62 (by kernel_rfl) rfl #[.int .i64 a0] rfl (by (try simp only [List.map_toArray, List.map_cons, List.map_nil]); first | done | rfl | (simp only [List.length_drop, List.length_take]; rfl)) ?_; (with_reducible refine (apply_bounds.calls a0 t308 t309 _ A9.out).mono ?_); rintro e w' ⟨rfl, ⟨nd, rfl⟩⟩; refine ⟨_, rfl, ?_⟩))
     go_ret2
     exact ⟨by first | rfl | (simp; done) | (simp [*]; done), by repeat (first | exact Drawn0.refl _ | apply Drawn0.step)⟩
    ·rw [if_neg c10] at H
     have c10b0 : decide (t308 ≤ (wrap64 ((wrap64 (a1 + a2)) - (wrap64 (a3 + t307))))) = false := decide_eq_false c10
     clear c10
     simp only [Option.some.injEq, Prod.mk.injEq] at H
     obtain ⟨rfl, rfl⟩ := H
     go_wp2_with (first | ((with_reducible refine gate_callee (f := 41) rfl ?_); refine goesL_ (some 25) rfl rfl Try.func41 (by kernel_rfl) rfl #[.int .i64 a0] rfl (by (try simp only [List.map_toArray, List.map_cons, List.map_nil]); first | done | rfl | (simp only [List.length_drop, List.length_take]; rfl)) ?_; (with_reducible refine (apply_Width.calls kj4 a0 t307 _ A8.out).mono ?_); rintro e w' ⟨rfl, ⟨nd, rfl⟩⟩; refine ⟨_, rfl, ?_⟩) | ((with_reducible refine gate_callee (f := 62) rfl ?_); refine goesL_ (some 30) rfl rfl Try.func62 (by kernel_rfl) rfl #[.int .i64 a0] rfl (by (try simp only [List.map_toArray, List.map_cons, List.map_nil]); first | done | rfl | (simp only [List.length_drop, List.length_take]; rfl)) ?_; (with_reducible refine (apply_bounds.calls a0 t308 t309 _ A9.out).mono ?_); rintro e w' ⟨rfl, ⟨nd, rfl⟩⟩; refine ⟨_, rfl, ?_⟩))
     go_ret2
     exact ⟨by first | rfl | (simp; done) | (simp [*]; done), by repeat (first | exact Drawn0.refl _ | apply Drawn0.step)⟩
   ·replace c7 := Bool.eq_false_iff.mpr c7
    subst c7
    have H1 : ((apply_bounds.f a0).bind fun bt310 => (if (wrap64 (a1 + a2)) ≥ bt310.1 then (some ((wrap64 (a1 + a2)), decide ((wrap64 (a1 + a2)) ≤ bt310.2))) else (some ((wrap64 (a1 + a2)), false)))) = some (r1, r2) := by rw [if_neg (show ¬ (false = true) by decide)] at H; exact H
    clear H
    have H := H1
    clear H1
    replace H := Option.bind_eq_some_iff.mp H
    obtain ⟨⟨t310, t311⟩, A110, H⟩ := H
    replace H : (if (wrap64 (a1 + a2)) ≥ t310 then (some ((wrap64 (a1 + a2)), decide ((wrap64 (a1 + a2)) ≤ t311))) else (some ((wrap64 (a1 + a2)), false))) = some (r1, r2) := H
    have A11 := Aside0.mk A110
    clear A110
    by_cases c12 : (wrap64 (a1 + a2)) ≥ t310
    ·rw [if_pos c12] at H
     have c12b0 : decide (t310 ≤ (wrap64 (a1 + a2))) = true := decide_eq_true c12
     clear c12
     simp only [Option.some.injEq, Prod.mk.injEq] at H
     obtain ⟨rfl, rfl⟩ := H
     go_wp2_with (first | ((with_reducible refine gate_callee (f := 62) rfl ?_); refine goesL_ (some 30) rfl rfl Try.func62 (by kernel_rfl) rfl #[.int .i64 a0] rfl (by (try simp only [List.map_toArray, List.map_cons, List.map_nil]); first | done | rfl | (simp only [List.length_drop, List.length_take]; rfl)) ?_; (with_reducible refine (apply_bounds.calls a0 t310 t311 _ A11.out).mono ?_); rintro e w' ⟨rfl, ⟨nd, rfl⟩⟩; refine ⟨_, rfl, ?_⟩))
     go_ret2
     exact ⟨by first | rfl | (simp; done) | (simp [*]; done), by repeat (first | exact Drawn0.refl _ | apply Drawn0.step)⟩
    ·rw [if_neg c12] at H
     have c12b0 : decide (t310 ≤ (wrap64 (a1 + a2))) = false := decide_eq_false c12
     clear c12
     simp only [Option.some.injEq, Prod.mk.injEq] at H
     obtain ⟨rfl, rfl⟩ := H
     go_wp2_with (first | ((with_reducible refine gate_callee (f := 62) rfl ?_); refine goesL_ (some 30) rfl rfl Try.func62 (by kernel_rfl) rfl #[.int .i64 a0] rfl (by (try simp only [List.map_toArray, List.map_cons, List.map_nil]); first | done | rfl | (simp only [List.length_drop, List.length_take]; rfl)) ?_; (with_reducible refine (apply_bounds.calls a0 t310 t311 _ A11.out).mono ?_); rintro e w' ⟨rfl, ⟨nd, rfl⟩⟩; refine ⟨_, rfl, ?_⟩))
     go_ret2
     exact ⟨by first | rfl | (simp; done) | (simp [*]; done), by repeat (first | exact Drawn0.refl _ | apply Drawn0.step)⟩
def veneer_address.f (l0 : List Int) (a1 : Int) (a2 : Int) : Option (Int) := if a1 < 0 then (some a2) else (if 0 ≤ a1 then (if a1 < (l0.length : Int) then (some (wrap64 ((rd l0 a1) + a2))) else (none)) else (none))
set_option maxHeartbeats 8000000 in
set_option maxRecDepth 100000 in
theorem veneer_address.calls (A0 : Option Addr) (c0 : Nat) (l0 : List Int) (a1 : Int) (a2 : Int) (r : Int) (w : World) (hr0 : Kd.C (Kd.int .i64) w A0 l0.length l0) (hc0 : l0.length ≤ c0) (h : veneer_address.f l0 a1 a2 = some r) :
  Calls Try.prog 56 #[.slice A0 l0.length c0, .int .i64 a1, .int .i64 a2] w fun e w' => e = .returned (.int .i64 r) ∧ Drawn0 w w' := by
 have HR0 := Aside0.mk hr0
 have HC0 := Aside0.mk hc0
 clear hr0 hc0
 have H : (if a1 < 0 then (some a2) else (if 0 ≤ a1 then (if a1 < (l0.length : Int) then (some (wrap64 ((rd l0 a1) + a2))) else (none)) else (none))) = some r := h
 clear h
 by_cases c4 : a1 < 0
 ·rw [if_pos c4] at H
  have c4b0 : decide (a1 < 0) = true := decide_eq_true c4
  clear c4
  obtain rfl := Option.some.inj H
  go_enter Try.func56, Try.ntmps56
  go_wp2
  go_ret
  exact ⟨by first | rfl | (simp; done) | (simp [*]; done), by repeat (first | exact Drawn0.refl _ | apply Drawn0.step)⟩
 ·rw [if_neg c4] at H
  have c4b0 : decide (a1 < 0) = false := decide_eq_false c4
  clear c4
  by_cases c5 : 0 ≤ a1
  ·rw [if_pos c5] at H
   have c5b0 : decide (0 ≤ a1) = true := decide_eq_true c5
   clear c5
   by_cases c6 : a1 < (l0.length : Int)
   ·rw [if_pos c6] at H
    have c6b0 : decide (a1 < (l0.length : Int)) = true := decide_eq_true c6
    clear c6
    obtain rfl := Option.some.inj H
    have p312 : 0 ≤ (a1 : Int) := of_decide_eq_true (by first | (with_reducible assumption) | assumption)
    have q312 : a1 < (l0.length : Int) := of_decide_eq_true (by first | (with_reducible assumption) | assumption)
    obtain ⟨ad312, e312, hx312_0⟩ := Kd.at_int HR0.out a1 p312 q312
    cases e312
    replace p312 := eq_true p312
    replace q312 := eq_true q312
    go_enter Try.func56, Try.ntmps56
    go_wp2
    go_ret
    exact ⟨by first | rfl | (simp; done) | (simp [*]; done), by repeat (first | exact Drawn0.refl _ | apply Drawn0.step)⟩
   ·rw [if_neg c6] at H
    exact absurd H (by simp)
  ·rw [if_neg c5] at H
   exact absurd H (by simp)
def veneer_goalOf.f (a0_0 : Int) (a0_1 : Int) (a0_2 : Int) (a0_3 : Int) (a0_4 : Int) (a0_5 : Int) : Option (Int × Int × Int) := some (a0_4, a0_5, a0_3)
set_option maxHeartbeats 8000000 in
set_option maxRecDepth 100000 in
theorem veneer_goalOf.calls (a0_0 : Int) (a0_1 : Int) (a0_2 : Int) (a0_3 : Int) (a0_4 : Int) (a0_5 : Int) (r1 : Int) (r2 : Int) (r3 : Int) (w : World) (h : veneer_goalOf.f a0_0 a0_1 a0_2 a0_3 a0_4 a0_5 = some (r1, r2, r3)) :
  Calls Try.prog 57 #[.agg #[.int .i64 a0_0, .int .i64 a0_1, .int .i64 a0_2, .int .i64 a0_3, .int .i64 a0_4, .int .i64 a0_5]] w fun e w' => e = .returned (.agg #[.int .i64 r1, .int .i64 r2, .int .i64 r3]) ∧ Below w.heap.size w w' := by
 have hu48 := Try.underlying48
 have hu89 := Try.underlying89
 have HB := Aside0.mk (Below.refl w.heap.size w)
 have H : (some (a0_4, a0_5, a0_3)) = some (r1, r2, r3) := h
 clear h
 simp only [Option.some.injEq, Prod.mk.injEq] at H
 obtain ⟨rfl, rfl, rfl⟩ := H
 go_enter Try.func57, Try.ntmps57
 go_wp2_with (first | ((with_reducible refine gate_dst (N := 1) rfl ?_); refine box_event ?hg (N := 1) ?hd (cs := #[.int .i64 a0_0, .int .i64 a0_1, .int .i64 a0_2, .int .i64 a0_3, .int .i64 a0_4, .int .i64 a0_5]) (t := 48) ?hr ?_; (case hd => rfl); (case hg => rfl); (case hr => first | (go_simp; done) | (go_simp; rfl)); intro gb318 hg w2 hbox hb; have n0_ := Aside0.mk (below_step (by repeat (first | (with_reducible first | exact HB.out | apply below_alloc | apply pw_below_drewN | apply below_drew1) | exact HB.out)) hb); have n1_ := Aside0.mk (hbox); have n2_ := Aside0.mk ((by rw [hg]; exact (below_size (by repeat (first | (with_reducible first | exact HB.out | apply below_alloc | apply pw_below_drewN | apply below_drew1) | exact HB.out))) : w.heap.size ≤ gb318)); have n3_ := Aside0.mk ((by rw [hg]; exact (below_size (by repeat (first | (with_reducible first | exact HB.out | apply below_alloc | apply pw_below_drewN | apply below_drew1) | exact HB.out))) : w.heap.size ≤ gb318)); clear HB; have HB := n0_; have BK318 := n1_; have GW318 := n2_; have GE318 := n3_; clear n0_ n1_ n2_ n3_; clear hb hbox hg) | ((with_reducible refine gate_dst (N := 2) rfl ?_); refine box_event ?hg (N := 2) ?hd (cs := #[.int .i64 0, .int .i64 0, .int .i64 0]) (t := 89) ?hr ?_; (case hd => rfl); (case hg => rfl); (case hr => first | (go_simp; done) | (go_simp; rfl)); intro gb319 hg w3 hbox hb; have n0_ := Aside0.mk (blk_below (g := gb318) (o := .cells #[.int .i64 a0_0, .int .i64 a0_1, .int .i64 a0_2, .int .i64 a0_3, .int .i64 a0_4, .int .i64 a0_5] 48 (0, 0)) (by (with_reducible repeat (first | refine blk_drewN ?_ _ | refine blk_drew ?_ | refine blk_alloc ?_ _)); exact BK318.out) hb); have n1_ := Aside0.mk (below_step (by repeat (first | (with_reducible first | exact HB.out | apply below_alloc | apply pw_below_drewN | apply below_drew1 | refine below_set ?_ GE318.out) | exact HB.out)) hb); have n2_ := Aside0.mk (hbox); have n3_ := Aside0.mk ((by rw [hg]; exact (below_size (by repeat (first | (with_reducible first | exact HB.out | apply below_alloc | apply pw_below_drewN | apply below_drew1 | refine below_set ?_ GE318.out) | exact HB.out))) : w.heap.size ≤ gb319)); have n4_ := Aside0.mk ((by rw [hg]; exact (below_size (by repeat (first | (with_reducible first | exact HB.out | apply below_alloc | apply pw_below_drewN | apply below_drew1 | refine below_set ?_ GE318.out) | exact HB.out))) : w.heap.size ≤ gb319)); have n5_ := Aside0.mk ((by rw [hg]; exact Nat.ne_of_lt (blk_lt (g := gb318) (o := .cells #[.int .i64 a0_0, .int .i64 a0_1, .int .i64 a0_2, .int .i64 a0_3, .int .i64 a0_4, .int .i64 a0_5] 48 (0, 0)) (by (with_reducible repeat (first | refine blk_drewN ?_ _ | refine blk_drew ?_ | refine blk_alloc ?_ _)); exact BK318.out)) : gb318 ≠ gb319)); have n6_ := Aside0.mk ((by rw [hg]; exact Nat.ne_of_gt (blk_lt (g := gb318) (o := .cells #[.int .i64 a0_0, .int .i64 a0_1, .int .i64 a0_2, .int .i64 a0_3, .int .i64 a0_4, .int .i64 a0_5] 48 (0, 0)) (by (with_reducible repeat (first | refine blk_drewN ?_ _ | refine blk_drew ?_ | refine blk_alloc ?_ _)); exact BK318.out)) : gb319 ≠ gb318)); clear BK318; clear HB; have BK318 := n0_; have HB := n1_; have BK319 := n2_; have GW319 := n3_; have GE319 := n4_; have NB318_319 := n5_; have NB319_318 := n6_; clear n0_ n1_ n2_ n3_ n4_ n5_ n6_; clear hb hbox hg; have hnb4 := NB318_319.out; have hnc4 := NB319_318.out; have hcz5_0 : w3.cell? ⟨gb318, 0, none⟩ = some (.int .i64 a0_0) := (blk_cell BK318.out 0).trans rfl; have hcz5_1 : w3.cell? ⟨gb318, 1, none⟩ = some (.int .i64 a0_1) := (blk_cell BK318.out 1).trans rfl; have hcz5_2 : w3.cell? ⟨gb318, 2, none⟩ = some (.int .i64 a0_2) := (blk_cell BK318.out 2).trans rfl; have hcz5_3 : w3.cell? ⟨gb318, 3, none⟩ = some (.int .i64 a0_3) := (blk_cell BK318.out 3).trans rfl; have hcz5_4 : w3.cell? ⟨gb318, 4, none⟩ = some (.int .i64 a0_4) := (blk_cell BK318.out 4).trans rfl; have hcz5_5 : w3.cell? ⟨gb318, 5, none⟩ = some (.int .i64 a0_5) := (blk_cell BK318.out 5).trans rfl; have hfz5_0 := blk_frozen BK318.out 0; have hfz5_1 := blk_frozen BK318.out 1; have hfz5_2 := blk_frozen BK318.out 2; have hfz5_3 := blk_frozen BK318.out 3; have hfz5_4 := blk_frozen BK318.out 4; have hfz5_5 := blk_frozen BK318.out 5; have hcz6_0 : w3.cell? ⟨gb319, 0, none⟩ = some (.int .i64 0) := (blk_cell BK319.out 0).trans rfl; have hcz6_1 : w3.cell? ⟨gb319, 1, none⟩ = some (.int .i64 0) := (blk_cell BK319.out 1).trans rfl; have hcz6_2 : w3.cell? ⟨gb319, 2, none⟩ = some (.int .i64 0) := (blk_cell BK319.out 2).trans rfl; have hfz6_0 := blk_frozen BK319.out 0; have hfz6_1 := blk_frozen BK319.out 1; have hfz6_2 := blk_frozen BK319.out 2))
 refine bodyPost_ret (results_cell_row rfl _ _ gb319 89 #[.int .i64 a0_4, .int .i64 a0_5, .int .i64 a0_3] (0, 0) _ rfl (by (with_reducible repeat (first | refine blk_drewN ?_ _ | refine blk_drew ?_ | refine blk_alloc ?_ _)); refine blk_put (cs := #[.int .i64 a0_4, .int .i64 a0_5, .int .i64 0]) ?_ 2 _ rfl; (with_reducible repeat (first | refine blk_drewN ?_ _ | refine blk_drew ?_ | refine blk_alloc ?_ _)); refine blk_put (cs := #[.int .i64 a0_4, .int .i64 0, .int .i64 0]) ?_ 1 _ rfl; (with_reducible repeat (first | refine blk_drewN ?_ _ | refine blk_drew ?_ | refine blk_alloc ?_ _)); refine blk_put (cs := #[.int .i64 0, .int .i64 0, .int .i64 0]) ?_ 0 _ rfl; (with_reducible repeat (first | refine blk_drewN ?_ _ | refine blk_drew ?_ | refine blk_alloc ?_ _)); exact BK319.out) Try.underlying89 rfl (by kernel_rfl)) rfl ?_
 exact ⟨by first | rfl | (simp [errW_none, errW_some] <;> rfl) | (simp [*, errW_none, errW_some] <;> rfl), by repeat (first | (with_reducible first | exact HB.out | apply below_alloc | apply pw_below_drewN | apply below_drew1 | refine below_set ?_ GE318.out | refine below_set ?_ GE319.out) | exact HB.out)⟩
def veneer_goal_63.l0 : Nat → List (S89) → Int → Int → Int → Int → Int → Option (Int)
 | 0, _, _, _, _, _, _ => none
 | k + 1, x0, x7, x8, x321000, x321001, x321002 => if x8 < x7 then (if 0 ≤ x8 then (if x8 < (x0.length : Int) then (if (x321000 == ((rd_T89 x0 x8).f0) && (x321001 == ((rd_T89 x0 x8).f1) && (x321002 == ((rd_T89 x0 x8).f2)))) = true then (some x8) else (veneer_goal_63.l0 k x0 x7 (wrap64 (x8 + 1)) x321000 x321001 x321002)) else (none)) else (none)) else (some (-1))
def veneer_goal_63.f (k : Nat) (l0 : List (S89)) (a1_0 : Int) (a1_1 : Int) (a1_2 : Int) : Option (Int) := veneer_goal_63.l0 k l0 (l0.length : Int) 0 a1_0 a1_1 a1_2
theorem veneer_goal_63.mono_l : ∀ k, (∀ y0 y1 y2 y3 y4 y5, LeO (veneer_goal_63.l0 k y0 y1 y2 y3 y4 y5) (veneer_goal_63.l0 (k + 1) y0 y1 y2 y3 y4 y5))
 | 0 => fun _ _ _ _ _ _ r h => by simp [veneer_goal_63.l0] at h
 | k + 1 => by
  have ih0 := veneer_goal_63.mono_l k
  ·intro y0 y1 y2 y3 y4 y5
   unfold veneer_goal_63.l0
   repeat' first
   | (with_reducible exact ih0 _ _ _ _ _ _)
   | (with_reducible exact LeO.refl _)
   | (with_reducible exact LeO.none _)
   | (with_reducible refine LeO.ite ?_ ?_)
   | (with_reducible refine LeO.bind ?_ (fun _ => ?_))
   | exact ih0 _ _ _ _ _ _
   | exact LeO.none _
   | refine LeO.ite ?_ ?_
   | refine LeO.bind ?_ (fun _ => ?_)
theorem veneer_goal_63.mono : ∀ a0 a1 a2 a3 k, LeO (veneer_goal_63.f k a0 a1 a2 a3) (veneer_goal_63.f (k + 1) a0 a1 a2 a3) := by
 intro a0 a1 a2 a3 k
 have ih0 := veneer_goal_63.mono_l k
 unfold veneer_goal_63.f
 repeat' first
   | (with_reducible exact ih0 _ _ _ _ _ _)
   | (with_reducible exact LeO.refl _)
   | (with_reducible exact LeO.none _)
   | (with_reducible refine LeO.ite ?_ ?_)
   | (with_reducible refine LeO.bind ?_ (fun _ => ?_))
   | exact ih0 _ _ _ _ _ _
   | exact LeO.none _
   | refine LeO.ite ?_ ?_
   | refine LeO.bind ?_ (fun _ => ?_)
set_option maxHeartbeats 8000000 in
set_option maxRecDepth 100000 in
theorem veneer_goal_63.calls (k : Nat) (A0 : Option Addr) (c0 : Nat) (l0 : List (S89)) (a1_0 : Int) (a1_1 : Int) (a1_2 : Int) (r : Int) (w : World) (hr0 : Kd.C k89 w A0 l0.length l0) (hc0 : l0.length ≤ c0) (h : veneer_goal_63.f k l0 a1_0 a1_1 a1_2 = some r) :
  Calls Try.prog 63 #[.slice A0 l0.length c0, .agg #[.int .i64 a1_0, .int .i64 a1_1, .int .i64 a1_2]] w fun e w' => e = .returned (.int .i64 r) ∧ Below w.heap.size w w' := by
 have hu89 := Try.underlying89
 have HR0 := Aside0.mk hr0
 have HC0 := Aside0.mk hc0
 clear hr0 hc0
 have HB := Aside0.mk (Below.refl w.heap.size w)
 have H : (veneer_goal_63.l0 k l0 (l0.length : Int) 0 a1_0 a1_1 a1_2) = some r := h
 clear h
 have H' := Aside0.mk H
 clear H
 go_enter Try.func63, Try.ntmps63
 go_wp2_with (first | ((with_reducible refine gate_dst (N := 3) rfl ?_); refine box_event ?hg (N := 3) ?hd (cs := #[.int .i64 a1_0, .int .i64 a1_1, .int .i64 a1_2]) (t := 89) ?hr ?_; (case hd => rfl); (case hg => rfl); (case hr => first | (go_simp; done) | (go_simp; rfl)); intro gb320 hg w3 hbox hb; have n0_ := Aside0.mk (below_step (by repeat (first | (with_reducible first | exact HB.out | apply below_alloc | apply pw_below_drewN | apply below_drew1) | exact HB.out)) hb); have n1_ := Aside0.mk (hbox); have n2_ := Aside0.mk ((by rw [hg]; exact (below_size (by repeat (first | (with_reducible first | exact HB.out | apply below_alloc | apply pw_below_drewN | apply below_drew1) | exact HB.out))) : w.heap.size ≤ gb320)); have n3_ := Aside0.mk ((by rw [hg]; exact (below_size (by repeat (first | (with_reducible first | exact HB.out | apply below_alloc | apply pw_below_drewN | apply below_drew1) | exact HB.out))) : w.heap.size ≤ gb320)); clear HB; have HB := n0_; have BK320 := n1_; have GW320 := n2_; have GE320 := n3_; clear n0_ n1_ n2_ n3_; clear hb hbox hg))
 repeat (go_quiet (first | ((with_reducible refine gate_dst (N := 3) rfl ?_); refine box_event ?hg (N := 3) ?hd (cs := #[.int .i64 a1_0, .int .i64 a1_1, .int .i64 a1_2]) (t := 89) ?hr ?_; (case hd => rfl); (case hg => rfl); (case hr => first | (go_simp; done) | (go_simp; rfl)); intro gb320 hg w3 hbox hb; have n0_ := Aside0.mk (below_step (by repeat (first | (with_reducible first | exact HB.out | apply below_alloc | apply pw_below_drewN | apply below_drew1) | exact HB.out)) hb); have n1_ := Aside0.mk (hbox); have n2_ := Aside0.mk ((by rw [hg]; exact (below_size (by repeat (first | (with_reducible first | exact HB.out | apply below_alloc | apply pw_below_drewN | apply below_drew1) | exact HB.out))) : w.heap.size ≤ gb320)); have n3_ := Aside0.mk ((by rw [hg]; exact (below_size (by repeat (first | (with_reducible first | exact HB.out | apply below_alloc | apply pw_below_drewN | apply below_drew1) | exact HB.out))) : w.heap.size ≤ gb320)); clear HB; have HB := n0_; have BK320 := n1_; have GW320 := n2_; have GE320 := n3_; clear n0_ n1_ n2_ n3_; clear hb hbox hg)); try go_wp2_with (first | ((with_reducible refine gate_dst (N := 3) rfl ?_); refine box_event ?hg (N := 3) ?hd (cs := #[.int .i64 a1_0, .int .i64 a1_1, .int .i64 a1_2]) (t := 89) ?hr ?_; (case hd => rfl); (case hg => rfl); (case hr => first | (go_simp; done) | (go_simp; rfl)); intro gb320 hg w3 hbox hb; have n0_ := Aside0.mk (below_step (by repeat (first | (with_reducible first | exact HB.out | apply below_alloc | apply pw_below_drewN | apply below_drew1) | exact HB.out)) hb); have n1_ := Aside0.mk (hbox); have n2_ := Aside0.mk ((by rw [hg]; exact (below_size (by repeat (first | (with_reducible first | exact HB.out | apply below_alloc | apply pw_below_drewN | apply below_drew1) | exact HB.out))) : w.heap.size ≤ gb320)); have n3_ := Aside0.mk ((by rw [hg]; exact (below_size (by repeat (first | (with_reducible first | exact HB.out | apply below_alloc | apply pw_below_drewN | apply below_drew1) | exact HB.out))) : w.heap.size ≤ gb320)); clear HB; have HB := n0_; have BK320 := n1_; have GW320 := n2_; have GE320 := n3_; clear n0_ n1_ n2_ n3_; clear hb hbox hg)))
 go_loopg [8] k (fun kq v8 w' => ∃ (x8_1 : Int), v8 = .int .i64 x8_1 ∧ Aside0 (veneer_goal_63.l0 kq l0 (l0.length : Int) x8_1 a1_0 a1_1 a1_2 = some r) ∧ Aside0 (kq ≤ k) ∧ Aside0 (w'.heap[gb320]? = some (.cells #[.int .i64 a1_0, .int .i64 a1_1, .int .i64 a1_2] 89 (0, 0))) ∧ Aside0 (Below w.heap.size w w'))
 case atStart => exact ⟨(0), (by first | rfl | (simp; done) | (simp [*]; done)), H', ⟨Nat.le_refl _⟩, ⟨by (with_reducible repeat (first | refine blk_drewN ?_ _ | refine blk_drew ?_ | refine blk_alloc ?_ _)); exact BK320.out⟩, ⟨by repeat (first | (with_reducible first | exact HB.out | apply below_alloc | apply pw_below_drewN | apply below_drew1 | refine below_set ?_ GE320.out) | exact HB.out)⟩⟩
 case round =>
  clear H'
  try clear p2
  obtain ⟨x8_1, rfl, HA, HK1, BK320, HB⟩ := hrel
  cases gk with
  | zero => exact absurd HA.out (by simp [veneer_goal_63.l0])
  | succ k1 =>
   have H := HA.out
   clear HA
   simp only [veneer_goal_63.l0] at H
   by_cases c4 : x8_1 < (l0.length : Int)
   ·rw [if_pos c4] at H
    have c4b0 : decide (x8_1 < (l0.length : Int)) = true := decide_eq_true c4
    clear c4
    by_cases c5 : 0 ≤ x8_1
    ·rw [if_pos c5] at H
     have c5b0 : decide (0 ≤ x8_1) = true := decide_eq_true c5
     clear c5
     by_cases c6 : x8_1 < (l0.length : Int)
     ·rw [if_pos c6] at H
      have c6b0 : decide (x8_1 < (l0.length : Int)) = true := decide_eq_true c6
      clear c6
      by_cases c7 : (a1_0 == ((rd_T89 l0 x8_1).f0) && (a1_1 == ((rd_T89 l0 x8_1).f1) && (a1_2 == ((rd_T89 l0 x8_1).f2)))) = true
      ·rw [if_pos c7] at H
       have c7b0 : (a1_0 == ((rd_T89 l0 x8_1).f0) && (a1_1 == ((rd_T89 l0 x8_1).f1) && (a1_2 == ((rd_T89 l0 x8_1).f2)))) = true := c7
       (try (have c7b1 : decide (a1_0 = ((rd_T89 l0 x8_1).f0) && (a1_1 == ((rd_T89 l0 x8_1).f1) && (a1_2 == ((rd_T89 l0 x8_1).f2)))) = true := by simpa using c7))
       (try (have c7b2 : (a1_0 == ((rd_T89 l0 x8_1).f0) && (a1_1 == ((rd_T89 l0 x8_1).f1) && (a1_2 == ((rd_T89 l0 x8_1).f2)))) = true := by simpa using c7))
       clear c7
       obtain rfl := Option.some.inj H
       have hcz8_0 : wr.cell? ⟨gb320, 0, none⟩ = some (.int .i64 a1_0) := (blk_cell BK320.out 0).trans rfl
       have hcz8_1 : wr.cell? ⟨gb320, 1, none⟩ = some (.int .i64 a1_1) := (blk_cell BK320.out 1).trans rfl
       have hcz8_2 : wr.cell? ⟨gb320, 2, none⟩ = some (.int .i64 a1_2) := (blk_cell BK320.out 2).trans rfl
       have hfz8_0 := blk_frozen BK320.out 0
       have hfz8_1 := blk_frozen BK320.out 1
       have hfz8_2 := blk_frozen BK320.out 2
       have p321 : 0 ≤ (x8_1 : Int) := of_decide_eq_true (by first | (with_reducible assumption) | assumption)
       have q321 : x8_1 < (l0.length : Int) := of_decide_eq_true (by first | (with_reducible assumption) | assumption)
       obtain ⟨ad321, e321, hx321_0, hx321_1, hx321_2⟩ := at_T89 HR0.out x8_1 p321 q321
       cases e321
       replace hx321_0 := (HB.out.cell (World.block_lt_of_cell? w _ hx321_0)).trans hx321_0
       replace hx321_1 := (HB.out.cell (World.block_lt_of_cell? w _ hx321_1)).trans hx321_1
       replace hx321_2 := (HB.out.cell (World.block_lt_of_cell? w _ hx321_2)).trans hx321_2
       replace p321 := eq_true p321
       replace q321 := eq_true q321
       go_wp2
       repeat (go_quiet (fail); try go_wp2)
       go_ret
       exact ⟨by first | rfl | (simp [errW_none, errW_some] <;> rfl) | (simp [*, errW_none, errW_some] <;> rfl), by repeat (first | (with_reducible first | exact HB.out | apply below_alloc | apply pw_below_drewN | apply below_drew1 | refine below_set ?_ GE320.out) | exact HB.out)⟩
      ·rw [if_neg c7] at H
       have c7b0 : (a1_0 == ((rd_T89 l0 x8_1).f0) && (a1_1 == ((rd_T89 l0 x8_1).f1) && (a1_2 == ((rd_T89 l0 x8_1).f2)))) = false := by simpa using c7
       (try (have c7b1 : decide (a1_0 = ((rd_T89 l0 x8_1).f0) && (a1_1 == ((rd_T89 l0 x8_1).f1) && (a1_2 == ((rd_T89 l0 x8_1).f2)))) = false := by simpa using c7))
       (try (have c7b2 : (a1_0 == ((rd_T89 l0 x8_1).f0) && (a1_1 == ((rd_T89 l0 x8_1).f1) && (a1_2 == ((rd_T89 l0 x8_1).f2)))) = false := by simpa using c7))
       (try (have c7b3 : ¬ (a1_0 = ((rd_T89 l0 x8_1).f0) && (a1_1 == ((rd_T89 l0 x8_1).f1) && (a1_2 == ((rd_T89 l0 x8_1).f2)))) := by simpa using c7))
       clear c7
       have H' := Aside0.mk H
       clear H
       have hcz9_0 : wr.cell? ⟨gb320, 0, none⟩ = some (.int .i64 a1_0) := (blk_cell BK320.out 0).trans rfl
       have hcz9_1 : wr.cell? ⟨gb320, 1, none⟩ = some (.int .i64 a1_1) := (blk_cell BK320.out 1).trans rfl
       have hcz9_2 : wr.cell? ⟨gb320, 2, none⟩ = some (.int .i64 a1_2) := (blk_cell BK320.out 2).trans rfl
       have hfz9_0 := blk_frozen BK320.out 0
       have hfz9_1 := blk_frozen BK320.out 1
       have hfz9_2 := blk_frozen BK320.out 2
       have p321 : 0 ≤ (x8_1 : Int) := of_decide_eq_true (by first | (with_reducible assumption) | assumption)
       have q321 : x8_1 < (l0.length : Int) := of_decide_eq_true (by first | (with_reducible assumption) | assumption)
       obtain ⟨ad321, e321, hx321_0, hx321_1, hx321_2⟩ := at_T89 HR0.out x8_1 p321 q321
       cases e321
       replace hx321_0 := (HB.out.cell (World.block_lt_of_cell? w _ hx321_0)).trans hx321_0
       replace hx321_1 := (HB.out.cell (World.block_lt_of_cell? w _ hx321_1)).trans hx321_1
       replace hx321_2 := (HB.out.cell (World.block_lt_of_cell? w _ hx321_2)).trans hx321_2
       replace p321 := eq_true p321
       replace q321 := eq_true q321
       go_wp2
       repeat (go_quiet (fail); try go_wp2)
       go_roundg k1
       case measure => have := HK1.out; omega
       case rel => exact ⟨(wrap64 (x8_1 + 1)), (by first | rfl | (simp; done) | (simp [*]; done)), H', ⟨by have := HK1.out; omega⟩, ⟨by (with_reducible repeat (first | refine blk_drewN ?_ _ | refine blk_drew ?_ | refine blk_alloc ?_ _)); exact BK320.out⟩, ⟨by repeat (first | (with_reducible first | exact HB.out | apply below_alloc | apply pw_below_drewN | apply below_drew1 | refine below_set ?_ GE320.out) | exact HB.out)⟩⟩
     ·rw [if_neg c6] at H
      exact absurd H (by simp)
    ·rw [if_neg c5] at H
     exact absurd H (by simp)
   ·rw [if_neg c4] at H
    have c4b0 : decide (x8_1 < (l0.length : Int)) = false := decide_eq_false c4
    clear c4
    obtain rfl := Option.some.inj H
    go_wp2
    repeat (go_quiet (fail); try go_wp2)
    go_ret
    exact ⟨by first | rfl | (simp [errW_none, errW_some] <;> rfl) | (simp [*, errW_none, errW_some] <;> rfl), by repeat (first | (with_reducible first | exact HB.out | apply below_alloc | apply pw_below_drewN | apply below_drew1 | refine below_set ?_ GE320.out) | exact HB.out)⟩
def veneer_goal_58.f (k : Nat) (l0 : List (S89)) (a1_0 : Int) (a1_1 : Int) (a1_2 : Int) : Option (Bool) := (veneer_goal_63.f k l0 a1_0 a1_1 a1_2).bind fun t323 => (some (decide (t323 ≥ 0)))
theorem veneer_goal_58.mono : ∀ a0 a1 a2 a3 k, LeO (veneer_goal_58.f k a0 a1 a2 a3) (veneer_goal_58.f (k + 1) a0 a1 a2 a3) := by
 intro a0 a1 a2 a3 k
 unfold veneer_goal_58.f
 repeat' first
   | (with_reducible exact veneer_goal_63.mono _ _ _ _ _)
   | (with_reducible exact LeO.refl _)
   | (with_reducible exact LeO.none _)
   | (with_reducible refine LeO.ite ?_ ?_)
   | (with_reducible refine LeO.bind ?_ (fun _ => ?_))
   | exact veneer_goal_63.mono _ _ _ _ _
   | exact LeO.none _
   | refine LeO.ite ?_ ?_
   | refine LeO.bind ?_ (fun _ => ?_)
set_option maxHeartbeats 8000000 in
set_option maxRecDepth 100000 in
theorem veneer_goal_58.calls (k : Nat) (A0 : Option Addr) (c0 : Nat) (l0 : List (S89)) (a1_0 : Int) (a1_1 : Int) (a1_2 : Int) (r : Bool) (w : World) (hr0 : Kd.C k89 w A0 l0.length l0) (hc0 : l0.length ≤ c0) (h : veneer_goal_58.f k l0 a1_0 a1_1 a1_2 = some r) :
  Calls Try.prog 58 #[.slice A0 l0.length c0, .agg #[.int .i64 a1_0, .int .i64 a1_1, .int .i64 a1_2]] w fun e w' => e = .returned (.bool r) ∧ Below w.heap.size w w' := by
 have hu89 := Try.underlying89
 have HR0 := Aside0.mk hr0
 have HC0 := Aside0.mk hc0
 clear hr0 hc0
 have HB := Aside0.mk (Below.refl w.heap.size w)
 have H : ((veneer_goal_63.f k l0 a1_0 a1_1 a1_2).bind fun t323 => (some (decide (t323 ≥ 0)))) = some r := h
 clear h
 replace H := Option.bind_eq_some_iff.mp H
 obtain ⟨t323, A30, H⟩ := H
 replace H : (some (decide (t323 ≥ 0))) = some r := H
 have A3 := Aside0.mk A30
 clear A30
 obtain rfl := Option.some.inj H
 go_enter Try.func58, Try.ntmps58
 go_wp2_with (first | ((with_reducible refine gate_dst (N := 3) rfl ?_); refine box_event ?hg (N := 3) ?hd (cs := #[.int .i64 a1_0, .int .i64 a1_1, .int .i64 a1_2]) (t := 89) ?hr ?_; (case hd => rfl); (case hg => rfl); (case hr => first | (go_simp; done) | (go_simp; rfl)); intro gb322 hg w4 hbox hb; have n0_ := Aside0.mk (below_step (by repeat (first | (with_reducible first | exact HB.out | apply below_alloc | apply pw_below_drewN | apply below_drew1) | exact HB.out)) hb); have n1_ := Aside0.mk (hbox); have n2_ := Aside0.mk ((by rw [hg]; exact (below_size (by repeat (first | (with_reducible first | exact HB.out | apply below_alloc | apply pw_below_drewN | apply below_drew1) | exact HB.out))) : w.heap.size ≤ gb322)); have n3_ := Aside0.mk ((by rw [hg]; exact (below_size (by repeat (first | (with_reducible first | exact HB.out | apply below_alloc | apply pw_below_drewN | apply below_drew1) | exact HB.out))) : w.heap.size ≤ gb322)); clear HB; have HB := n0_; have BK322 := n1_; have GW322 := n2_; have GE322 := n3_; clear n0_ n1_ n2_ n3_; clear hb hbox hg; have hcz5_0 : w4.cell? ⟨gb322, 0, none⟩ = some (.int .i64 a1_0) := (blk_cell BK322.out 0).trans rfl; have hcz5_1 : w4.cell? ⟨gb322, 1, none⟩ = some (.int .i64 a1_1) := (blk_cell BK322.out 1).trans rfl; have hcz5_2 : w4.cell? ⟨gb322, 2, none⟩ = some (.int .i64 a1_2) := (blk_cell BK322.out 2).trans rfl; have hfz5_0 := blk_frozen BK322.out 0; have hfz5_1 := blk_frozen BK322.out 1; have hfz5_2 := blk_frozen BK322.out 2) | ((with_reducible refine gate_callee (f := 63) rfl ?_); refine goesL_ (some 7) rfl rfl Try.func63 (by kernel_rfl) rfl #[.slice A0 l0.length c0, .agg #[.int .i64 a1_0, .int .i64 a1_1, .int .i64 a1_2]] rfl (by (try simp only [List.map_toArray, List.map_cons, List.map_nil]); first | done | rfl | (simp only [List.length_drop, List.length_take]; rfl)) ?_; (with_reducible refine (veneer_goal_63.calls k _ _ l0 a1_0 a1_1 a1_2 t323 _ ?side1 ?side2 A3.out).mono ?_); (case side1 => repeat (first | exact (Kd.C_below HR0.out HB.out) | (with_reducible refine Kd.C_alloc ?_ _) | (with_reducible refine Kd.C_drewN ?_ _) | (with_reducible refine Kd.C_drew ?_))); (case side2 => exact HC0.out); rintro e w6 ⟨rfl, hb⟩; refine ⟨_, rfl, ?_⟩; have n0_ := Aside0.mk (blk_below (g := gb322) (o := .cells #[.int .i64 a1_0, .int .i64 a1_1, .int .i64 a1_2] 89 (0, 0)) (by (with_reducible repeat (first | refine blk_drewN ?_ _ | refine blk_drew ?_ | refine blk_alloc ?_ _)); exact BK322.out) hb); have n1_ := Aside0.mk (below_step (by repeat (first | (with_reducible first | exact HB.out | apply below_alloc | apply pw_below_drewN | apply below_drew1 | refine below_set ?_ GE322.out) | exact HB.out)) hb); clear BK322; clear HB; have BK322 := n0_; have HB := n1_; clear n0_ n1_; (try clear hb); (try clear hb2); (try clear hk); (try clear hi)))
 go_ret
 exact ⟨by first | rfl | (simp [errW_none, errW_some] <;> rfl) | (simp [*, errW_none, errW_some] <;> rfl), by repeat (first | (with_reducible first | exact HB.out | apply below_alloc | apply pw_below_drewN | apply below_drew1 | refine below_set ?_ GE322.out) | exact HB.out)⟩
def linkhouseref4_Ints.l0 : Nat → List Int → List Int → Int → Option (Bool)
  | 0, _, _, _ => none
  | k + 1, x0, x1, x5 => if x5 < (x0.length : Int) then (if 0 ≤ x5 then (if x5 < (x1.length : Int) then (if (rd x0 x5) = (rd x1 x5) then (linkhouseref4_Ints.l0 k x0 x1 (wrap64 (x5 + 1))) else (some false)) else (none)) else (none)) else (some true)
def linkhouseref4_Ints.f (k : Nat) (l0 : List Int) (l1 : List Int) : Option (Bool) := if (l0.length : Int) = (l1.length : Int) then (linkhouseref4_Ints.l0 k l0 l1 0) else (some false)
theorem linkhouseref4_Ints.mono_l : ∀ k, (∀ y0 y1 y2, LeO (linkhouseref4_Ints.l0 k y0 y1 y2) (linkhouseref4_Ints.l0 (k + 1) y0 y1 y2))
 | 0 => fun _ _ _ r h => by simp [linkhouseref4_Ints.l0] at h
 | k + 1 => by
  have ih0 := linkhouseref4_Ints.mono_l k
  ·intro y0 y1 y2
   unfold linkhouseref4_Ints.l0
   repeat' first
   | (with_reducible exact ih0 _ _ _)
   | (with_reducible exact LeO.refl _)
   | (with_reducible exact LeO.none _)
   | (with_reducible refine LeO.ite ?_ ?_)
   | (with_reducible refine LeO.bind ?_ (fun _ => ?_))
   | exact ih0 _ _ _
   | exact LeO.none _
   | refine LeO.ite ?_ ?_
   | refine LeO.bind ?_ (fun _ => ?_)
theorem linkhouseref4_Ints.mono : ∀ a0 a1 k, LeO (linkhouseref4_Ints.f k a0 a1) (linkhouseref4_Ints.f (k + 1) a0 a1) := by
 intro a0 a1 k
 have ih0 := linkhouseref4_Ints.mono_l k
 unfold linkhouseref4_Ints.f
 repeat' first
   | (with_reducible exact ih0 _ _ _)
   | (with_reducible exact LeO.refl _)
   | (with_reducible exact LeO.none _)
   | (with_reducible refine LeO.ite ?_ ?_)
   | (with_reducible refine LeO.bind ?_ (fun _ => ?_))
   | exact ih0 _ _ _
   | exact LeO.none _
   | refine LeO.ite ?_ ?_
   | refine LeO.bind ?_ (fun _ => ?_)
set_option maxHeartbeats 8000000 in
set_option maxRecDepth 100000 in
theorem linkhouseref4_Ints.calls (k : Nat) (A0 : Option Addr) (c0 : Nat) (l0 : List Int) (A1 : Option Addr) (c1 : Nat) (l1 : List Int) (r : Bool) (w : World) (hr0 : Kd.C (Kd.int .i64) w A0 l0.length l0) (hc0 : l0.length ≤ c0) (hr1 : Kd.C (Kd.int .i64) w A1 l1.length l1) (hc1 : l1.length ≤ c1) (h : linkhouseref4_Ints.f k l0 l1 = some r) :
  Calls Try.prog 13 #[.slice A0 l0.length c0, .slice A1 l1.length c1] w fun e w' => e = .returned (.bool r) ∧ Drawn0 w w' := by
 have HR0 := Aside0.mk hr0
 have HC0 := Aside0.mk hc0
 clear hr0 hc0
 have HR1 := Aside0.mk hr1
 have HC1 := Aside0.mk hc1
 clear hr1 hc1
 have H : (if (l0.length : Int) = (l1.length : Int) then (linkhouseref4_Ints.l0 k l0 l1 0) else (some false)) = some r := h
 clear h
 by_cases c3 : (l0.length : Int) = (l1.length : Int)
 ·rw [if_pos c3] at H
  have c3b0 : ((l0.length : Int) == (l1.length : Int)) = true := beq_iff_eq.mpr c3
  have c3b1 : ((l0.length : Int) != (l1.length : Int)) = false := bne_eq_false_iff_eq.mpr c3
  have c3b2 : (l0.length == l1.length) = true := by first | simpa using c3 | (simp at c3 ⊢; omega)
  clear c3
  have H' := Aside0.mk H
  clear H
  go_enter Try.func13, Try.ntmps13
  go_wp2
  repeat (go_quiet (fail); try go_wp2)
  go_loopg [5] k (fun kq v5 w' => ∃ (x5_1 : Int), v5 = .int .i64 x5_1 ∧ Aside0 (linkhouseref4_Ints.l0 kq l0 l1 x5_1 = some r) ∧ Aside0 (kq ≤ k) ∧ Drawn0 w w')
  case atStart => exact ⟨(0), (by first | rfl | (simp; done) | (simp [*]; done)), H', ⟨Nat.le_refl _⟩, by repeat (first | exact Drawn0.refl _ | apply Drawn0.step)⟩
  case round =>
   clear H'
   try clear c1
   try clear p2
   try clear c3
   try clear c3b0
   try clear c3b1
   try clear c3b2
   obtain ⟨x5_1, rfl, HA, HK1, ⟨m1, rfl⟩⟩ := hrel
   cases gk with
   | zero => exact absurd HA.out (by simp [linkhouseref4_Ints.l0])
   | succ k1 =>
    have H := HA.out
    clear HA
    simp only [linkhouseref4_Ints.l0] at H
    by_cases c4 : x5_1 < (l0.length : Int)
    ·rw [if_pos c4] at H
     have c4b0 : decide (x5_1 < (l0.length : Int)) = true := decide_eq_true c4
     clear c4
     by_cases c5 : 0 ≤ x5_1
     ·rw [if_pos c5] at H
      have c5b0 : decide (0 ≤ x5_1) = true := decide_eq_true c5
      clear c5
      by_cases c6 : x5_1 < (l1.length : Int)
      ·rw [if_pos c6] at H
       have c6b0 : decide (x5_1 < (l1.length : Int)) = true := decide_eq_true c6
       clear c6
       by_cases c7 : (rd l0 x5_1) = (rd l1 x5_1)
       ·rw [if_pos c7] at H
        have c7b0 : ((rd l0 x5_1) == (rd l1 x5_1)) = true := beq_iff_eq.mpr c7
        have c7b1 : ((rd l0 x5_1) != (rd l1 x5_1)) = false := bne_eq_false_iff_eq.mpr c7
        clear c7
        have H' := Aside0.mk H
        clear H
        have p351 : 0 ≤ (x5_1 : Int) := of_decide_eq_true (by first | (with_reducible assumption) | assumption)
        have q351 : x5_1 < (l0.length : Int) := of_decide_eq_true (by first | (with_reducible assumption) | assumption)
        obtain ⟨ad351, e351, hx351_0⟩ := Kd.at_int HR0.out x5_1 p351 q351
        cases e351
        replace p351 := eq_true p351
        replace q351 := eq_true q351
        have p352 : 0 ≤ (x5_1 : Int) := of_decide_eq_true (by first | (with_reducible assumption) | assumption)
        have q352 : x5_1 < (l1.length : Int) := of_decide_eq_true (by first | (with_reducible assumption) | assumption)
        obtain ⟨ad352, e352, hx352_0⟩ := Kd.at_int HR1.out x5_1 p352 q352
        cases e352
        replace p352 := eq_true p352
        replace q352 := eq_true q352
        go_wp2
        repeat (go_quiet (fail); try go_wp2)
        go_roundg k1
        case measure => have := HK1.out; omega
        case rel => exact ⟨(wrap64 (x5_1 + 1)), (by first | rfl | (simp; done) | (simp [*]; done)), H', ⟨by have := HK1.out; omega⟩, by repeat (first | exact Drawn0.refl _ | apply Drawn0.step)⟩
       ·rw [if_neg c7] at H
        have c7b0 : ((rd l0 x5_1) == (rd l1 x5_1)) = false := beq_eq_false_iff_ne.mpr c7
        have c7b1 : ((rd l0 x5_1) != (rd l1 x5_1)) = true := bne_iff_ne.mpr c7
        obtain rfl := Option.some.inj H
        have p351 : 0 ≤ (x5_1 : Int) := of_decide_eq_true (by first | (with_reducible assumption) | assumption)
        have q351 : x5_1 < (l0.length : Int) := of_decide_eq_true (by first | (with_reducible assumption) | assumption)
        obtain ⟨ad351, e351, hx351_0⟩ := Kd.at_int HR0.out x5_1 p351 q351
        cases e351
        replace p351 := eq_true p351
        replace q351 := eq_true q351
        have p352 : 0 ≤ (x5_1 : Int) := of_decide_eq_true (by first | (with_reducible assumption) | assumption)
        have q352 : x5_1 < (l1.length : Int) := of_decide_eq_true (by first | (with_reducible assumption) | assumption)
        obtain ⟨ad352, e352, hx352_0⟩ := Kd.at_int HR1.out x5_1 p352 q352
        cases e352
        replace p352 := eq_true p352
        replace q352 := eq_true q352
        go_wp2
        repeat (go_quiet (fail); try go_wp2)
        go_ret
        exact ⟨by first | rfl | (simp; done) | (simp [*]; done), by repeat (first | exact Drawn0.refl _ | apply Drawn0.step)⟩
      ·rw [if_neg c6] at H
       exact absurd H (by simp)
     ·rw [if_neg c5] at H
      exact absurd H (by simp)
    ·rw [if_neg c4] at H
     have c4b0 : decide (x5_1 < (l0.length : Int)) = false := decide_eq_false c4
     clear c4
     obtain rfl := Option.some.inj H
     go_wp2
     repeat (go_quiet (fail); try go_wp2)
     go_ret
     exact ⟨by first | rfl | (simp; done) | (simp [*]; done), by repeat (first | exact Drawn0.refl _ | apply Drawn0.step)⟩
 ·rw [if_neg c3] at H
  have c3b0 : ((l0.length : Int) == (l1.length : Int)) = false := beq_eq_false_iff_ne.mpr c3
  have c3b1 : ((l0.length : Int) != (l1.length : Int)) = true := bne_iff_ne.mpr c3
  have c3b2 : (l0.length == l1.length) = false := by first | simpa using c3 | (simp at c3 ⊢; omega)
  obtain rfl := Option.some.inj H
  go_enter Try.func13, Try.ntmps13
  go_wp2
  repeat (go_quiet (fail); try go_wp2)
  go_ret
  exact ⟨by first | rfl | (simp; done) | (simp [*]; done), by repeat (first | exact Drawn0.refl _ | apply Drawn0.step)⟩
def linkhouselaw4_apart.f  : Option ((List (S72)) × (List (S76))) := some ((([(⟨(⟨#[97]⟩ : ByteArray), 256, 1, 5⟩ : S72), (⟨(⟨#[98]⟩ : ByteArray), 131072, 1, 5⟩ : S72)] : List (S72))), ([] : List (S76)))
set_option maxHeartbeats 8000000 in
set_option maxRecDepth 100000 in
theorem linkhouselaw4_apart.calls  (r1 : List (S72)) (r2 : List (S76)) (w : World) (h : linkhouselaw4_apart.f  = some (r1, r2)) :
  Calls Try.prog 29 #[] w fun e w' => ∃ v0_ v1_ : Value, e = .returned (.agg #[v0_, v1_]) ∧ Kd.R k72 72 w' w.heap.size (fun _ => True) v0_ r1 ∧ Kd.R k76 76 w' w.heap.size (fun _ => True) v1_ r2 ∧ Below w.heap.size w w' := by
 have hu25 := Try.underlying25
 have hu72 := Try.underlying72
 have HB := Aside0.mk (Below.refl w.heap.size w)
 have H : (some ((([(⟨(⟨#[97]⟩ : ByteArray), 256, 1, 5⟩ : S72), (⟨(⟨#[98]⟩ : ByteArray), 131072, 1, 5⟩ : S72)] : List (S72))), ([] : List (S76)))) = some (r1, r2) := h
 clear h
 obtain ⟨y354, hy354⟩ : ∃ y_ : List (S72), y_ = (([(⟨(⟨#[97]⟩ : ByteArray), 256, 1, 5⟩ : S72), (⟨(⟨#[98]⟩ : ByteArray), 131072, 1, 5⟩ : S72)] : List (S72))) := ⟨_, rfl⟩
 replace H : (some (y354, ([] : List (S76)))) = some (r1, r2) := by first | (rw [hy354]; with_reducible exact H) | (have H2_ := (Option.bind_some _ _).symm.trans H; rw [hy354]; with_reducible exact H2_) | (have H2_ := (Option.bind_some _ _).symm.trans H; with_reducible exact H2_) | with_reducible exact H | (rw [hy354]; exact H) | exact H
 have Ny354 := Aside0.mk hy354
 clear hy354
 simp only [Option.some.injEq, Prod.mk.injEq] at H
 obtain ⟨rfl, rfl⟩ := H
 go_enter Try.func29, Try.ntmps29
 go_wp2_with (first | ((with_reducible refine gate_dst (N := 0) rfl ?_); refine box_event ?hg (N := 0) ?hd (cs := #[.slice none 0 0, .slice none 0 0]) (t := 25) ?hr ?_; (case hd => rfl); (case hg => rfl); (case hr => first | (go_simp; done) | (go_simp; rfl)); intro gb353 hg w1 hbox hb; have n0_ := Aside0.mk (below_step (by repeat (first | (with_reducible first | exact HB.out | apply below_alloc | apply pw_below_drewN | apply below_drew1) | exact HB.out)) hb); have n1_ := Aside0.mk (hbox); have n2_ := Aside0.mk ((by rw [hg]; exact (below_size (by repeat (first | (with_reducible first | exact HB.out | apply below_alloc | apply pw_below_drewN | apply below_drew1) | exact HB.out))) : w.heap.size ≤ gb353)); have n3_ := Aside0.mk ((by rw [hg]; exact (below_size (by repeat (first | (with_reducible first | exact HB.out | apply below_alloc | apply pw_below_drewN | apply below_drew1) | exact HB.out))) : w.heap.size ≤ gb353)); clear HB; have HB := n0_; have BK353 := n1_; have GW353 := n2_; have GE353 := n3_; clear n0_ n1_ n2_ n3_; clear hb hbox hg) | ((with_reducible refine gate_dst (N := 3) rfl ?_); refine Kd.R_lit k72 _ 72 ?hg (N := 3) ?hd (xs := ([(⟨(⟨#[97]⟩ : ByteArray), 256, 1, 5⟩ : S72), (⟨(⟨#[98]⟩ : ByteArray), 131072, 1, 5⟩ : S72)] : List (S72))) (inner := [.string (⟨#[97]⟩ : ByteArray), .int .i64 256, .int .i64 1, .int .i64 5, .string (⟨#[98]⟩ : ByteArray), .int .i64 131072, .int .i64 1, .int .i64 5]) (ok := fun _ => True) (okp := fun _ => True) ?hr ?hp (fun _ hk => hk) trivial (Below.refl _ _) (Nat.le_refl _) (by simp) ?_; (case hd => rfl); (case hg => rfl); (case hr => first | (go_simp; done) | (go_simp; rfl)); (case hp => exact (Reps.c4 (show Kd.M k72 _ _ _ (⟨(⟨#[97]⟩ : ByteArray), 256, 1, 5⟩ : S72) [.string (⟨#[97]⟩ : ByteArray), .int .i64 256, .int .i64 1, .int .i64 5] from (k72_mkM _ _ _ (⟨(⟨#[97]⟩ : ByteArray), 256, 1, 5⟩ : S72) )) (Reps.c4 (show Kd.M k72 _ _ _ (⟨(⟨#[98]⟩ : ByteArray), 131072, 1, 5⟩ : S72) [.string (⟨#[98]⟩ : ByteArray), .int .i64 131072, .int .i64 1, .int .i64 5] from (k72_mkM _ _ _ (⟨(⟨#[98]⟩ : ByteArray), 131072, 1, 5⟩ : S72) )) (Reps.none _ _)))); intro v355 w2 ho3 hb hg_ hnew_; clear hg_ hnew_; (first | rw [← Ny354.out] at ho3 | (simp only [Int.reduceToNat] at ho3; rw [← Ny354.out] at ho3)); have n0_ := Aside0.mk (Kd.R_lower ho3 (below_size (by repeat (first | (with_reducible first | exact HB.out | apply below_alloc | apply pw_below_drewN | apply below_drew1 | refine below_set ?_ GE353.out) | exact HB.out)))); have n1_ := Aside0.mk (blk_below (g := gb353) (o := .cells #[.slice none 0 0, .slice none 0 0] 25 (0, 0)) (by (with_reducible repeat (first | refine blk_drewN ?_ _ | refine blk_drew ?_ | refine blk_alloc ?_ _)); exact BK353.out) hb); have n2_ := Aside0.mk (below_step (by repeat (first | (with_reducible first | exact HB.out | apply below_alloc | apply pw_below_drewN | apply below_drew1 | refine below_set ?_ GE353.out) | exact HB.out)) hb); clear BK353; clear HB; have HO356 := n0_; have BK353 := n1_; have HB := n2_; clear n0_ n1_ n2_; clear hb ho3; obtain ⟨Ao4, co4, eo4⟩ := Kd.R_slice HO356.out; subst eo4; have hcz5_0 : w2.cell? ⟨gb353, 0, none⟩ = some (.slice none 0 0) := (blk_cell BK353.out 0).trans rfl; have hcz5_1 : w2.cell? ⟨gb353, 1, none⟩ = some (.slice none 0 0) := (blk_cell BK353.out 1).trans rfl; have hfz5_0 := blk_frozen BK353.out 0; have hfz5_1 := blk_frozen BK353.out 1))
 refine bodyPost_ret (results_cell_row rfl _ _ gb353 25 #[.slice Ao4 y354.length co4, .slice none 0 0] (0, 0) _ rfl (by (with_reducible repeat (first | refine blk_drewN ?_ _ | refine blk_drew ?_ | refine blk_alloc ?_ _)); refine blk_put (cs := #[.slice Ao4 y354.length co4, .slice none 0 0]) ?_ 1 _ rfl; (with_reducible repeat (first | refine blk_drewN ?_ _ | refine blk_drew ?_ | refine blk_alloc ?_ _)); refine blk_put (cs := #[.slice none 0 0, .slice none 0 0]) ?_ 0 _ rfl; (with_reducible repeat (first | refine blk_drewN ?_ _ | refine blk_drew ?_ | refine blk_alloc ?_ _)); exact BK353.out) Try.underlying25 rfl (by kernel_rfl)) rfl ?_
 exact ⟨_, _, by first | rfl | (simp [errW_none, errW_some] <;> rfl) | (simp [*, errW_none, errW_some] <;> rfl), by (with_reducible repeat (first | apply Kd.R_alloc | apply Kd.R_drewN | apply Kd.R_drew)); exact Kd.R_mono (Kd.R_far (p := ⟨gb353, 1, none⟩) (Kd.R_far (p := ⟨gb353, 0, none⟩) (Kd.R_types HO356.out BK353.out (by decide)) (fun _ hk => hk.2) (.slice Ao4 y354.length co4)) (fun _ hk => hk.2) (.slice none 0 0)) (fun _ hk => trivial), by first | exact Kd.R_nil _ _ _ _ _ | exact Kd.N_nil _ _ _ _ _ | exact Kd.V_nil _ _ _ _ _ | exact Kd.Q_nil _ _ _ _ _ | exact Kd.S_nil _ _ _ _ _, by repeat (first | (with_reducible first | exact HB.out | apply below_alloc | apply pw_below_drewN | apply below_drew1 | refine below_set ?_ GE353.out) | exact HB.out)⟩
def linkhouselaw4_sameBools.l0 : Nat → List Bool → List Bool → Int → Option (Bool)
  | 0, _, _, _ => none
  | k + 1, x0, x1, x5 => if x5 < (x0.length : Int) then (if 0 ≤ x5 then (if x5 < (x1.length : Int) then (if ((rdOf false x0 x5) != (rdOf false x1 x5)) = true then (some false) else (linkhouselaw4_sameBools.l0 k x0 x1 (wrap64 (x5 + 1)))) else (none)) else (none)) else (some true)
def linkhouselaw4_sameBools.f (k : Nat) (l0 : List Bool) (l1 : List Bool) : Option (Bool) := if (l0.length : Int) = (l1.length : Int) then (linkhouselaw4_sameBools.l0 k l0 l1 0) else (some false)
theorem linkhouselaw4_sameBools.mono_l : ∀ k, (∀ y0 y1 y2, LeO (linkhouselaw4_sameBools.l0 k y0 y1 y2) (linkhouselaw4_sameBools.l0 (k + 1) y0 y1 y2))
 | 0 => fun _ _ _ r h => by simp [linkhouselaw4_sameBools.l0] at h
 | k + 1 => by
  have ih0 := linkhouselaw4_sameBools.mono_l k
  ·intro y0 y1 y2
   unfold linkhouselaw4_sameBools.l0
   repeat' first
   | (with_reducible exact ih0 _ _ _)
   | (with_reducible exact LeO.refl _)
   | (with_reducible exact LeO.none _)
   | (with_reducible refine LeO.ite ?_ ?_)
   | (with_reducible refine LeO.bind ?_ (fun _ => ?_))
   | exact ih0 _ _ _
   | exact LeO.none _
   | refine LeO.ite ?_ ?_
   | refine LeO.bind ?_ (fun _ => ?_)
theorem linkhouselaw4_sameBools.mono : ∀ a0 a1 k, LeO (linkhouselaw4_sameBools.f k a0 a1) (linkhouselaw4_sameBools.f (k + 1) a0 a1) := by
 intro a0 a1 k
 have ih0 := linkhouselaw4_sameBools.mono_l k
 unfold linkhouselaw4_sameBools.f
 repeat' first
   | (with_reducible exact ih0 _ _ _)
   | (with_reducible exact LeO.refl _)
   | (with_reducible exact LeO.none _)
   | (with_reducible refine LeO.ite ?_ ?_)
   | (with_reducible refine LeO.bind ?_ (fun _ => ?_))
   | exact ih0 _ _ _
   | exact LeO.none _
   | refine LeO.ite ?_ ?_
   | refine LeO.bind ?_ (fun _ => ?_)
set_option maxHeartbeats 8000000 in
set_option maxRecDepth 100000 in
theorem linkhouselaw4_sameBools.calls (k : Nat) (A0 : Option Addr) (c0 : Nat) (l0 : List Bool) (A1 : Option Addr) (c1 : Nat) (l1 : List Bool) (r : Bool) (w : World) (hr0 : Kd.C Kd.bool w A0 l0.length l0) (hc0 : l0.length ≤ c0) (hr1 : Kd.C Kd.bool w A1 l1.length l1) (hc1 : l1.length ≤ c1) (h : linkhouselaw4_sameBools.f k l0 l1 = some r) :
  Calls Try.prog 10 #[.slice A0 l0.length c0, .slice A1 l1.length c1] w fun e w' => e = .returned (.bool r) ∧ Drawn0 w w' := by
 have HR0 := Aside0.mk hr0
 have HC0 := Aside0.mk hc0
 clear hr0 hc0
 have HR1 := Aside0.mk hr1
 have HC1 := Aside0.mk hc1
 clear hr1 hc1
 have H : (if (l0.length : Int) = (l1.length : Int) then (linkhouselaw4_sameBools.l0 k l0 l1 0) else (some false)) = some r := h
 clear h
 by_cases c3 : (l0.length : Int) = (l1.length : Int)
 ·rw [if_pos c3] at H
  have c3b0 : ((l0.length : Int) == (l1.length : Int)) = true := beq_iff_eq.mpr c3
  have c3b1 : ((l0.length : Int) != (l1.length : Int)) = false := bne_eq_false_iff_eq.mpr c3
  have c3b2 : (l0.length == l1.length) = true := by first | simpa using c3 | (simp at c3 ⊢; omega)
  clear c3
  have H' := Aside0.mk H
  clear H
  go_enter Try.func10, Try.ntmps10
  go_wp2
  repeat (go_quiet (fail); try go_wp2)
  go_loopg [5] k (fun kq v5 w' => ∃ (x5_1 : Int), v5 = .int .i64 x5_1 ∧ Aside0 (linkhouselaw4_sameBools.l0 kq l0 l1 x5_1 = some r) ∧ Aside0 (kq ≤ k) ∧ Drawn0 w w')
  case atStart => exact ⟨(0), (by first | rfl | (simp; done) | (simp [*]; done)), H', ⟨Nat.le_refl _⟩, by repeat (first | exact Drawn0.refl _ | apply Drawn0.step)⟩
  case round =>
   clear H'
   try clear c1
   try clear p2
   try clear c3
   try clear c3b0
   try clear c3b1
   try clear c3b2
   obtain ⟨x5_1, rfl, HA, HK1, ⟨m1, rfl⟩⟩ := hrel
   cases gk with
   | zero => exact absurd HA.out (by simp [linkhouselaw4_sameBools.l0])
   | succ k1 =>
    have H := HA.out
    clear HA
    simp only [linkhouselaw4_sameBools.l0] at H
    by_cases c4 : x5_1 < (l0.length : Int)
    ·rw [if_pos c4] at H
     have c4b0 : decide (x5_1 < (l0.length : Int)) = true := decide_eq_true c4
     clear c4
     by_cases c5 : 0 ≤ x5_1
     ·rw [if_pos c5] at H
      have c5b0 : decide (0 ≤ x5_1) = true := decide_eq_true c5
      clear c5
      by_cases c6 : x5_1 < (l1.length : Int)
      ·rw [if_pos c6] at H
       have c6b0 : decide (x5_1 < (l1.length : Int)) = true := decide_eq_true c6
       clear c6
       by_cases c7 : ((rdOf false l0 x5_1) != (rdOf false l1 x5_1)) = true
       ·rw [if_pos c7] at H
        have c7b0 : ((rdOf false l0 x5_1) != (rdOf false l1 x5_1)) = true := c7
        (try (have c7b1 : decide ((rdOf false l0 x5_1) = (rdOf false l1 x5_1)) = false := by simpa using c7))
        (try (have c7b2 : ((rdOf false l0 x5_1) == (rdOf false l1 x5_1)) = false := by simpa using c7))
        (try (have c7b3 : ¬ ((rdOf false l0 x5_1) = (rdOf false l1 x5_1)) := by simpa using c7))
        clear c7
        obtain rfl := Option.some.inj H
        have p369 : 0 ≤ (x5_1 : Int) := of_decide_eq_true (by first | (with_reducible assumption) | assumption)
        have q369 : x5_1 < (l0.length : Int) := of_decide_eq_true (by first | (with_reducible assumption) | assumption)
        obtain ⟨ad369, e369, hx369_0⟩ := Kd.at_bool HR0.out x5_1 p369 q369
        cases e369
        replace p369 := eq_true p369
        replace q369 := eq_true q369
        have p370 : 0 ≤ (x5_1 : Int) := of_decide_eq_true (by first | (with_reducible assumption) | assumption)
        have q370 : x5_1 < (l1.length : Int) := of_decide_eq_true (by first | (with_reducible assumption) | assumption)
        obtain ⟨ad370, e370, hx370_0⟩ := Kd.at_bool HR1.out x5_1 p370 q370
        cases e370
        replace p370 := eq_true p370
        replace q370 := eq_true q370
        go_wp2
        repeat (go_quiet (fail); try go_wp2)
        go_ret
        exact ⟨by first | rfl | (simp; done) | (simp [*]; done), by repeat (first | exact Drawn0.refl _ | apply Drawn0.step)⟩
       ·rw [if_neg c7] at H
        have c7b0 : ((rdOf false l0 x5_1) != (rdOf false l1 x5_1)) = false := by simpa using c7
        (try (have c7b1 : decide ((rdOf false l0 x5_1) = (rdOf false l1 x5_1)) = true := by simpa using c7))
        (try (have c7b2 : ((rdOf false l0 x5_1) == (rdOf false l1 x5_1)) = true := by simpa using c7))
        clear c7
        have H' := Aside0.mk H
        clear H
        have p369 : 0 ≤ (x5_1 : Int) := of_decide_eq_true (by first | (with_reducible assumption) | assumption)
        have q369 : x5_1 < (l0.length : Int) := of_decide_eq_true (by first | (with_reducible assumption) | assumption)
        obtain ⟨ad369, e369, hx369_0⟩ := Kd.at_bool HR0.out x5_1 p369 q369
        cases e369
        replace p369 := eq_true p369
        replace q369 := eq_true q369
        have p370 : 0 ≤ (x5_1 : Int) := of_decide_eq_true (by first | (with_reducible assumption) | assumption)
        have q370 : x5_1 < (l1.length : Int) := of_decide_eq_true (by first | (with_reducible assumption) | assumption)
        obtain ⟨ad370, e370, hx370_0⟩ := Kd.at_bool HR1.out x5_1 p370 q370
        cases e370
        replace p370 := eq_true p370
        replace q370 := eq_true q370
        go_wp2
        repeat (go_quiet (fail); try go_wp2)
        go_roundg k1
        case measure => have := HK1.out; omega
        case rel => exact ⟨(wrap64 (x5_1 + 1)), (by first | rfl | (simp; done) | (simp [*]; done)), H', ⟨by have := HK1.out; omega⟩, by repeat (first | exact Drawn0.refl _ | apply Drawn0.step)⟩
      ·rw [if_neg c6] at H
       exact absurd H (by simp)
     ·rw [if_neg c5] at H
      exact absurd H (by simp)
    ·rw [if_neg c4] at H
     have c4b0 : decide (x5_1 < (l0.length : Int)) = false := decide_eq_false c4
     clear c4
     obtain rfl := Option.some.inj H
     go_wp2
     repeat (go_quiet (fail); try go_wp2)
     go_ret
     exact ⟨by first | rfl | (simp; done) | (simp [*]; done), by repeat (first | exact Drawn0.refl _ | apply Drawn0.step)⟩
 ·rw [if_neg c3] at H
  have c3b0 : ((l0.length : Int) == (l1.length : Int)) = false := beq_eq_false_iff_ne.mpr c3
  have c3b1 : ((l0.length : Int) != (l1.length : Int)) = true := bne_iff_ne.mpr c3
  have c3b2 : (l0.length == l1.length) = false := by first | simpa using c3 | (simp at c3 ⊢; omega)
  obtain rfl := Option.some.inj H
  go_enter Try.func10, Try.ntmps10
  go_wp2
  repeat (go_quiet (fail); try go_wp2)
  go_ret
  exact ⟨by first | rfl | (simp; done) | (simp [*]; done), by repeat (first | exact Drawn0.refl _ | apply Drawn0.step)⟩
end Go.Proofs.Ytogcgcjhoebooaa.PVeneerMatchesSpec
end
section
set_option linter.unusedVariables false
set_option linter.unusedSimpArgs false
namespace Go.Proofs.Ytogcgcjhoebooaa
open Go.RowKit Go.Proofs.YtogcgcjhoebooaaW.PrintWords Go.Proofs.Ytogcgcjhoebooaa.PVeneerMatchesSpec
def kwidth (k : Int) : Int := if k = 2 then 2 else if k = 3 then 1 else 0
def klo (k : Int) : Int := if k = 2 then -32768 else if k = 3 then -128 else 0
def khi (k : Int) : Int := if k = 2 then 32767 else if k = 3 then 127 else 4294967295
def numV (k s a p : Int) : Int := if k = 2 ∨ k = 3 then s + a - p - kwidth k else s + a
def fits (k s a p : Int) : Bool := decide (klo k ≤ numV k s a p ∧ numV k s a p ≤ khi k)
def upTo (n al : Int) : Int := (n + al - 1) / al * al
def serve (s : S54) (b : S48) : Bool := decide (s.f0 = b.f0 ∧ s.f2 = b.f4 ∧ s.f3 = b.f5 ∧ s.f4 = b.f3)
def cnt (L : List S54) (i : Int) : Nat := (L.filter fun s => decide (s.f0 = i)).length
def extItem (L : List S54) (i : Nat) (x : S57) : S57 := ⟨x.f0, x.f1 + 5 * cnt L i, x.f2⟩
def ext (items : List S57) (L : List S54) : List S57 := items.mapIdx (extItem L)
def addrOf (a : List Int) (tt target : Int) : Int := if tt < 0 then target else rd a tt + target
def reach (a : List Int) (b : S48) : Bool := fits b.f2 (addrOf a b.f4 b.f5) b.f3 (rd a b.f0 + b.f1)
def newStub (items : List S57) (L : List S54) (b : S48) : S54 := ⟨b.f0, (rd_T57 items b.f0).f1 + 5 * cnt L b.f0, b.f4, b.f5, b.f3⟩
def addStub (items : List S57) (L : List S54) (b : S48) : List S54 := if L.any (serve · b) then L else L ++ [newStub items L b]
def pass (items : List S57) (bs : List S48) (a : List Int) : Nat → Nat → List Bool → List S54 → Bool → List Bool × List S54 × Bool
  | 0, _, far, L, ag => (far, L, ag)
  | d + 1, i, far, L, ag =>
    if far.getD i false || reach a (bs.getD i z48) then pass items bs a d (i + 1) far L ag
    else pass items bs a d (i + 1) (far.set i true) (addStub items L (bs.getD i z48)) true
def assignItems (items : List S57) (k : Int) : Nat → Nat → Int → List Int → Int × List Int
  | 0, _, at_, ad => (at_, ad)
  | d + 1, i, at_, ad =>
    if (items.getD i z57).f0 = k then assignItems items k d (i + 1) (upTo at_ (items.getD i z57).f2 + (items.getD i z57).f1) (ad.set i (upTo at_ (items.getD i z57).f2))
    else assignItems items k d (i + 1) at_ ad
structure Asg where
  ad : List Int
  sp : List S80
  code : Int
  idx : Int
def assignFrom (os : List S72) (items : List S57) : Nat → Nat → Int → List Int → List S80 → Asg
 | 0, _, _, ad, sp => ⟨ad, sp, 0, 0⟩
 | d + 1, k, end_, ad, sp =>
  let o := os.getD k z72
  let start := if o.f1 < 0 then upTo (upTo end_ 256) o.f2 else o.f1
  if start < end_ ∨ start % o.f2 ≠ 0 then ⟨[], [], 13, k⟩
  else
   let r := assignItems items k items.length 0 start ad
   if 1048576 < r.1 then ⟨[], [], 10, k⟩
   else assignFrom os items d (k + 1) r.1 r.2 (sp ++ [⟨start, r.1 - start⟩])
def assign (os : List S72) (items : List S57) : Asg := assignFrom os items os.length 0 256 (List.replicate items.length 0) []
def stubAt (L : List S54) (b : S48) : Nat := (L.findIdx (serve · b))
def checkCode (bs : List S48) (a : List Int) (far : List Bool) (L : List S54) (i : Nat) : Int :=
  let b := bs.getD i z48
  if far.getD i false = false then 0
  else if fits b.f2 (rd a b.f0 + (L.getD (stubAt L b) z54).f1) 0 (rd a b.f0 + b.f1) = false then 16
  else if 0 ≤ addrOf a b.f4 b.f5 + b.f3 ∧ addrOf a b.f4 b.f5 + b.f3 ≤ 4294967295 then 0 else 16
structure Settled where
  far : List Bool
  L : List S54
  ad : List Int
  sp : List S80
  code : Int
  idx : Int
def settleFrom (os : List S72) (items : List S57) (bs : List S48) : Nat → List Bool → List S54 → Settled
 | 0, _, _ => ⟨[], [], [], [], 0, 0⟩
 | n + 1, far, L =>
  let g := assign os (ext items L)
  if g.code ≠ 0 then ⟨[], [], [], [], g.code, g.idx⟩
  else
   let p := pass items bs g.ad bs.length 0 far L false
   if p.2.2 then settleFrom os items bs n p.1 p.2.1
   else match scan (checkCode bs g.ad p.1 p.2.1) bs.length 0 with
    | some (i, e) => ⟨[], [], [], [], e, 1000 + i⟩
    | none => ⟨p.1, p.2.1, g.ad, g.sp, 0, 0⟩
def settled (os : List S72) (items : List S57) (bs : List S48) : Settled := settleFrom os items bs (bs.length + 1) (List.replicate bs.length false) []
def ordered (L : List S54) (n : Nat) : List S54 := (List.range n).flatMap fun (i : Nat) => L.filter fun s => decide (s.f0 = (i : Int))
def brCode (l : List S57) (b : S48) : Int :=
  if b.f2 ≠ 2 ∧ b.f2 ≠ 3 then 4
  else if ¬ (0 ≤ b.f0 ∧ b.f0 < l.length ∧ -1 ≤ b.f4 ∧ b.f4 < l.length) then 3
  else if ¬ (0 ≤ b.f1 ∧ b.f1 ≤ (rd_T57 l b.f0).f1 - kwidth b.f2) then 3
  else if ¬ (0 ≤ b.f5 ∧ b.f5 ≤ if b.f4 < 0 then 4294967295 else (rd_T57 l b.f4).f1) then 3
  else if ¬ (-1048576 ≤ b.f3 ∧ b.f3 ≤ 1048576) then 3
  else 0
def itemCode (n : Int) (x : S57) : Int := if ¬ (0 ≤ x.f0 ∧ x.f0 < n ∧ 0 ≤ x.f1 ∧ x.f1 ≤ 1048576 ∧ powOk x.f2 256 = true) then 3 else 0
def itemsFault (l : List S57) (n : Int) : Int × Int :=
  if 200 < l.length then (2, -3) else match scan (fun i => itemCode n (l.getD i z57)) l.length 0 with
  | some (i, e) => (e, -100 - (i : Int))
  | none => (0, 0)
def insertFault (os : List S72) (rs : List S76) (items : List S57) (bs : List S48) : Int × Int :=
 if (scriptFault os rs).1 ≠ 0 then scriptFault os rs
 else if (itemsFault items os.length).1 ≠ 0 then itemsFault items os.length
 else if 400 < bs.length then (2, -4)
 else match scan (fun i => brCode items (bs.getD i z48)) bs.length 0 with
 | some (i, e) => (e, 1000 + (i : Int))
 | none => (0, 0)
structure ValidO (os : List S72) : Prop where
  len : os.length ≤ 8
  o : ∀ k, k < os.length → (os.getD k z72).f1 ≤ 1048576 ∧ -1 ≤ (os.getD k z72).f1 ∧ 1 ≤ (os.getD k z72).f2 ∧ (os.getD k z72).f2 ≤ 4096
structure ValidI (items : List S57) (n : Nat) : Prop where
  len : items.length ≤ 200
  x : ∀ i, i < items.length → 0 ≤ (items.getD i z57).f0 ∧ (items.getD i z57).f0 < n ∧ 0 ≤ (items.getD i z57).f1 ∧ (items.getD i z57).f1 ≤ 1048576 ∧ 1 ≤ (items.getD i z57).f2 ∧ (items.getD i z57).f2 ≤ 256
theorem scan_none {f : Nat → Int} : ∀ (d i : Nat), scan f d i = none → ∀ j, i ≤ j → j < i + d → f j = 0
  | 0, i, h, j, h1, h2 => by omega
  | d + 1, i, h, j, h1, h2 => by
    rw [scan] at h
    split at h
    · rename_i h0
      by_cases hj : j = i
      · subst hj; exact h0
      · exact scan_none d (i + 1) h j (by omega) (by omega)
    · cases h
theorem scan_some {f : Nat → Int} : ∀ (d i : Nat) {j : Nat} {e : Int}, scan f d i = some (j, e) → e ≠ 0
  | 0, i, j, e, h => by cases h
  | d + 1, i, j, e, h => by
    rw [scan] at h
    split at h
    · exact scan_some d (i + 1) h
    · rename_i h0
      injection h with h
      injection h with h1 h2
      subst h2
      exact h0
theorem powOk_bd {n m : Int} (h : powOk n m = true) : 1 ≤ n ∧ n ≤ m := by
  unfold powOk at h
  simp at h
  exact h.1
theorem outBad_bd {o : S72} (h : outBad o = false) : o.f1 ≤ 1048576 ∧ -1 ≤ o.f1 ∧ 1 ≤ o.f2 ∧ o.f2 ≤ 4096 := by
  unfold outBad at h
  simp only [Bool.or_eq_false_iff, decide_eq_false_iff_not] at h
  omega
theorem validO_of {os : List S72} {rs : List S76} (h : (scriptFault os rs).1 = 0) : ValidO os := by
 unfold scriptFault at h
 by_cases h8 : 8 < os.length
 ·rw [if_pos h8] at h; cases h
 ·rw [if_neg h8] at h
  refine ⟨by omega, fun k hk => ?_⟩
  cases hs : scan (outCode os) os.length 0 with
  | some p => rw [hs] at h; exact absurd h (scan_some _ _ hs)
  | none =>
   have h0 := scan_none _ _ hs k (by omega) (by omega)
   unfold outCode at h0
   split at h0
   ·cases h0
   ·split at h0
    ·cases h0
    ·split at h0
     ·cases h0
     ·rename_i hb
      exact outBad_bd (by simpa using hb)
theorem validI_of {items : List S57} {n : Nat} (h : (itemsFault items n).1 = 0) : ValidI items n := by
 unfold itemsFault at h
 by_cases h8 : 200 < items.length
 ·rw [if_pos h8] at h; cases h
 ·rw [if_neg h8] at h
  refine ⟨by omega, fun k hk => ?_⟩
  cases hs : scan (fun i => itemCode n (items.getD i z57)) items.length 0 with
  | some p => rw [hs] at h; exact absurd h (scan_some _ _ hs)
  | none =>
   have h0 := scan_none _ _ hs k (by omega) (by omega)
   simp only [itemCode] at h0
   split at h0
   ·cases h0
   ·rename_i hb
    simp only [Decidable.not_not] at hb
    obtain ⟨h1, h2, h3, h4, h5⟩ := hb
    have := powOk_bd h5
    omega
end Go.Proofs.Ytogcgcjhoebooaa
end
section
set_option linter.unusedVariables false
set_option linter.unusedSimpArgs false
namespace Go.Proofs.Ytogcgcjhoebooaa
open Go.RowKit Go.Proofs.YtogcgcjhoebooaaW.PrintWords Go.Proofs.Ytogcgcjhoebooaa.PVeneerMatchesSpec
def cells57 (l : List S57) : List Value := l.flatMap fun x => [.int .i64 x.f0, .int .i64 x.f1, .int .i64 x.f2]
theorem cells57_length (l : List S57) : (cells57 l).length = l.length * 3 := by
  induction l with
  | nil => rfl
  | cons x l ih => simp only [cells57, List.flatMap_cons, List.length_append, List.length_cons, List.length_nil] at ih ⊢; rw [ih]; omega
theorem cells57_cons (x : S57) (l : List S57) : cells57 (x :: l) = .int .i64 x.f0 :: .int .i64 x.f1 :: .int .i64 x.f2 :: cells57 l := rfl
theorem cells57_at (l : List S57) : ∀ (i : Nat), i < l.length → (cells57 l)[i * 3]? = some (.int .i64 (l.getD i z57).f0) ∧ (cells57 l)[i * 3 + 1]? = some (.int .i64 (l.getD i z57).f1) ∧ (cells57 l)[i * 3 + 2]? = some (.int .i64 (l.getD i z57).f2) := by
 induction l with
 | nil => intro i hi; simp at hi
 | cons x l ih =>
  intro i hi
  rw [cells57_cons]
  cases i with
  | zero => exact ⟨rfl, rfl, rfl⟩
  | succ i =>
   have h := ih i (by simpa using hi)
   rw [show (i + 1) * 3 = i * 3 + 3 by omega]
   simpa using h
theorem cells57_one (l : List S57) : ∀ u ∈ cells57 l, u.oneCell' = true := by
  intro u hu
  simp only [cells57, List.mem_flatMap] at hu
  obtain ⟨x, _, hu⟩ := hu
  simp at hu
  rcases hu with rfl | rfl | rfl <;> rfl
theorem cells57_read {w : World} {b o n : Nat} {l : List S57} (hl : l.length = n) (h : ∀ i, i < n → w.cell? ⟨b, o + i * 3, none⟩ = some (.int .i64 (l.getD i z57).f0) ∧ w.cell? ⟨b, o + i * 3 + 1, none⟩ = some (.int .i64 (l.getD i z57).f1) ∧ w.cell? ⟨b, o + i * 3 + 2, none⟩ = some (.int .i64 (l.getD i z57).f2)) :
  ∀ j u, (cells57 l)[j]? = some u → w.cell? ((⟨b, o, none⟩ : Addr).add j) = some u := by
 intro j u hu
 have hj : j < (cells57 l).length := (List.getElem?_eq_some_iff.1 hu).1
 rw [cells57_length] at hj
 have ha : (⟨b, o, none⟩ : Addr).add j = ⟨b, o + j, none⟩ := by unfold Addr.add; split <;> simp_all
 rw [ha]
 have hq : j / 3 < l.length := by omega
 obtain ⟨a0, a1, a2⟩ := cells57_at l (j / 3) hq
 obtain ⟨b0, b1, b2⟩ := h (j / 3) (by omega)
 have : j % 3 = 0 ∨ j % 3 = 1 ∨ j % 3 = 2 := by omega
 rcases this with h0 | h0 | h0
 ·rw [show j / 3 * 3 = j by omega] at a0 b0; rw [b0, ← a0, hu]
 ·rw [show j / 3 * 3 + 1 = j by omega] at a1; rw [show o + j / 3 * 3 + 1 = o + j by omega] at b1; rw [b1, ← a1, hu]
 ·rw [show j / 3 * 3 + 2 = j by omega] at a2; rw [show o + j / 3 * 3 + 2 = o + j by omega] at b2; rw [b2, ← a2, hu]
theorem C57_of_own {w : World} {base : Nat} {v : Value} {l : List S57} (h : w.ownsRow base 57 3 v l.length (cells57 l)) (hm : l.length ≤ 9223372036854775807) : ∃ A c, v = .slice A l.length c ∧ l.length ≤ c ∧ Kd.C k57 w A l.length l := by
 rcases h.2 with ⟨rfl, h0⟩ | ⟨g, cap, cur, rfl, hb, hg, hn, hc, hs, ht⟩
 ·refine ⟨none, 0, by rw [h0], by omega, rfl, hm, fun hp => absurd hp (by omega)⟩
 ·refine ⟨_, cap, rfl, hn, rfl, hm, fun hp => ⟨_, rfl, fun j p hj => ?_⟩⟩
  have hjl : j < l.length := (List.getElem?_eq_some_iff.1 hj).1
  have hp' : l.getD j z57 = p := by rw [List.getD_eq_getElem?_getD, hj]; rfl
  obtain ⟨a0, a1, a2⟩ := cells57_at l j hjl
  rw [hp'] at a0 a1 a2
  have hcell := h.cells (g := g) rfl
  refine ⟨[.int .i64 p.f0, .int .i64 p.f1, .int .i64 p.f2], rfl, k57_mk w p, fun i u hu => ?_⟩
  have h3 : k57.sz = 3 := rfl
  rw [h3]
  refine hcell _ _ ?_
  match i, hu with
  | 0, hu => simp at hu; subst hu; exact a0
  | 1, hu => simp at hu; subst hu; exact a1
  | 2, hu => simp at hu; subst hu; exact a2
  | i + 3, hu => simp at hu
set_option maxHeartbeats 1000000 in
set_option maxRecDepth 100000 in
theorem clone_calls (A : Option Addr) (c : Nat) (l : List S57) (w : World) (hr : Kd.C k57 w A l.length l) (hc : l.length ≤ c) (hm : l.length ≤ 1000) :
  Calls Try.prog 54 #[.slice A l.length c] w fun e w' => ∃ v, e = .returned v ∧ w'.ownsRow w.heap.size 57 3 v l.length (cells57 l) ∧ Below w.heap.size w w' := by
 have heq := fun W : World => Lib.run_eql_slice_nil (P := Try.prog) W 26 57 A l.length c 0 0 Try.underlying26
 cases A with
 | none =>
  have h0 : l = [] := by
   cases l with
   | nil => rfl
   | cons x l => obtain ⟨ad, e, _⟩ := hr.2.2 (by simp); cases e
  subst h0
  simp at heq
  go_enter Try.func54, Try.ntmps54
  go_wp2
  go_ret
  exact ⟨_, rfl, ⟨by simp [cells57], .inl ⟨rfl, rfl⟩⟩, Below.refl _ _⟩
 | some ad =>
  simp at heq
  obtain ⟨i0, hi, hzz⟩ := Option.map_eq_some_iff.1 info57
  simp only [Prod.mk.injEq] at hzz
  obtain ⟨hz0, hz1, hz2⟩ := hzz
  have hnews : Aside0 (∀ W, Below w.heap.size w W → ∀ j u, (cells57 l)[j]? = some u → W.cell? (ad.add j) = some u) := ⟨fun W hW j u hu => by
   have hj : j < (cells57 l).length := (List.getElem?_eq_some_iff.1 hu).1
   rw [cells57_length] at hj
   obtain ⟨b, o, e, hb, hx⟩ := open57 (Kd.C_below hr hW) (by omega)
   cases e
   exact cells57_read rfl hx j u hu⟩
  have hown : Aside0 ((w.alloc (Obj.cells #[] 57)).ownsRow w.heap.size 57 3 (.slice (some ⟨w.heap.size, 0, none⟩) 0 0) 0 []) := ⟨by simpa using World.ownsRow_lit (base := w.heap.size) (e := 57) (size := 3) w #[] 0 (Nat.le_refl _) (by simp [maxLen]) (by simp)⟩
  have hl3 := cells57_length l
  have H1 := cells57_one l
  have H := Aside0.mk (And.intro hi (And.intro hz0 (And.intro hz1 (And.intro hz2 (And.intro hl3 H1)))))
  clear hr hi hz0 hz1 hz2 hl3 H1
  go_enter Try.func54, Try.ntmps54
  go_wp2_with (at_builtin; refine wpList_append_own_at _ rfl (.tmp 5) (.tmp 6) 26 rfl w.heap.size 57 i0 _ 3 24 Try.underlying26 H.out.1 H.out.2.1 H.out.2.2.1 H.out.2.2.2.1 rfl (by decide) _ 0 [] rfl hown.out ad l.length c (cells57 l) rfl H.out.2.2.2.2.1 (hnews.out _ ?c1) H.out.2.2.2.2.2 ?c2 ?c3 ?c4 ?_)
  case c1 => exact below_alloc (Below.refl _ _) _
  case c2 => simp only [maxLen]; omega
  case c3 => omega
  case c4 => simp
  intro v' w1 ho hg _ _
  have ho' := Aside0.mk ho
  have hg' := Aside0.mk hg
  clear ho hg
  go_wp2
  go_ret
  refine ⟨v', rfl, by simpa using ho'.out, ?_⟩
  exact (below_alloc (Below.refl _ _) _ : Below w.heap.size w (w.alloc (Obj.cells #[] 57))).grown hg'.out (by simp) (fun k hk => by simp [Value.ownBlock] at hk; omega)
end Go.Proofs.Ytogcgcjhoebooaa
end

/- The law VeneerMatchesSpec: for every script, list of items and list of branches the law returns true, and the arguments read as before. No conditions. (Part 4 of 6 of the proof. Lines of the texts that print.sh printed for this seat are among it, cut to what is used.) -/
import Derived.Lib.Strings
import Derived.Test.YtogcgcjhoebooaaD3
section
set_option linter.unusedVariables false
set_option linter.unusedSimpArgs false
namespace Go.Proofs.Ytogcgcjhoebooaa
open Go.RowKit Go.Proofs.YtogcgcjhoebooaaW.PrintWords Go.Proofs.YtogcgcjhoebooaaW.PrintLast Go.Proofs.Ytogcgcjhoebooaa.PVeneerMatchesSpec
theorem items_plain {items : List S57} {n : Int} (hl : items.length ≤ 200) : ∀ (d i k : Nat), i + d = items.length → 2 * d < k →
  place_Items.l0 k n items items.length i = some (match scan (fun i => itemCode n (items.getD i z57)) d i with | some (j, e) => (e, -100 - (j : Int)) | none => (0, 0))
 | 0, i, k, hi, hk => by
  obtain ⟨k, rfl⟩ : ∃ k', k = k' + 1 := ⟨k - 1, by omega⟩
  rw [place_Items.l0, if_neg (by omega)]
  rfl
 | d + 1, i, k, hi, hk => by
  obtain ⟨k, rfl⟩ : ∃ k', k = k' + 1 + 1 := ⟨k - 2, by omega⟩
  have ih := items_plain (n := n) hl d (i + 1) k (by omega) (by omega)
  rw [place_Items.l0, if_pos (by omega), if_pos (by omega), if_pos (by omega)]
  have hr : rd_T57 items i = items.getD i z57 := rfl
  have e1 : wrap64 ((i : Int) + 1) = ((i + 1 : Nat) : Int) := by unfold wrap64; omega
  have e2 : wrap64 (-100 - (i : Int)) = -100 - (i : Int) := by unfold wrap64; omega
  rw [hr]
  rw [scan]
  change _ = some (match (if itemCode n (items.getD i z57) = 0 then scan (fun i => itemCode n (items.getD i z57)) d (i + 1) else some (i, itemCode n (items.getD i z57))) with | some (j, e) => (e, -100 - (j : Int)) | none => (0, 0))
  generalize items.getD i z57 = x at *
  have jt : place_Items.j1 (k + 1) n i items items.length i true x.f0 x.f1 x.f2 = some (3, -100 - (i : Int)) := by simp [place_Items.j1, e2]
  by_cases c : 0 ≤ x.f0 ∧ x.f0 < n ∧ 0 ≤ x.f1 ∧ x.f1 ≤ 1048576 ∧ powOk x.f2 256 = true
  ·have hc0 : itemCode n x = 0 := by unfold itemCode; rw [if_neg (not_not_intro c)]
   rw [if_pos hc0]
   obtain ⟨c1, c2, c3, c4, c5⟩ := c
   have hb := powOk_bd c5
   have e3 : wrap64 (x.f2 - 1) = x.f2 - 1 := by unfold wrap64; omega
   have hp : Go.bits .and .i64 x.f2 (x.f2 - 1) = 0 := by
    unfold powOk pow2n at c5
    simp at c5
    exact c5.2
   rw [if_neg (by omega), if_neg (by omega), if_neg (by omega), decide_eq_false (by omega), place_Items.j1, if_neg (by simp), if_neg (by omega), if_neg (by omega), e3, if_pos hp, e1, ih]
  ·have hc3 : itemCode n x = 3 := by unfold itemCode; rw [if_pos c]
   rw [if_neg (show ¬ itemCode n x = 0 by rw [hc3]; decide), hc3]
   by_cases u1 : x.f0 < 0
   ·rw [if_pos u1, jt]
   ·rw [if_neg u1]
    by_cases u2 : x.f0 ≥ n
    ·rw [if_pos u2, jt]
    ·rw [if_neg u2]
     by_cases u3 : x.f1 < 0
     ·rw [if_pos u3, jt]
     ·rw [if_neg u3]
      by_cases u4 : x.f1 > 1048576
      ·rw [decide_eq_true u4, jt]
      ·rw [decide_eq_false u4, place_Items.j1, if_neg (by simp)]
       by_cases u5 : x.f2 < 1
       ·rw [if_pos u5, e2]
       ·rw [if_neg u5]
        by_cases u6 : x.f2 > 256
        ·rw [if_pos u6, e2]
        ·have e3 : wrap64 (x.f2 - 1) = x.f2 - 1 := by unfold wrap64; omega
         rw [if_neg u6, e3]
         by_cases u7 : Go.bits .and .i64 x.f2 (x.f2 - 1) = 0
         ·exfalso
          apply c
          refine ⟨by omega, by omega, by omega, by omega, ?_⟩
          unfold powOk pow2n
          rw [u7, decide_eq_true (by omega)]
          rfl
         ·rw [if_neg u7, e2]
theorem items_calls : ItemsCalls 26 := fun A c items n w hC hc h0 h8 => by
 refine place_Items.calls (2 * items.length + 1) A c items n _ _ w hC hc ?_
 unfold place_Items.f itemsFault
 by_cases h : 200 < items.length
 ·rw [if_pos (by omega), if_pos h]
 ·rw [if_neg (by omega), if_neg h]
  have := items_plain (items := items) (n := n) (by omega) items.length 0 (2 * items.length + 1) (by omega) (by omega)
  rw [show ((0 : Nat) : Int) = 0 from rfl] at this
  rw [this]
  cases scan (fun i => itemCode n (items.getD i z57)) items.length 0 with
  | none => rfl
  | some p => rfl
end Go.Proofs.Ytogcgcjhoebooaa
end
section
set_option linter.unusedVariables false
set_option linter.unusedSimpArgs false
namespace Go.Proofs.Ytogcgcjhoebooaa
open Go.RowKit Go.Proofs.YtogcgcjhoebooaaW.PrintWords Go.Proofs.YtogcgcjhoebooaaW.PrintLast Go.Proofs.Ytogcgcjhoebooaa.PVeneerMatchesSpec
theorem up_plain {n al : Int} (h0 : 0 ≤ n) (h1 : n ≤ 1000000000000) (h2 : 1 ≤ al) (h3 : al ≤ 4096) : thread_Up.f n al = some (upTo n al) := by
 have e1 : wrap64 (n + al) = n + al := by unfold wrap64; omega
 have e2 : wrap64 (n + al - 1) = n + al - 1 := by unfold wrap64; omega
 have hd : Int.tdiv (n + al - 1) al = (n + al - 1) / al := Int.tdiv_eq_ediv_of_nonneg (by omega)
 have hq0 : 0 ≤ (n + al - 1) / al := Int.ediv_nonneg (by omega) (by omega)
 have hq1 : (n + al - 1) / al ≤ n + al - 1 := Int.ediv_le_self _ (by omega)
 have hm : (n + al - 1) / al * al ≤ n + al - 1 := Int.ediv_mul_le _ (by omega)
 have hm0 : 0 ≤ (n + al - 1) / al * al := Int.mul_nonneg hq0 (by omega)
 unfold thread_Up.f upTo
 rw [if_neg (by omega), e1, e2, hd]
 have e3 : wrap64 ((n + al - 1) / al) = (n + al - 1) / al := by unfold wrap64; omega
 rw [e3]
 have e4 : wrap64 ((n + al - 1) / al * al) = (n + al - 1) / al * al := by unfold wrap64; omega
 rw [e4]
theorem upTo_le {n al : Int} (h2 : 1 ≤ al) : upTo n al ≤ n + al - 1 := Int.ediv_mul_le _ (by omega)
theorem wrap_succ {i : Nat} (h : i < 100000) : wrap64 ((i : Int) + 1) = ((i + 1 : Nat) : Int) := by unfold wrap64; omega
theorem wrap_id {x : Int} (h0 : -1000000000000 ≤ x) (h1 : x ≤ 1000000000000) : wrap64 x = x := by unfold wrap64; omega
set_option maxHeartbeats 2000000 in
theorem assign_l1 {items : List S57} (hv : OkI items) {os : List S72} {kk : Nat} {start : Int} {n : Int} (hkk : kk < 1000) : ∀ (d i k : Nat) (at_ : Int) (ad : List Int) (sp : List S80), i + d = items.length → d < k → ad.length = items.length → 0 ≤ at_ → at_ ≤ 2000000 + 2000300 * (i : Int) → kk < sp.length →
  place_Assign.l1 k items ad sp kk start at_ os n kk items items.length i = (if (assignItems items kk d i at_ ad).1 > 1048576 then some ([], [], 10, (kk : Int)) else place_Assign.l0 (k - d - 1) items (assignItems items kk d i at_ ad).2 (sp.set kk ⟨start, wrap64 ((assignItems items kk d i at_ ad).1 - start)⟩) (assignItems items kk d i at_ ad).1 os n ((kk + 1 : Nat) : Int))
 | 0, i, k, at_, ad, sp, hi, hk, hl, h0, h1, hsp => by
  obtain ⟨k, rfl⟩ : ∃ k', k = k' + 1 := ⟨k - 1, by omega⟩
  have hA := wrap_succ (i := kk) (by omega)
  have hB : ¬ ((i : Int) < items.length) := by omega
  have hC : (0 : Int) ≤ kk := by omega
  have hD : (kk : Int) < sp.length := by omega
  rw [place_Assign.l1, if_neg hB, if_pos hC, if_pos hD, hA, Nat.sub_zero, Nat.add_sub_cancel, show ((kk : Int)).toNat = kk from rfl]
  rw [show assignItems items kk 0 i at_ ad = (at_, ad) from rfl]
 | d + 1, i, k, at_, ad, sp, hi, hk, hl, h0, h1, hsp => by
  suffices H : ∀ R, (if (assignItems items kk (d + 1) i at_ ad).1 > 1048576 then some ([], [], 10, (kk : Int)) else place_Assign.l0 (k - (d + 1) - 1) items (assignItems items kk (d + 1) i at_ ad).2 (sp.set kk ⟨start, wrap64 ((assignItems items kk (d + 1) i at_ ad).1 - start)⟩) (assignItems items kk (d + 1) i at_ ad).1 os n ((kk + 1 : Nat) : Int)) = R → place_Assign.l1 k items ad sp kk start at_ os n kk items items.length i = R from H _ rfl
  intro R hR
  obtain ⟨k, rfl⟩ : ∃ k', k = k' + 1 := ⟨k - 1, by omega⟩
  rw [show k + 1 - (d + 1) - 1 = k - d - 1 by omega] at hR
  have hlen := hv.len
  obtain ⟨v1, v2, v3, v4⟩ := hv.x i (by omega)
  have hA : (i : Int) < items.length := by omega
  have hB : (0 : Int) ≤ i := by omega
  have hi1 : i < 100000 := by omega
  have hr : rd_T57 items i = items.getD i z57 := rfl
  rw [place_Assign.l1, if_pos hA, if_pos hB, if_pos hA, hr]
  by_cases c : (items.getD i z57).f0 = kk
  ·have hu := upTo_ge (n := at_) v3
   have hu2 := upTo_le (n := at_) v3
   have ih := assign_l1 hv (os := os) (kk := kk) (start := start) (n := n) hkk d (i + 1) k (upTo at_ (items.getD i z57).f2 + (items.getD i z57).f1) (ad.set i (upTo at_ (items.getD i z57).f2)) sp (by omega) (by omega) (by simpa using hl) (by omega) (by omega) hsp
   have ha : assignItems items kk (d + 1) i at_ ad = assignItems items kk d (i + 1) (upTo at_ (items.getD i z57).f2 + (items.getD i z57).f1) (ad.set i (upTo at_ (items.getD i z57).f2)) := by rw [assignItems, if_pos c]
   rw [ha] at hR
   rw [if_pos c, up_plain h0 (by omega) v3 (by omega)]
   simp only [Option.bind_some]
   rw [if_pos (show (i : Int) < ad.length by omega), show ((i : Int)).toNat = i from rfl]
   have hrd : rd (ad.set i (upTo at_ (items.getD i z57).f2)) i = upTo at_ (items.getD i z57).f2 := by
    simp [rd, List.getD_eq_getElem?_getD, List.getElem?_set, show i < ad.length by omega]
   rw [hrd, wrap_succ hi1, wrap_id (by omega) (by omega), ih, hR]
  ·have ih := assign_l1 hv (os := os) (kk := kk) (start := start) (n := n) hkk d (i + 1) k at_ ad sp (by omega) (by omega) hl h0 (by omega) hsp
   have ha : assignItems items kk (d + 1) i at_ ad = assignItems items kk d (i + 1) at_ ad := by rw [assignItems, if_neg c]
   rw [ha] at hR
   rw [if_neg c, wrap_succ hi1, ih, hR]
theorem assignItems_len {items : List S57} {kk : Int} : ∀ (d i : Nat) (at_ : Int) (ad : List Int), (assignItems items kk d i at_ ad).2.length = ad.length
  | 0, _, _, _ => rfl
  | d + 1, i, at_, ad => by
    rw [assignItems]
    split
    · rw [assignItems_len d (i + 1)]; simp
    · exact assignItems_len d (i + 1) at_ ad
set_option maxHeartbeats 2000000 in
theorem assign_l0 {items : List S57} (hv : OkI items) {os : List S72} (ho : ValidO os) : ∀ (d i k : Nat) (end_ : Int) (ad : List Int) (sp S : List S80), i + d = os.length → d * (items.length + 4) < k → ad.length = items.length → 0 ≤ end_ → end_ ≤ 1048576 → sp.length = os.length →
  ∃ sp', place_Assign.l0 k items ad sp end_ os os.length i = some ((assignFrom os items d i end_ ad S).ad, sp', (assignFrom os items d i end_ ad S).code, (assignFrom os items d i end_ ad S).idx)
 | 0, i, k, end_, ad, sp, S, hi, hk, hl, h0, h1, hsp => by
  obtain ⟨k, rfl⟩ : ∃ k', k = k' + 1 := ⟨k - 1, by omega⟩
  exact ⟨sp, by rw [place_Assign.l0, if_neg (by omega)]; rfl⟩
 | d + 1, i, k, end_, ad, sp, S, hi, hk, hl, h0, h1, hsp => by
  rw [Nat.succ_mul] at hk
  obtain ⟨k, rfl⟩ : ∃ k', k = k' + 1 + 1 + 1 := ⟨k - 3, by omega⟩
  have hol := ho.len
  have hlen := hv.len
  obtain ⟨o1, o2, o3, o4⟩ := ho.o i (by omega)
  have hr : rd_T72 os i = os.getD i z72 := rfl
  have hu1 := upTo_ge (n := end_) (al := 256) (by omega)
  have hu2 := upTo_le (n := end_) (al := 256) (by omega)
  have hu3 := upTo_ge (n := upTo end_ 256) o3
  have hu4 := upTo_le (n := upTo end_ 256) o3
  have hstep : place_Assign.l0 (k + 1 + 1 + 1) items ad sp end_ os os.length i = place_Assign.j1 (k + 1 + 1) items ad sp end_ i (if (os.getD i z72).f1 < 0 then upTo (upTo end_ 256) (os.getD i z72).f2 else (os.getD i z72).f1) os os.length i (os.getD i z72).f0 (os.getD i z72).f1 (os.getD i z72).f2 (os.getD i z72).f3 := by
   rw [place_Assign.l0, if_pos (by omega), if_pos (by omega), if_pos (by omega), hr]
   by_cases c : (os.getD i z72).f1 < 0
   ·rw [if_pos c, if_pos c, up_plain h0 (by omega) (by omega) (by omega)]
    simp only [Option.bind_some]
    rw [up_plain (by omega) (by omega) o3 o4]
    rfl
   ·rw [if_neg c, if_neg c]
  rw [hstep]
  simp only [assignFrom]
  have hst : 0 ≤ (if (os.getD i z72).f1 < 0 then upTo (upTo end_ 256) (os.getD i z72).f2 else (os.getD i z72).f1) ∧ (if (os.getD i z72).f1 < 0 then upTo (upTo end_ 256) (os.getD i z72).f2 else (os.getD i z72).f1) ≤ 2000000 := by
   split <;> omega
  generalize (if (os.getD i z72).f1 < 0 then upTo (upTo end_ 256) (os.getD i z72).f2 else (os.getD i z72).f1) = start at *
  generalize (os.getD i z72).f2 = al at *
  rw [place_Assign.j1]
  by_cases c1 : start < end_
  ·rw [if_pos c1, if_pos (Or.inl c1)]
   exact ⟨[], by simp [place_Assign.j2]⟩
  ·rw [if_neg c1, if_neg (by omega)]
   have hmod : Int.tmod start al = start % al := Int.tmod_eq_emod_of_nonneg hst.1
   rw [hmod]
   by_cases c2 : start % al ≠ 0
   ·rw [if_pos (Or.inr c2)]
    exact ⟨[], by simp [place_Assign.j2, c2]⟩
   ·have c2' : start % al = 0 := by simpa using c2
    rw [if_neg (show ¬ (start < end_ ∨ start % al ≠ 0) from fun h => h.elim c1 c2)]
    have hL1 := assign_l1 hv (os := os) (kk := i) (start := start) (n := (os.length : Int)) (by omega) items.length 0 k start ad sp (by omega) (by omega) hl hst.1 (by omega) (by omega)
    rw [show ((0 : Nat) : Int) = 0 from rfl] at hL1
    rw [place_Assign.j2, if_neg (by simp [c2']), hL1]
    have hge := assignItems_ge hv i items.length 0 start ad (by omega)
    have hlen2 := assignItems_len (items := items) (kk := i) items.length 0 start ad
    generalize assignItems items i items.length 0 start ad = r at *
    by_cases c3 : 1048576 < r.1
    ·rw [if_pos c3, if_pos c3]
     exact ⟨[], rfl⟩
    ·rw [if_neg c3, if_neg c3]
     exact assign_l0 hv ho d (i + 1) _ r.1 r.2 _ _ (by omega) (by omega) (by omega) (by omega) (by omega) (by simpa using hsp)
theorem assign_plain {items : List S57} (hv : OkI items) {os : List S72} (rs : List S76) (ho : ValidO os) : ∃ sp', place_Assign.f (os.length * (items.length + 4) + 1) os rs items = some ((assign os items).ad, sp', (assign os items).code, (assign os items).idx) := by
 have h1 := hv.len
 have h2 := ho.len
 obtain ⟨sp', h⟩ := assign_l0 hv ho os.length 0 (os.length * (items.length + 4) + 1) 256 (List.replicate items.length 0) (List.replicate os.length z80) [] (by omega) (by omega) (by simp) (by omega) (by omega) (by simp)
 refine ⟨sp', ?_⟩
 unfold place_Assign.f assign
 rw [if_pos (by omega), if_pos (by omega), if_pos (by omega), if_pos (by omega)]
 exact h
theorem rowI_of_R {w : World} {base : Nat} {ok : Nat → Prop} {v : Value} {xs : List Int} {e : Nat} (h : Kd.R (Kd.int .i64) e w base ok v xs) : RowI base w v xs := by
  obtain ⟨A, c, he, hl, hr⟩ := Kd.R_reads h
  exact ⟨A, c, he, by omega, hr, fun ad had => Kd.R_base h ad.block (by rw [he, had]; rfl)⟩
theorem isSl_of_R {α : Type} {d : Kd α} {w : World} {base : Nat} {ok : Nat → Prop} {v : Value} {xs : List α} {e : Nat} (h : Kd.R d e w base ok v xs) : IsSl v := by
  obtain ⟨A, c, he, _, _⟩ := Kd.R_reads h
  exact ⟨A, _, c, he⟩
theorem assign_calls : AssignCalls := fun A0 c0 os A1 c1 rs A c items W ho hv hC0 hc0 hC1 hc1 hC hc => by
  obtain ⟨sp', h⟩ := assign_plain hv rs ho
  refine (place_Assign.calls _ A0 c0 os A1 c1 rs A c items _ _ _ _ W hC0 hc0 hC1 hc1 hC hc h).mono ?_
  rintro e w' ⟨v0, v1, rfl, h0, h1, hb⟩
  exact ⟨v0, v1, rfl, rowI_of_R h0, isSl_of_R h1, hb⟩
end Go.Proofs.Ytogcgcjhoebooaa
end
section
set_option linter.unusedVariables false
set_option linter.unusedSimpArgs false
namespace Go.Proofs.Ytogcgcjhoebooaa
open Go.RowKit Go.Proofs.YtogcgcjhoebooaaW.PrintWords Go.Proofs.YtogcgcjhoebooaaW.PrintLast Go.Proofs.Ytogcgcjhoebooaa.PVeneerMatchesSpec
set_option maxHeartbeats 2000000 in
theorem name_step (s : ByteArray) (i k : Nat) (hi : i < s.size) (hs : s.size ≤ 9223372036854775807) :
  script_IsName.l0 (k + 1) s s.size i = if nameChar s i = true then script_IsName.l0 k s s.size ((i + 1 : Nat) : Int) else some false := by
 have e1 : wrap64 ((i : Int) + 1) = ((i + 1 : Nat) : Int) := by unfold wrap64; omega
 have h1 : (i : Int) < s.size := by omega
 have h2 : (0 : Int) ≤ i := by omega
 rw [script_IsName.l0, if_pos h1, if_pos h2, if_pos h1, e1]
 unfold nameChar chr
 simp only [Bool.or_eq_true, Bool.and_eq_true, decide_eq_true_eq]
 generalize script_IsName.l0 k s s.size ((i + 1 : Nat) : Int) = R
 generalize bt s i = b
 have h3 : (i : Int) = 0 ↔ i = 0 := by omega
 simp only [h3]
 clear e1 h1 h2 h3 hs hi
 by_cases c : ((97 ≤ b ∧ b ≤ 122 ∨ 65 ≤ b ∧ b ≤ 90 ∨ b = 46 ∨ b = 95 ∨ b = 36) ∨ 0 < i ∧ 48 ≤ b ∧ b ≤ 57)
 ·rw [if_pos c]
  repeat' split
  all_goals first | rfl | (exfalso; omega)
 ·rw [if_neg c]
  repeat' split
  all_goals first | rfl | (exfalso; omega)
theorem name_plain (s : ByteArray) (hs : s.size ≤ 9223372036854775807) : ∀ (d i k : Nat), i + d = s.size → d < k →
  script_IsName.l0 k s s.size i = some ((List.range' i d).all (nameChar s) && decide (1 ≤ s.size ∧ s.size ≤ 16))
 | 0, i, k, hi, hk => by
  obtain ⟨k, rfl⟩ : ∃ k', k = k' + 1 := ⟨k - 1, by omega⟩
  rw [script_IsName.l0, if_neg (by omega)]
  by_cases c : (s.size : Int) ≥ 1
  ·rw [if_pos c]
   simp only [List.range'_zero, List.all_nil, Bool.true_and]
   congr 1
   rw [decide_eq_decide]; omega
  ·rw [if_neg c]
   simp only [List.range'_zero, List.all_nil, Bool.true_and]
   rw [decide_eq_false (by omega)]
 | d + 1, i, k, hi, hk => by
  obtain ⟨k, rfl⟩ : ∃ k', k = k' + 1 := ⟨k - 1, by omega⟩
  have ih := name_plain s hs d (i + 1) k (by omega) (by omega)
  rw [name_step s i k (by omega) hs, ih, List.range'_succ, List.all_cons]
  cases nameChar s i <;> simp
theorem name_f (s : ByteArray) (hs : s.size ≤ 9223372036854775807) : script_IsName.f (s.size + 1) s = some (nameOk s) := by
  unfold script_IsName.f nameOk
  have := name_plain s hs s.size 0 (s.size + 1) (by omega) (by omega)
  rw [List.range_eq_range']
  exact this
theorem name_calls : NameCalls := fun s w hs => script_IsName.calls (s.size + 1) s _ w (name_f s hs)
end Go.Proofs.Ytogcgcjhoebooaa
end
section
set_option linter.unusedVariables false
set_option linter.unusedSimpArgs false
namespace Go.Proofs.Ytogcgcjhoebooaa
open Go.RowKit Go.Proofs.YtogcgcjhoebooaaW.PrintWords Go.Proofs.YtogcgcjhoebooaaW.PrintLast Go.Proofs.Ytogcgcjhoebooaa.PVeneerMatchesSpec
theorem bt_data (s : ByteArray) (i : Nat) (h : i < s.data.toList.length) : bt s i = ((s.data.toList[i]'h).toNat : Int) := by
  have h' : ((i : Int)).toNat < s.size := by
    show i < s.data.size
    simpa using h
  unfold bt
  rw [dif_pos h']
  rfl
theorem size_data (s : ByteArray) : s.size = s.data.toList.length := (Array.length_toList).symm
theorem list_one (l : List UInt8) (b : Int) (hb : ∀ h : 0 < l.length, b = ((l[0]'h).toNat : Int)) : l = [42] ↔ l.length = 1 ∧ b = 42 := by
 match l with
 | [] => constructor <;> intro h <;> simp at h
 | [x] =>
  have := hb (by simp)
  simp only [List.getElem_cons_zero] at this
  constructor
  ·intro h
   injection h with h _
   subst h
   exact ⟨rfl, this⟩
  ·rintro ⟨_, h⟩
   have hx : x = 42 := by
    apply UInt8.toNat_inj.1
    have e : ((42 : UInt8)).toNat = 42 := rfl
    omega
   rw [hx]
 | x :: y :: l => constructor <;> intro h <;> simp at h
theorem one_iff (s : ByteArray) : s.toList = [42] ↔ s.size = 1 ∧ bt s 0 = 42 := by
  rw [ByteArray.toList_eq, size_data]
  exact list_one _ _ (fun h => bt_data s 0 h)
theorem last_iff (s : ByteArray) (h : 0 < s.size) : ((s.extract (s.size - 1) s.size).toList == [42]) = decide (bt s ((s.size - 1 : Nat) : Int) = 42) := by
 have hl : s.data.toList.length = s.size := (size_data s).symm
 have e : (s.extract (s.size - 1) s.size).toList = [s.data.toList[s.size - 1]'(by omega)] := by
  rw [Go.Lib.extract_toList, show s.size - (s.size - 1) = 1 by omega, List.drop_eq_getElem_cons (by omega)]
  rfl
 have hb := bt_data s (s.size - 1) (by omega)
 rw [e, hb]
 generalize s.data.toList[s.size - 1]'(by omega) = x
 rw [Bool.eq_iff_iff, beq_iff_eq, decide_eq_true_iff]
 have := list_one [x] (x.toNat : Int) (fun _ => rfl)
 rw [this]
 simp
theorem trim_plain (s : ByteArray) (hs : s.size ≤ 9223372036854775807) : strings_TrimSuffix.f s (⟨#[42]⟩ : ByteArray) = some (if 0 < s.size ∧ bt s ((s.size - 1 : Nat) : Int) = 42 then s.extract 0 (s.size - 1) else s) := by
 have h1 : ((⟨#[42]⟩ : ByteArray)).size = 1 := rfl
 have h2 : ((⟨#[42]⟩ : ByteArray)).toList = [42] := by rw [ByteArray.toList_eq]
 unfold strings_TrimSuffix.f stringslite_TrimSuffix.f stringslite_HasSuffix.f
 rw [h1, h2]
 by_cases h : 0 < s.size
 ·have e1 : wrap64 ((s.size : Int) - ((1 : Nat) : Int)) = ((s.size - 1 : Nat) : Int) := by unfold wrap64; omega
  rw [e1, if_pos (show (s.size : Int) ≥ ((1 : Nat) : Int) by omega), if_pos (show (0 : Int) ≤ ((s.size - 1 : Nat) : Int) by omega), if_pos (show ((s.size - 1 : Nat) : Int) ≤ (s.size : Int) by omega), show (((s.size - 1 : Nat) : Int)).toNat = s.size - 1 from rfl, last_iff s h]
  simp only [Option.bind_some]
  by_cases c : bt s ((s.size - 1 : Nat) : Int) = 42
  ·rw [decide_eq_true c, if_pos rfl, if_pos (show (0 : Int) ≤ ((s.size - 1 : Nat) : Int) by omega), if_pos (show ((s.size - 1 : Nat) : Int) ≤ (s.size : Int) by omega), if_pos (show 0 < s.size ∧ bt s ((s.size - 1 : Nat) : Int) = 42 from ⟨h, c⟩)]
   rfl
  ·rw [decide_eq_false c, if_neg (by simp), if_neg (show ¬ (0 < s.size ∧ bt s ((s.size - 1 : Nat) : Int) = 42) from fun hh => c hh.2)]
   rfl
 ·rw [if_neg (show ¬ (s.size : Int) ≥ ((1 : Nat) : Int) by omega), if_neg (show ¬ (0 < s.size ∧ bt s ((s.size - 1 : Nat) : Int) = 42) from fun hh => h hh.1)]
  simp
theorem name_mono (s : ByteArray) (k : Nat) (hk : s.size < k) (hs : s.size ≤ 9223372036854775807) : script_IsName.f k s = some (nameOk s) := by
  unfold script_IsName.f nameOk
  have := name_plain s hs s.size 0 k (by omega) hk
  rw [List.range_eq_range']
  exact this
theorem pat_calls : PatCalls := fun s w hs => by
 refine script_isPattern.calls (s.size + 1) s _ w ?_
 unfold script_isPattern.f patOk
 by_cases c : s.toList = [42]
 ·rw [if_pos c, if_pos ((one_iff s).1 c)]
 ·rw [if_neg c, if_neg (fun h => c ((one_iff s).2 h)), trim_plain s hs]
  simp only [Option.bind_some]
  have e : 0 < s.size → ((s.size : Int) - 1) = ((s.size - 1 : Nat) : Int) := fun h => by omega
  by_cases d : 0 < s.size ∧ bt s ((s.size - 1 : Nat) : Int) = 42
  ·rw [if_pos d, if_pos ⟨d.1, by rw [e d.1]; exact d.2⟩]
   have hsz : (s.extract 0 (s.size - 1)).size ≤ s.size := by rw [ByteArray.size_extract]; omega
   rw [name_mono _ _ (by omega) (by omega)]
   rfl
  ·rw [if_neg d, if_neg (fun h => d ⟨h.1, by rw [← e h.1]; exact h.2⟩), name_mono _ _ (by omega) hs]
   rfl
end Go.Proofs.Ytogcgcjhoebooaa
end
section
set_option linter.unusedVariables false
set_option linter.unusedSimpArgs false
namespace Go.Proofs.Ytogcgcjhoebooaa
open Go.RowKit Go.Proofs.YtogcgcjhoebooaaW.PrintWords Go.Proofs.Ytogcgcjhoebooaa.PVeneerMatchesSpec
theorem insert_done {w : World} {A0 A1 A2 AB : Option Addr} {c0 c1 c2 cB : Nat} {os : List S72} {rs : List S76} {items : List S57} {bs : List S48}
  (h0 : Kd.C k72 w A0 os.length os) (hc0 : os.length ≤ c0) (h1 : Kd.C k76 w A1 rs.length rs) (hc1 : rs.length ≤ c1) (h2 : Kd.C k57 w A2 items.length items) (hc2 : items.length ≤ c2) (hB : Kd.C k48 w AB bs.length bs) (hcB : bs.length ≤ cB)
  (hs0 : ∀ j, (os.getD j z72).f0.size ≤ 9223372036854775807) (hs1 : ∀ j, (rs.getD j z76).f0.size ≤ 9223372036854775807) :
  Calls Try.prog 8 #[.agg #[.slice A0 os.length c0, .slice A1 rs.length c1], .slice A2 items.length c2, .slice AB bs.length cB] w fun e W' => ∃ vf vs va : Value, e = .returned (.tuple #[vf, vs, va, .agg #[.int .i64 (inserted os rs items bs).code, .int .i64 (inserted os rs items bs).idx]]) ∧
   Below w.heap.size w W' ∧ RowD Kd.bool w.heap.size W' vf (inserted os rs items bs).far ∧ RowD k54 w.heap.size W' vs (inserted os rs items bs).stubs ∧ RowD (Kd.int .i64) w.heap.size W' va (inserted os rs items bs).ad :=
 insert_calls name_calls pat_calls items_calls branch_calls assign_calls goal_calls cont_calls index_calls63 num_calls addr_calls h0 hc0 h1 hc1 h2 hc2 hB hcB hs0 hs1
end Go.Proofs.Ytogcgcjhoebooaa
end
section
set_option linter.unusedVariables false
set_option linter.unusedSimpArgs false
namespace Go.Proofs.Ytogcgcjhoebooaa
open Go.RowKit Go.Proofs.YtogcgcjhoebooaaW.PrintWords Go.Proofs.YtogcgcjhoebooaaW.PrintLast Go.Proofs.Ytogcgcjhoebooaa.PVeneerMatchesSpec
def osA : List S72 := [(⟨(⟨#[97]⟩ : ByteArray), 256, 1, 5⟩ : S72), (⟨(⟨#[98]⟩ : ByteArray), 131072, 1, 5⟩ : S72)]
def itA : List S57 := [⟨0, 3, 1⟩, ⟨1, 1, 1⟩]
theorem ins1 : inserted osA [] itA [⟨0, 1, 2, 0, 1, 0⟩] = ⟨[true], [⟨0, 3, 1, 0, 0⟩], [256, 131072], 0, 0⟩ := by kernel_rfl
theorem ins2 : inserted osA [] itA [⟨0, 1, 2, 0, 0, 0⟩] = ⟨[false], [], [256, 131072], 0, 0⟩ := by kernel_rfl
theorem ins3 : inserted osA [] itA [⟨0, 0, 1, 0, 0, 0⟩] = ⟨[], [], [], 4, 1000⟩ := by kernel_rfl
end Go.Proofs.Ytogcgcjhoebooaa
end
section
set_option linter.unusedVariables false
set_option linter.unusedSimpArgs false
namespace Go.Proofs.Ytogcgcjhoebooaa
open Go.RowKit Go.Proofs.YtogcgcjhoebooaaW.PrintWords Go.Proofs.YtogcgcjhoebooaaW.PrintLast Go.Proofs.Ytogcgcjhoebooaa.PVeneerMatchesSpec
theorem C_blk {α : Type} {d : Kd α} {w : World} {g : Nat} {cs : Array Value} {t : TypeId} {fr : Nat × Nat} {xs : List α} (h : w.heap[g]? = some (.cells cs t fr)) (hm : xs.length ≤ 9223372036854775807)
  (hx : ∀ j p, xs[j]? = some p → ∃ c, c.length = d.sz ∧ d.K w p c ∧ ∀ (i : Nat) (u : Value), c[i]? = some u → cs[j * d.sz + i]? = some u) : Kd.C d w (some ⟨g, 0, none⟩) xs.length xs := by
 refine ⟨rfl, hm, fun hp => ⟨_, rfl, fun j p hj => ?_⟩⟩
 obtain ⟨c, h1, h2, h3⟩ := hx j p hj
 refine ⟨c, h1, h2, fun i u hu => ?_⟩
 have ha : (⟨g, 0, none⟩ : Addr).add (j * d.sz + i) = ⟨g, j * d.sz + i, none⟩ := by unfold Addr.add; split <;> simp_all
 rw [ha]
 have := h3 i u hu
 simp [World.cell?, h, this]
theorem C48_one {w : World} {g : Nat} {t : TypeId} {fr : Nat × Nat} (x : S48) (h : w.heap[g]? = some (.cells #[.int .i64 x.f0, .int .i64 x.f1, .int .i64 x.f2, .int .i64 x.f3, .int .i64 x.f4, .int .i64 x.f5] t fr)) : Kd.C k48 w (some ⟨g, 0, none⟩) 1 [x] :=
 C_blk h (by simp) (fun j p hj => by
  match j, hj with
  | 0, hj =>
   simp at hj
   subst hj
   refine ⟨_, rfl, k48_mk w x, fun i u hu => ?_⟩
   match i, hu with
   | 0, hu => exact hu
   | 1, hu => exact hu
   | 2, hu => exact hu
   | 3, hu => exact hu
   | 4, hu => exact hu
   | 5, hu => exact hu
   | i + 6, hu => simp at hu
  | j + 1, hj => simp at hj)
theorem CitA {w : World} {g : Nat} {t : TypeId} {fr : Nat × Nat} (h : w.heap[g]? = some (.cells #[.int .i64 0, .int .i64 3, .int .i64 1, .int .i64 1, .int .i64 1, .int .i64 1] t fr)) : Kd.C k57 w (some ⟨g, 0, none⟩) 2 itA :=
 C_blk (xs := itA) h (by decide) (fun j p hj => by
  match j, hj with
  | 0, hj =>
   have : p = ⟨0, 3, 1⟩ := by simpa [itA] using hj.symm
   subst this
   refine ⟨_, rfl, k57_mk w _, fun i u hu => ?_⟩
   match i, hu with
   | 0, hu => exact hu
   | 1, hu => exact hu
   | 2, hu => exact hu
   | i + 3, hu => simp at hu
  | 1, hj =>
   have : p = ⟨1, 1, 1⟩ := by simpa [itA] using hj.symm
   subst this
   refine ⟨_, rfl, k57_mk w _, fun i u hu => ?_⟩
   match i, hu with
   | 0, hu => exact hu
   | 1, hu => exact hu
   | 2, hu => exact hu
   | i + 3, hu => simp at hu
  | j + 2, hj => simp [itA] at hj)
theorem sizes_A : ∀ j, (osA.getD j z72).f0.size ≤ 9223372036854775807 := by
  intro j
  match j with
  | 0 => decide
  | 1 => decide
  | j + 2 => show (z72.f0).size ≤ _; decide
theorem sizes_nil : ∀ j, (([] : List S76).getD j z76).f0.size ≤ 9223372036854775807 := by
  intro j; show (z76.f0).size ≤ _; decide
theorem apart_calls (w : World) : Calls Try.prog 29 #[] w fun e w' => ∃ A c A1 c1, e = .returned (.agg #[.slice A 2 c, .slice A1 0 c1]) ∧ Kd.C k72 w' A 2 osA ∧ 2 ≤ c ∧ Kd.C k76 w' A1 0 [] ∧ Below w.heap.size w w' := by
 refine (linkhouselaw4_apart.calls _ _ w rfl).mono ?_
 rintro e w' ⟨v0, v1, rfl, h0, h1, hb⟩
 obtain ⟨A, c, rfl, hl, hr⟩ := Kd.R_reads h0
 obtain ⟨A1, c1, rfl, hl1, hr1⟩ := Kd.R_reads h1
 exact ⟨A, c, A1, c1, rfl, hr, hl, hr1, hb⟩
end Go.Proofs.Ytogcgcjhoebooaa
end
section
set_option linter.unusedVariables false
set_option linter.unusedSimpArgs false
namespace Go.Proofs.Ytogcgcjhoebooaa.PVeneerMatchesSpec
open Go.RowKit Go.Proofs.YtogcgcjhoebooaaW.PrintWords Go.Proofs.YtogcgcjhoebooaaW.PrintLast Go.Proofs.YtogcgcjhoebooaaW.PrintMore
def linkhouseref3_In.f (a0 : Int) (a1 : Int) (a2 : Int) : Option (Bool) := if a0 ≥ a1 then (some (decide (a0 ≤ a2))) else (some false)
set_option maxHeartbeats 8000000 in
set_option maxRecDepth 100000 in
theorem linkhouseref3_In.calls (a0 : Int) (a1 : Int) (a2 : Int) (r : Bool) (w : World) (h : linkhouseref3_In.f a0 a1 a2 = some r) :
  Calls Try.prog 30 #[.int .i64 a0, .int .i64 a1, .int .i64 a2] w fun e w' => e = .returned (.bool r) ∧ Drawn0 w w' := by
 have H : (if a0 ≥ a1 then (some (decide (a0 ≤ a2))) else (some false)) = some r := h
 clear h
 by_cases c4 : a0 ≥ a1
 ·rw [if_pos c4] at H
  have c4b0 : decide (a1 ≤ a0) = true := decide_eq_true c4
  clear c4
  obtain rfl := Option.some.inj H
  go_enter Try.func30, Try.ntmps30
  go_wp2
  go_ret
  exact ⟨by first | rfl | (simp; done) | (simp [*]; done), by repeat (first | exact Drawn0.refl _ | apply Drawn0.step)⟩
 ·rw [if_neg c4] at H
  have c4b0 : decide (a1 ≤ a0) = false := decide_eq_false c4
  clear c4
  obtain rfl := Option.some.inj H
  go_enter Try.func30, Try.ntmps30
  go_wp2
  go_ret
  exact ⟨by first | rfl | (simp; done) | (simp [*]; done), by repeat (first | exact Drawn0.refl _ | apply Drawn0.step)⟩
def linkhouseref3_At.f (a0 : Int) (a1 : Int) : Option (Int × Int) := some (a0, a1)
set_option maxHeartbeats 8000000 in
set_option maxRecDepth 100000 in
theorem linkhouseref3_At.calls (a0 : Int) (a1 : Int) (r1 : Int) (r2 : Int) (w : World) (h : linkhouseref3_At.f a0 a1 = some (r1, r2)) :
  Calls Try.prog 33 #[.int .i64 a0, .int .i64 a1] w fun e w' => e = .returned (.agg #[.int .i64 r1, .int .i64 r2]) ∧ Below w.heap.size w w' := by
 have hu29 := Try.underlying29
 have HB := Aside0.mk (Below.refl w.heap.size w)
 have H : (some (a0, a1)) = some (r1, r2) := h
 clear h
 simp only [Option.some.injEq, Prod.mk.injEq] at H
 obtain ⟨rfl, rfl⟩ := H
 go_enter Try.func33, Try.ntmps33
 go_wp2_with (first | ((with_reducible refine gate_dst (N := 4) rfl ?_); refine box_event ?hg (N := 4) ?hd (cs := #[.int .i64 0, .int .i64 0]) (t := 29) ?hr ?_; (case hd => rfl); (case hg => rfl); (case hr => first | (go_simp; done) | (go_simp; rfl)); intro gb101 hg w3 hbox hb; have n0_ := Aside0.mk (below_step (by repeat (first | (with_reducible first | exact HB.out | apply below_alloc | apply pw_below_drewN | apply below_drew1) | exact HB.out)) hb); have n1_ := Aside0.mk (hbox); have n2_ := Aside0.mk ((by rw [hg]; exact (below_size (by repeat (first | (with_reducible first | exact HB.out | apply below_alloc | apply pw_below_drewN | apply below_drew1) | exact HB.out))) : w.heap.size ≤ gb101)); have n3_ := Aside0.mk ((by rw [hg]; exact (below_size (by repeat (first | (with_reducible first | exact HB.out | apply below_alloc | apply pw_below_drewN | apply below_drew1) | exact HB.out))) : w.heap.size ≤ gb101)); clear HB; have HB := n0_; have BK101 := n1_; have GW101 := n2_; have GE101 := n3_; clear n0_ n1_ n2_ n3_; clear hb hbox hg; have hcz4_0 : w3.cell? ⟨gb101, 0, none⟩ = some (.int .i64 0) := (blk_cell BK101.out 0).trans rfl; have hcz4_1 : w3.cell? ⟨gb101, 1, none⟩ = some (.int .i64 0) := (blk_cell BK101.out 1).trans rfl; have hfz4_0 := blk_frozen BK101.out 0; have hfz4_1 := blk_frozen BK101.out 1))
 refine bodyPost_ret (results_cell_row rfl _ _ gb101 29 #[.int .i64 a0, .int .i64 a1] (0, 0) _ rfl (by (with_reducible repeat (first | refine blk_drewN ?_ _ | refine blk_drew ?_ | refine blk_alloc ?_ _)); refine blk_put (cs := #[.int .i64 a0, .int .i64 0]) ?_ 1 _ rfl; (with_reducible repeat (first | refine blk_drewN ?_ _ | refine blk_drew ?_ | refine blk_alloc ?_ _)); refine blk_put (cs := #[.int .i64 0, .int .i64 0]) ?_ 0 _ rfl; (with_reducible repeat (first | refine blk_drewN ?_ _ | refine blk_drew ?_ | refine blk_alloc ?_ _)); exact BK101.out) Try.underlying29 rfl (by kernel_rfl)) rfl ?_
 exact ⟨by first | rfl | (simp [errW_none, errW_some] <;> rfl) | (simp [*, errW_none, errW_some] <;> rfl), by repeat (first | (with_reducible first | exact HB.out | apply below_alloc | apply pw_below_drewN | apply below_drew1 | refine below_set ?_ GE101.out) | exact HB.out)⟩
def linkhouseref3_NameOk.l0 : Nat → ByteArray → Int → Option (Bool)
 | 0, _, _ => none
 | k + 1, x0, x3 => if x3 < (x0.size : Int) then (if 0 ≤ x3 then ((linkhouseref3_In.f (wrap64 (bt x0 x3)) 97 122).bind fun t103 => (if t103 = true then (linkhouseref3_NameOk.l0 k x0 (wrap64 (x3 + 1))) else ((linkhouseref3_In.f (wrap64 (bt x0 x3)) 65 90).bind fun t104 => (if t104 = true then (linkhouseref3_NameOk.l0 k x0 (wrap64 (x3 + 1))) else (if (wrap64 (bt x0 x3)) = 46 then (linkhouseref3_NameOk.l0 k x0 (wrap64 (x3 + 1))) else (if (wrap64 (bt x0 x3)) = 95 then (linkhouseref3_NameOk.l0 k x0 (wrap64 (x3 + 1))) else (if ((wrap64 (bt x0 x3)) = 36) then (linkhouseref3_NameOk.l0 k x0 (wrap64 (x3 + 1))) else (if x3 > 0 then ((linkhouseref3_In.f (wrap64 (bt x0 x3)) 48 57).bind fun t105 => (if t105 = true then (linkhouseref3_NameOk.l0 k x0 (wrap64 (x3 + 1))) else (some false))) else (some false))))))))) else (none)) else ((linkhouseref3_In.f (x0.size : Int) 1 16).bind fun t102 => (some t102))
def linkhouseref3_NameOk.f (k : Nat) (a0 : ByteArray) : Option (Bool) := linkhouseref3_NameOk.l0 k a0 0
theorem linkhouseref3_NameOk.mono_l : ∀ k, (∀ y0 y1, LeO (linkhouseref3_NameOk.l0 k y0 y1) (linkhouseref3_NameOk.l0 (k + 1) y0 y1))
 | 0 => fun _ _ r h => by simp [linkhouseref3_NameOk.l0] at h
 | k + 1 => by
  have ih0 := linkhouseref3_NameOk.mono_l k
  ·intro y0 y1
   unfold linkhouseref3_NameOk.l0
   repeat' first
   | (with_reducible exact ih0 _ _)
   | (with_reducible exact LeO.refl _)
   | (with_reducible exact LeO.none _)
   | (with_reducible refine LeO.ite ?_ ?_)
   | (with_reducible refine LeO.bind ?_ (fun _ => ?_))
   | exact ih0 _ _
   | exact LeO.none _
   | refine LeO.ite ?_ ?_
   | refine LeO.bind ?_ (fun _ => ?_)
theorem linkhouseref3_NameOk.mono : ∀ a0 k, LeO (linkhouseref3_NameOk.f k a0) (linkhouseref3_NameOk.f (k + 1) a0) := by
 intro a0 k
 have ih0 := linkhouseref3_NameOk.mono_l k
 unfold linkhouseref3_NameOk.f
 repeat' first
   | (with_reducible exact ih0 _ _)
   | (with_reducible exact LeO.refl _)
   | (with_reducible exact LeO.none _)
   | (with_reducible refine LeO.ite ?_ ?_)
   | (with_reducible refine LeO.bind ?_ (fun _ => ?_))
   | exact ih0 _ _
   | exact LeO.none _
   | refine LeO.ite ?_ ?_
   | refine LeO.bind ?_ (fun _ => ?_)
set_option maxHeartbeats 8000000 in
set_option maxRecDepth 100000 in
theorem linkhouseref3_NameOk.calls (k : Nat) (a0 : ByteArray) (r : Bool) (w : World) (h : linkhouseref3_NameOk.f k a0 = some r) :
  Calls Try.prog 34 #[.string a0] w fun e w' => e = .returned (.bool r) ∧ Drawn0 w w' := by
 have H : (linkhouseref3_NameOk.l0 k a0 0) = some r := h
 clear h
 have H' := Aside0.mk H
 clear H
 go_enter Try.func34, Try.ntmps34
 go_wp2
 go_loopg [3] k (fun kq v3 w' => ∃ (x3_1 : Int), v3 = .int .i64 x3_1 ∧ Aside0 (linkhouseref3_NameOk.l0 kq a0 x3_1 = some r) ∧ Aside0 (kq ≤ k) ∧ Drawn0 w w')
 case atStart => exact ⟨(0), (by first | rfl | (simp; done) | (simp [*]; done)), H', ⟨Nat.le_refl _⟩, by repeat (first | exact Drawn0.refl _ | apply Drawn0.step)⟩
 case round =>
  clear H'
  obtain ⟨x3_1, rfl, HA, HK1, ⟨m1, rfl⟩⟩ := hrel
  cases gk with
  | zero => exact absurd HA.out (by simp [linkhouseref3_NameOk.l0])
  | succ k1 =>
   have H := HA.out
   clear HA
   simp only [linkhouseref3_NameOk.l0] at H
   by_cases c2 : x3_1 < (a0.size : Int)
   ·rw [if_pos c2] at H
    have c2b0 : decide (x3_1 < (a0.size : Int)) = true := decide_eq_true c2
    clear c2
    by_cases c3 : 0 ≤ x3_1
    ·rw [if_pos c3] at H
     have c3b0 : decide (0 ≤ x3_1) = true := decide_eq_true c3
     clear c3
     replace H := Option.bind_eq_some_iff.mp H
     obtain ⟨t103, A50, H⟩ := H
     replace H : (if t103 = true then (linkhouseref3_NameOk.l0 k1 a0 (wrap64 (x3_1 + 1))) else ((linkhouseref3_In.f (wrap64 (bt a0 x3_1)) 65 90).bind fun t104 => (if t104 = true then (linkhouseref3_NameOk.l0 k1 a0 (wrap64 (x3_1 + 1))) else (if (wrap64 (bt a0 x3_1)) = 46 then (linkhouseref3_NameOk.l0 k1 a0 (wrap64 (x3_1 + 1))) else (if (wrap64 (bt a0 x3_1)) = 95 then (linkhouseref3_NameOk.l0 k1 a0 (wrap64 (x3_1 + 1))) else (if ((wrap64 (bt a0 x3_1)) = 36) then (linkhouseref3_NameOk.l0 k1 a0 (wrap64 (x3_1 + 1))) else (if x3_1 > 0 then ((linkhouseref3_In.f (wrap64 (bt a0 x3_1)) 48 57).bind fun t105 => (if t105 = true then (linkhouseref3_NameOk.l0 k1 a0 (wrap64 (x3_1 + 1))) else (some false))) else (some false)))))))) = some r := H
     have A5 := Aside0.mk A50
     clear A50
     by_cases c6 : t103 = true
     ·subst c6
      have H1 : (linkhouseref3_NameOk.l0 k1 a0 (wrap64 (x3_1 + 1))) = some r := by rw [if_pos rfl] at H; exact H
      clear H
      have H := H1
      clear H1
      have H' := Aside0.mk H
      clear H
      have p4 : 0 ≤ (x3_1 : Int) := of_decide_eq_true (by first | (with_reducible assumption) | assumption)
      have q4 : x3_1 < (a0.size : Int) := of_decide_eq_true (by first | (with_reducible assumption) | assumption)
      have hx4 := bt_at a0 x3_1
      replace p4 := eq_true p4
      replace q4 := eq_true q4
      go_wp2_with (first | ((with_reducible refine gate_callee (f := 30) rfl ?_); refine goesL_ (some 17) rfl rfl Try.func30 (by kernel_rfl) rfl #[.int .i64 (wrap64 (bt a0 x3_1)), .int .i64 97, .int .i64 122] rfl (by (try simp only [List.map_toArray, List.map_cons, List.map_nil]); first | done | rfl | (simp only [List.length_drop, List.length_take]; rfl)) ?_; (with_reducible refine (linkhouseref3_In.calls (wrap64 (bt a0 x3_1)) 97 122 true _ A5.out).mono ?_); rintro e w' ⟨rfl, ⟨nd, rfl⟩⟩; refine ⟨_, rfl, ?_⟩))
      go_roundg k1
      case measure => have := HK1.out; omega
      case rel => exact ⟨(wrap64 (x3_1 + 1)), (by first | rfl | (simp; done) | (simp [*]; done)), H', ⟨by have := HK1.out; omega⟩, by repeat (first | exact Drawn0.refl _ | apply Drawn0.step)⟩
     ·replace c6 := Bool.eq_false_iff.mpr c6
      subst c6
      have H1 : ((linkhouseref3_In.f (wrap64 (bt a0 x3_1)) 65 90).bind fun t104 => (if t104 = true then (linkhouseref3_NameOk.l0 k1 a0 (wrap64 (x3_1 + 1))) else (if (wrap64 (bt a0 x3_1)) = 46 then (linkhouseref3_NameOk.l0 k1 a0 (wrap64 (x3_1 + 1))) else (if (wrap64 (bt a0 x3_1)) = 95 then (linkhouseref3_NameOk.l0 k1 a0 (wrap64 (x3_1 + 1))) else (if ((wrap64 (bt a0 x3_1)) = 36) then (linkhouseref3_NameOk.l0 k1 a0 (wrap64 (x3_1 + 1))) else (if x3_1 > 0 then ((linkhouseref3_In.f (wrap64 (bt a0 x3_1)) 48 57).bind fun t105 => (if t105 = true then (linkhouseref3_NameOk.l0 k1 a0 (wrap64 (x3_1 + 1))) else (some false))) else (some false))))))) = some r := by rw [if_neg (show ¬ (false = true) by decide)] at H; exact H
      clear H
      have H := H1
      clear H1
      replace H := Option.bind_eq_some_iff.mp H
      obtain ⟨t104, A70, H⟩ := H
      replace H : (if t104 = true then (linkhouseref3_NameOk.l0 k1 a0 (wrap64 (x3_1 + 1))) else (if (wrap64 (bt a0 x3_1)) = 46 then (linkhouseref3_NameOk.l0 k1 a0 (wrap64 (x3_1 + 1))) else (if (wrap64 (bt a0 x3_1)) = 95 then (linkhouseref3_NameOk.l0 k1 a0 (wrap64 (x3_1 + 1))) else (if ((wrap64 (bt a0 x3_1)) = 36) then (linkhouseref3_NameOk.l0 k1 a0 (wrap64 (x3_1 + 1))) else (if x3_1 > 0 then ((linkhouseref3_In.f (wrap64 (bt a0 x3_1)) 48 57).bind fun t105 => (if t105 = true then (linkhouseref3_NameOk.l0 k1 a0 (wrap64 (x3_1 + 1))) else (some false))) else (some false)))))) = some r := H
      have A7 := Aside0.mk A70
      clear A70
      by_cases c8 : t104 = true
      ·subst c8
       have H1 : (linkhouseref3_NameOk.l0 k1 a0 (wrap64 (x3_1 + 1))) = some r := by rw [if_pos rfl] at H; exact H
       clear H
       have H := H1
       clear H1
       have H' := Aside0.mk H
       clear H
       have p4 : 0 ≤ (x3_1 : Int) := of_decide_eq_true (by first | (with_reducible assumption) | assumption)
       have q4 : x3_1 < (a0.size : Int) := of_decide_eq_true (by first | (with_reducible assumption) | assumption)
       have hx4 := bt_at a0 x3_1
       replace p4 := eq_true p4
       replace q4 := eq_true q4
       go_wp2_with (first | ((with_reducible refine gate_callee (f := 30) rfl ?_); refine goesL_ (some 17) rfl rfl Try.func30 (by kernel_rfl) rfl #[.int .i64 (wrap64 (bt a0 x3_1)), .int .i64 97, .int .i64 122] rfl (by (try simp only [List.map_toArray, List.map_cons, List.map_nil]); first | done | rfl | (simp only [List.length_drop, List.length_take]; rfl)) ?_; (with_reducible refine (linkhouseref3_In.calls (wrap64 (bt a0 x3_1)) 97 122 false _ A5.out).mono ?_); rintro e w' ⟨rfl, ⟨nd, rfl⟩⟩; refine ⟨_, rfl, ?_⟩) | (go_at_call 30; (with_reducible refine (linkhouseref3_In.calls (wrap64 (bt a0 x3_1)) 65 90 true _ A7.out).mono ?_); rintro e w' ⟨rfl, ⟨nd, rfl⟩⟩))
       go_roundg k1
       case measure => have := HK1.out; omega
       case rel => exact ⟨(wrap64 (x3_1 + 1)), (by first | rfl | (simp; done) | (simp [*]; done)), H', ⟨by have := HK1.out; omega⟩, by repeat (first | exact Drawn0.refl _ | apply Drawn0.step)⟩
      ·replace c8 := Bool.eq_false_iff.mpr c8
       subst c8
       have H1 : (if (wrap64 (bt a0 x3_1)) = 46 then (linkhouseref3_NameOk.l0 k1 a0 (wrap64 (x3_1 + 1))) else (if (wrap64 (bt a0 x3_1)) = 95 then (linkhouseref3_NameOk.l0 k1 a0 (wrap64 (x3_1 + 1))) else (if ((wrap64 (bt a0 x3_1)) = 36) then (linkhouseref3_NameOk.l0 k1 a0 (wrap64 (x3_1 + 1))) else (if x3_1 > 0 then ((linkhouseref3_In.f (wrap64 (bt a0 x3_1)) 48 57).bind fun t105 => (if t105 = true then (linkhouseref3_NameOk.l0 k1 a0 (wrap64 (x3_1 + 1))) else (some false))) else (some false))))) = some r := by rw [if_neg (show ¬ (false = true) by decide)] at H; exact H
       clear H
       have H := H1
       clear H1
       by_cases c9 : (wrap64 (bt a0 x3_1)) = 46
       ·rw [if_pos c9] at H
        have c9b0 : ((wrap64 (bt a0 x3_1)) == 46) = true := beq_iff_eq.mpr c9
        have c9b1 : ((wrap64 (bt a0 x3_1)) != 46) = false := bne_eq_false_iff_eq.mpr c9
        clear c9
        have H' := Aside0.mk H
        clear H
        have p4 : 0 ≤ (x3_1 : Int) := of_decide_eq_true (by first | (with_reducible assumption) | assumption)
        have q4 : x3_1 < (a0.size : Int) := of_decide_eq_true (by first | (with_reducible assumption) | assumption)
        have hx4 := bt_at a0 x3_1
        replace p4 := eq_true p4
        replace q4 := eq_true q4
        go_wp2_with (first | ((with_reducible refine gate_callee (f := 30) rfl ?_); refine goesL_ (some 17) rfl rfl Try.func30 (by kernel_rfl) rfl #[.int .i64 (wrap64 (bt a0 x3_1)), .int .i64 97, .int .i64 122] rfl (by (try simp only [List.map_toArray, List.map_cons, List.map_nil]); first | done | rfl | (simp only [List.length_drop, List.length_take]; rfl)) ?_; (with_reducible refine (linkhouseref3_In.calls (wrap64 (bt a0 x3_1)) 97 122 false _ A5.out).mono ?_); rintro e w' ⟨rfl, ⟨nd, rfl⟩⟩; refine ⟨_, rfl, ?_⟩) | (go_at_call 30; (with_reducible refine (linkhouseref3_In.calls (wrap64 (bt a0 x3_1)) 65 90 false _ A7.out).mono ?_); rintro e w' ⟨rfl, ⟨nd, rfl⟩⟩))
        go_roundg k1
        case measure => have := HK1.out; omega
        case rel => exact ⟨(wrap64 (x3_1 + 1)), (by first | rfl | (simp; done) | (simp [*]; done)), H', ⟨by have := HK1.out; omega⟩, by repeat (first | exact Drawn0.refl _ | apply Drawn0.step)⟩
       ·rw [if_neg c9] at H
        have c9b0 : ((wrap64 (bt a0 x3_1)) == 46) = false := beq_eq_false_iff_ne.mpr c9
        have c9b1 : ((wrap64 (bt a0 x3_1)) != 46) = true := bne_iff_ne.mpr c9
        by_cases c10 : (wrap64 (bt a0 x3_1)) = 95
        ·rw [if_pos c10] at H
         have c10b0 : ((wrap64 (bt a0 x3_1)) == 95) = true := beq_iff_eq.mpr c10
         have c10b1 : ((wrap64 (bt a0 x3_1)) != 95) = false := bne_eq_false_iff_eq.mpr c10
         clear c10
         have H' := Aside0.mk H
         clear H
         have p4 : 0 ≤ (x3_1 : Int) := of_decide_eq_true (by first | (with_reducible assumption) | assumption)
         have q4 : x3_1 < (a0.size : Int) := of_decide_eq_true (by first | (with_reducible assumption) | assumption)
         have hx4 := bt_at a0 x3_1
         replace p4 := eq_true p4
         replace q4 := eq_true q4
         go_wp2_with (first | ((with_reducible refine gate_callee (f := 30) rfl ?_); refine goesL_ (some 17) rfl rfl Try.func30 (by kernel_rfl) rfl #[.int .i64 (wrap64 (bt a0 x3_1)), .int .i64 97, .int .i64 122] rfl (by (try simp only [List.map_toArray, List.map_cons, List.map_nil]); first | done | rfl | (simp only [List.length_drop, List.length_take]; rfl)) ?_; (with_reducible refine (linkhouseref3_In.calls (wrap64 (bt a0 x3_1)) 97 122 false _ A5.out).mono ?_); rintro e w' ⟨rfl, ⟨nd, rfl⟩⟩; refine ⟨_, rfl, ?_⟩) | (go_at_call 30; (with_reducible refine (linkhouseref3_In.calls (wrap64 (bt a0 x3_1)) 65 90 false _ A7.out).mono ?_); rintro e w' ⟨rfl, ⟨nd, rfl⟩⟩))
         go_roundg k1
         case measure => have := HK1.out; omega
         case rel => exact ⟨(wrap64 (x3_1 + 1)), (by first | rfl | (simp; done) | (simp [*]; done)), H', ⟨by have := HK1.out; omega⟩, by repeat (first | exact Drawn0.refl _ | apply Drawn0.step)⟩
        ·rw [if_neg c10] at H
         have c10b0 : ((wrap64 (bt a0 x3_1)) == 95) = false := beq_eq_false_iff_ne.mpr c10
         have c10b1 : ((wrap64 (bt a0 x3_1)) != 95) = true := bne_iff_ne.mpr c10
         by_cases c11 : ((wrap64 (bt a0 x3_1)) = 36)
         ·rw [if_pos c11] at H
          have c11b0 : ((wrap64 (bt a0 x3_1)) == 36) = true := beq_iff_eq.mpr c11
          have c11b1 : ((wrap64 (bt a0 x3_1)) != 36) = false := bne_eq_false_iff_eq.mpr c11
          clear c11
          have H' := Aside0.mk H
          clear H
          have p4 : 0 ≤ (x3_1 : Int) := of_decide_eq_true (by first | (with_reducible assumption) | assumption)
          have q4 : x3_1 < (a0.size : Int) := of_decide_eq_true (by first | (with_reducible assumption) | assumption)
          have hx4 := bt_at a0 x3_1
          replace p4 := eq_true p4
          replace q4 := eq_true q4
          go_wp2_with (first | ((with_reducible refine gate_callee (f := 30) rfl ?_); refine goesL_ (some 17) rfl rfl Try.func30 (by kernel_rfl) rfl #[.int .i64 (wrap64 (bt a0 x3_1)), .int .i64 97, .int .i64 122] rfl (by (try simp only [List.map_toArray, List.map_cons, List.map_nil]); first | done | rfl | (simp only [List.length_drop, List.length_take]; rfl)) ?_; (with_reducible refine (linkhouseref3_In.calls (wrap64 (bt a0 x3_1)) 97 122 false _ A5.out).mono ?_); rintro e w' ⟨rfl, ⟨nd, rfl⟩⟩; refine ⟨_, rfl, ?_⟩) | (go_at_call 30; (with_reducible refine (linkhouseref3_In.calls (wrap64 (bt a0 x3_1)) 65 90 false _ A7.out).mono ?_); rintro e w' ⟨rfl, ⟨nd, rfl⟩⟩))
          go_roundg k1
          case measure => have := HK1.out; omega
          case rel => exact ⟨(wrap64 (x3_1 + 1)), (by first | rfl | (simp; done) | (simp [*]; done)), H', ⟨by have := HK1.out; omega⟩, by repeat (first | exact Drawn0.refl _ | apply Drawn0.step)⟩
         ·rw [if_neg c11] at H
          have c11b0 : ((wrap64 (bt a0 x3_1)) == 36) = false := beq_eq_false_iff_ne.mpr c11
          have c11b1 : ((wrap64 (bt a0 x3_1)) != 36) = true := bne_iff_ne.mpr c11
          by_cases c12 : x3_1 > 0
          ·rw [if_pos c12] at H
           have c12b0 : decide (0 < x3_1) = true := decide_eq_true c12
           clear c12
           replace H := Option.bind_eq_some_iff.mp H
           obtain ⟨t105, A130, H⟩ := H
           replace H : (if t105 = true then (linkhouseref3_NameOk.l0 k1 a0 (wrap64 (x3_1 + 1))) else (some false)) = some r := H
           have A13 := Aside0.mk A130
           clear A130
           by_cases c14 : t105 = true
           ·subst c14
            have H1 : (linkhouseref3_NameOk.l0 k1 a0 (wrap64 (x3_1 + 1))) = some r := by rw [if_pos rfl] at H; exact H
            clear H
            have H := H1
            clear H1
            have H' := Aside0.mk H
            clear H
            have p4 : 0 ≤ (x3_1 : Int) := of_decide_eq_true (by first | (with_reducible assumption) | assumption)
            have q4 : x3_1 < (a0.size : Int) := of_decide_eq_true (by first | (with_reducible assumption) | assumption)
            have hx4 := bt_at a0 x3_1
            replace p4 := eq_true p4
            replace q4 := eq_true q4
            go_wp2_with (first | ((with_reducible refine gate_callee (f := 30) rfl ?_); refine goesL_ (some 17) rfl rfl Try.func30 (by kernel_rfl) rfl #[.int .i64 (wrap64 (bt a0 x3_1)), .int .i64 97, .int .i64 122] rfl (by (try simp only [List.map_toArray, List.map_cons, List.map_nil]); first | done | rfl | (simp only [List.length_drop, List.length_take]; rfl)) ?_; (with_reducible refine (linkhouseref3_In.calls (wrap64 (bt a0 x3_1)) 97 122 false _ A5.out).mono ?_); rintro e w' ⟨rfl, ⟨nd, rfl⟩⟩; refine ⟨_, rfl, ?_⟩) | (go_at_call 30; (with_reducible refine (linkhouseref3_In.calls (wrap64 (bt a0 x3_1)) 65 90 false _ A7.out).mono ?_); rintro e w' ⟨rfl, ⟨nd, rfl⟩⟩) | (go_at_call 30; (with_reducible refine (linkhouseref3_In.calls (wrap64 (bt a0 x3_1)) 48 57 true _ A13.out).mono ?_); rintro e w' ⟨rfl, ⟨nd, rfl⟩⟩))
            go_roundg k1
            case measure => have := HK1.out; omega
            case rel => exact ⟨(wrap64 (x3_1 + 1)), (by first | rfl | (simp; done) | (simp [*]; done)), H', ⟨by have := HK1.out; omega⟩, by repeat (first | exact Drawn0.refl _ | apply Drawn0.step)⟩
           ·replace c14 := Bool.eq_false_iff.mpr c14
            subst c14
            have H1 : (some false) = some r := by rw [if_neg (show ¬ (false = true) by decide)] at H; exact H
            clear H
            have H := H1
            clear H1
            obtain rfl := Option.some.inj H
            have p4 : 0 ≤ (x3_1 : Int) := of_decide_eq_true (by first | (with_reducible assumption) | assumption)
            have q4 : x3_1 < (a0.size : Int) := of_decide_eq_true (by first | (with_reducible assumption) | assumption)
            have hx4 := bt_at a0 x3_1
            replace p4 := eq_true p4
            replace q4 := eq_true q4
            go_wp2_with (first | ((with_reducible refine gate_callee (f := 30) rfl ?_); refine goesL_ (some 17) rfl rfl Try.func30 (by kernel_rfl) rfl #[.int .i64 (wrap64 (bt a0 x3_1)), .int .i64 97, .int .i64 122] rfl (by (try simp only [List.map_toArray, List.map_cons, List.map_nil]); first | done | rfl | (simp only [List.length_drop, List.length_take]; rfl)) ?_; (with_reducible refine (linkhouseref3_In.calls (wrap64 (bt a0 x3_1)) 97 122 false _ A5.out).mono ?_); rintro e w' ⟨rfl, ⟨nd, rfl⟩⟩; refine ⟨_, rfl, ?_⟩) | (go_at_call 30; (with_reducible refine (linkhouseref3_In.calls (wrap64 (bt a0 x3_1)) 65 90 false _ A7.out).mono ?_); rintro e w' ⟨rfl, ⟨nd, rfl⟩⟩) | (go_at_call 30; (with_reducible refine (linkhouseref3_In.calls (wrap64 (bt a0 x3_1)) 48 57 false _ A13.out).mono ?_); rintro e w' ⟨rfl, ⟨nd, rfl⟩⟩))
            go_ret
            exact ⟨by first | rfl | (simp; done) | (simp [*]; done), by repeat (first | exact Drawn0.refl _ | apply Drawn0.step)⟩
          ·rw [if_neg c12] at H
           have c12b0 : decide (0 < x3_1) = false := decide_eq_false c12
           clear c12
           obtain rfl := Option.some.inj H
           have p4 : 0 ≤ (x3_1 : Int) := of_decide_eq_true (by first | (with_reducible assumption) | assumption)
           have q4 : x3_1 < (a0.size : Int) := of_decide_eq_true (by first | (with_reducible assumption) | assumption)
           have hx4 := bt_at a0 x3_1
           replace p4 := eq_true p4
           replace q4 := eq_true q4
           go_wp2_with (first | ((with_reducible refine gate_callee (f := 30) rfl ?_); refine goesL_ (some 17) rfl rfl Try.func30 (by kernel_rfl) rfl #[.int .i64 (wrap64 (bt a0 x3_1)), .int .i64 97, .int .i64 122] rfl (by (try simp only [List.map_toArray, List.map_cons, List.map_nil]); first | done | rfl | (simp only [List.length_drop, List.length_take]; rfl)) ?_; (with_reducible refine (linkhouseref3_In.calls (wrap64 (bt a0 x3_1)) 97 122 false _ A5.out).mono ?_); rintro e w' ⟨rfl, ⟨nd, rfl⟩⟩; refine ⟨_, rfl, ?_⟩) | (go_at_call 30; (with_reducible refine (linkhouseref3_In.calls (wrap64 (bt a0 x3_1)) 65 90 false _ A7.out).mono ?_); rintro e w' ⟨rfl, ⟨nd, rfl⟩⟩))
           go_ret
           exact ⟨by first | rfl | (simp; done) | (simp [*]; done), by repeat (first | exact Drawn0.refl _ | apply Drawn0.step)⟩
    ·rw [if_neg c3] at H
     exact absurd H (by simp)
   ·rw [if_neg c2] at H
    have c2b0 : decide (x3_1 < (a0.size : Int)) = false := decide_eq_false c2
    clear c2
    replace H := Option.bind_eq_some_iff.mp H
    obtain ⟨t102, A150, H⟩ := H
    replace H : (some t102) = some r := H
    have A15 := Aside0.mk A150
    clear A150
    obtain rfl := Option.some.inj H
    go_wp2_with (first | ((with_reducible refine gate_callee (f := 30) rfl ?_); refine goesL_ (some 47) rfl rfl Try.func30 (by kernel_rfl) rfl #[.int .i64 (a0.size : Int), .int .i64 1, .int .i64 16] rfl (by (try simp only [List.map_toArray, List.map_cons, List.map_nil]); first | done | rfl | (simp only [List.length_drop, List.length_take]; rfl)) ?_; (with_reducible refine (linkhouseref3_In.calls (a0.size : Int) 1 16 t102 _ A15.out).mono ?_); rintro e w' ⟨rfl, ⟨nd, rfl⟩⟩; refine ⟨_, rfl, ?_⟩))
    go_ret
    exact ⟨by first | rfl | (simp; done) | (simp [*]; done), by repeat (first | exact Drawn0.refl _ | apply Drawn0.step)⟩
def linkhouseref3_Power.l0 : Nat → Int → Int → Int → Option (Bool)
  | 0, _, _, _ => none
  | k + 1, x0, x1, x5 => if x5 ≤ x1 then (if x5 = x0 then (some true) else (linkhouseref3_Power.l0 k x0 x1 (wrap64 (x5 * 2)))) else (some false)
def linkhouseref3_Power.f (k : Nat) (a0 : Int) (a1 : Int) : Option (Bool) := linkhouseref3_Power.l0 k a0 a1 1
theorem linkhouseref3_Power.mono_l : ∀ k, (∀ y0 y1 y2, LeO (linkhouseref3_Power.l0 k y0 y1 y2) (linkhouseref3_Power.l0 (k + 1) y0 y1 y2))
 | 0 => fun _ _ _ r h => by simp [linkhouseref3_Power.l0] at h
 | k + 1 => by
  have ih0 := linkhouseref3_Power.mono_l k
  ·intro y0 y1 y2
   unfold linkhouseref3_Power.l0
   repeat' first
   | (with_reducible exact ih0 _ _ _)
   | (with_reducible exact LeO.refl _)
   | (with_reducible exact LeO.none _)
   | (with_reducible refine LeO.ite ?_ ?_)
   | (with_reducible refine LeO.bind ?_ (fun _ => ?_))
   | exact ih0 _ _ _
   | exact LeO.none _
   | refine LeO.ite ?_ ?_
   | refine LeO.bind ?_ (fun _ => ?_)
theorem linkhouseref3_Power.mono : ∀ a0 a1 k, LeO (linkhouseref3_Power.f k a0 a1) (linkhouseref3_Power.f (k + 1) a0 a1) := by
 intro a0 a1 k
 have ih0 := linkhouseref3_Power.mono_l k
 unfold linkhouseref3_Power.f
 repeat' first
   | (with_reducible exact ih0 _ _ _)
   | (with_reducible exact LeO.refl _)
   | (with_reducible exact LeO.none _)
   | (with_reducible refine LeO.ite ?_ ?_)
   | (with_reducible refine LeO.bind ?_ (fun _ => ?_))
   | exact ih0 _ _ _
   | exact LeO.none _
   | refine LeO.ite ?_ ?_
   | refine LeO.bind ?_ (fun _ => ?_)
set_option maxHeartbeats 8000000 in
set_option maxRecDepth 100000 in
theorem linkhouseref3_Power.calls (k : Nat) (a0 : Int) (a1 : Int) (r : Bool) (w : World) (h : linkhouseref3_Power.f k a0 a1 = some r) :
  Calls Try.prog 35 #[.int .i64 a0, .int .i64 a1] w fun e w' => e = .returned (.bool r) ∧ Drawn0 w w' := by
 have H : (linkhouseref3_Power.l0 k a0 a1 1) = some r := h
 clear h
 have H' := Aside0.mk H
 clear H
 go_enter Try.func35, Try.ntmps35
 go_wp2
 go_loopg [5] k (fun kq v5 w' => ∃ (x5_1 : Int), v5 = .int .i64 x5_1 ∧ Aside0 (linkhouseref3_Power.l0 kq a0 a1 x5_1 = some r) ∧ Aside0 (kq ≤ k) ∧ Drawn0 w w')
 case atStart => exact ⟨(1), (by first | rfl | (simp; done) | (simp [*]; done)), H', ⟨Nat.le_refl _⟩, by repeat (first | exact Drawn0.refl _ | apply Drawn0.step)⟩
 case round =>
  clear H'
  try clear p2
  obtain ⟨x5_1, rfl, HA, HK1, ⟨m1, rfl⟩⟩ := hrel
  cases gk with
  | zero => exact absurd HA.out (by simp [linkhouseref3_Power.l0])
  | succ k1 =>
   have H := HA.out
   clear HA
   simp only [linkhouseref3_Power.l0] at H
   by_cases c3 : x5_1 ≤ a1
   ·rw [if_pos c3] at H
    have c3b0 : decide (x5_1 ≤ a1) = true := decide_eq_true c3
    clear c3
    by_cases c4 : x5_1 = a0
    ·rw [if_pos c4] at H
     have c4b0 : (x5_1 == a0) = true := beq_iff_eq.mpr c4
     have c4b1 : (x5_1 != a0) = false := bne_eq_false_iff_eq.mpr c4
     clear c4
     obtain rfl := Option.some.inj H
     go_wp2
     go_ret
     exact ⟨by first | rfl | (simp; done) | (simp [*]; done), by repeat (first | exact Drawn0.refl _ | apply Drawn0.step)⟩
    ·rw [if_neg c4] at H
     have c4b0 : (x5_1 == a0) = false := beq_eq_false_iff_ne.mpr c4
     have c4b1 : (x5_1 != a0) = true := bne_iff_ne.mpr c4
     have H' := Aside0.mk H
     clear H
     go_wp2
     go_roundg k1
     case measure => have := HK1.out; omega
     case rel => exact ⟨(wrap64 (x5_1 * 2)), (by first | rfl | (simp; done) | (simp [*]; done)), H', ⟨by have := HK1.out; omega⟩, by repeat (first | exact Drawn0.refl _ | apply Drawn0.step)⟩
   ·rw [if_neg c3] at H
    have c3b0 : decide (x5_1 ≤ a1) = false := decide_eq_false c3
    clear c3
    obtain rfl := Option.some.inj H
    go_wp2
    go_ret
    exact ⟨by first | rfl | (simp; done) | (simp [*]; done), by repeat (first | exact Drawn0.refl _ | apply Drawn0.step)⟩
def linkhouseref3_PatternOk.j0 : Nat → ByteArray → Int → Bool → Option (Bool)
 | 0, _, _, _ => none
 | k + 1, x0, x3, x14 => if x14 = true then (if x3 = 1 then (some true) else (if 0 ≤ (wrap64 (x3 - 1)) then (if (wrap64 (x3 - 1)) ≤ (x0.size : Int) then ((linkhouseref3_NameOk.f k (x0.extract 0 ((wrap64 (x3 - 1)) : Int).toNat)).bind fun t106 => (some t106)) else (none)) else (none))) else ((linkhouseref3_NameOk.f k x0).bind fun t107 => (some t107))
def linkhouseref3_PatternOk.f (k : Nat) (a0 : ByteArray) : Option (Bool) := if (a0.size : Int) > 0 then (if 0 ≤ (wrap64 ((a0.size : Int) - 1)) then (if (wrap64 ((a0.size : Int) - 1)) < (a0.size : Int) then (linkhouseref3_PatternOk.j0 k a0 (a0.size : Int) ((bt a0 (wrap64 ((a0.size : Int) - 1))) == 42)) else (none)) else (none)) else (linkhouseref3_PatternOk.j0 k a0 (a0.size : Int) false)
theorem linkhouseref3_PatternOk.mono_l : ∀ k, (∀ y0 y1 y2, LeO (linkhouseref3_PatternOk.j0 k y0 y1 y2) (linkhouseref3_PatternOk.j0 (k + 1) y0 y1 y2))
 | 0 => fun _ _ _ r h => by simp [linkhouseref3_PatternOk.j0] at h
 | k + 1 => by
  have ih0 := linkhouseref3_PatternOk.mono_l k
  ·intro y0 y1 y2
   unfold linkhouseref3_PatternOk.j0
   repeat' first
   | (with_reducible exact ih0 _ _ _)
   | (with_reducible exact linkhouseref3_NameOk.mono _ _)
   | (with_reducible exact LeO.refl _)
   | (with_reducible exact LeO.none _)
   | (with_reducible refine LeO.ite ?_ ?_)
   | (with_reducible refine LeO.bind ?_ (fun _ => ?_))
   | exact ih0 _ _ _
   | exact linkhouseref3_NameOk.mono _ _
   | exact LeO.none _
   | refine LeO.ite ?_ ?_
   | refine LeO.bind ?_ (fun _ => ?_)
theorem linkhouseref3_PatternOk.mono : ∀ a0 k, LeO (linkhouseref3_PatternOk.f k a0) (linkhouseref3_PatternOk.f (k + 1) a0) := by
 intro a0 k
 have ih0 := linkhouseref3_PatternOk.mono_l k
 unfold linkhouseref3_PatternOk.f
 repeat' first
   | (with_reducible exact ih0 _ _ _)
   | (with_reducible exact linkhouseref3_NameOk.mono _ _)
   | (with_reducible exact LeO.refl _)
   | (with_reducible exact LeO.none _)
   | (with_reducible refine LeO.ite ?_ ?_)
   | (with_reducible refine LeO.bind ?_ (fun _ => ?_))
   | exact ih0 _ _ _
   | exact linkhouseref3_NameOk.mono _ _
   | exact LeO.none _
   | refine LeO.ite ?_ ?_
   | refine LeO.bind ?_ (fun _ => ?_)
set_option maxHeartbeats 8000000 in
set_option maxRecDepth 100000 in
theorem linkhouseref3_PatternOk.calls (k : Nat) (a0 : ByteArray) (r : Bool) (w : World) (h : linkhouseref3_PatternOk.f k a0 = some r) :
  Calls Try.prog 36 #[.string a0] w fun e w' => e = .returned (.bool r) ∧ Drawn0 w w' := by
 have H : (if (a0.size : Int) > 0 then (if 0 ≤ (wrap64 ((a0.size : Int) - 1)) then (if (wrap64 ((a0.size : Int) - 1)) < (a0.size : Int) then (linkhouseref3_PatternOk.j0 k a0 (a0.size : Int) ((bt a0 (wrap64 ((a0.size : Int) - 1))) == 42)) else (none)) else (none)) else (linkhouseref3_PatternOk.j0 k a0 (a0.size : Int) false)) = some r := h
 clear h
 have HC2 := Aside0.mk H
 clear H
 go_enter Try.func36, Try.ntmps36
 go_upto_region 2 with (fail)
 go_cut [14] (fun v14 wc => ∃ (kq : Nat) (x14_1 : Bool), v14 = .bool x14_1 ∧ Aside0 (linkhouseref3_PatternOk.j0 kq a0 (a0.size : Int) x14_1 = some r) ∧ Aside0 (kq ≤ k) ∧ Drawn0 w wc)
 case first =>
  have H := HC2.out
  clear HC2
  by_cases c3 : (a0.size : Int) > 0
  ·rw [if_pos c3] at H
   have c3b0 : decide (0 < (a0.size : Int)) = true := decide_eq_true c3
   have c3b1 : decide (0 < a0.size) = true := decide_eq_true (by omega)
   clear c3
   (first | rw [c3b0] | (simp only [i64_w, i32_w]; rw [c3b0]) | skip)
   obtain ⟨ji4, hji4⟩ : ∃ j_ : Int, (wrap64 ((a0.size : Int) - 1)) = j_ := ⟨_, rfl⟩
   replace H : (if 0 ≤ (ji4) then (if (ji4) < (a0.size : Int) then (linkhouseref3_PatternOk.j0 k a0 (a0.size : Int) ((bt a0 (ji4)) == 42)) else (none)) else (none)) = some r := by first | (rw [hji4] at H; exact H) | (simp only [hji4] at H ⊢; exact H)
   have hji4w : (IntKind.i64.wrap ((a0.size : Int) - 1)) = ji4 := (i64_w _).trans hji4
   by_cases c5 : 0 ≤ (ji4)
   ·rw [if_pos c5] at H
    have c5b0 : decide (0 ≤ (ji4)) = true := decide_eq_true c5
    clear c5
    by_cases c6 : (ji4) < (a0.size : Int)
    ·rw [if_pos c6] at H
     have c6b0 : decide ((ji4) < (a0.size : Int)) = true := decide_eq_true c6
     clear c6
     have H' := Aside0.mk H
     clear H
     have p7 : 0 ≤ ((ji4) : Int) := of_decide_eq_true (by first | (with_reducible assumption) | assumption)
     have q7 : (ji4) < (a0.size : Int) := of_decide_eq_true (by first | (with_reducible assumption) | assumption)
     have hx7 := bt_at a0 (ji4)
     replace p7 := eq_true p7
     replace q7 := eq_true q7
     go_wp2
     go_meet
     case rel => exact ⟨_, (((bt a0 (ji4)) == 42)), (by first | rfl | (simp; done) | (simp only [← hji4] <;> (first | rfl | simp)) | (simp [*]; done)), H', ⟨by first | omega | exact Nat.le_refl _⟩, by repeat (first | exact Drawn0.refl _ | apply Drawn0.step)⟩
    ·rw [if_neg c6] at H
     exact absurd H (by simp)
   ·rw [if_neg c5] at H
    exact absurd H (by simp)
  ·rw [if_neg c3] at H
   have c3b0 : decide (0 < (a0.size : Int)) = false := decide_eq_false c3
   have c3b1 : decide (0 < a0.size) = false := decide_eq_false (by omega)
   clear c3
   (first | rw [c3b0] | (simp only [i64_w, i32_w]; rw [c3b0]) | skip)
   have H' := Aside0.mk H
   clear H
   go_wp2
   go_meet
   case rel => exact ⟨_, (false), (by first | rfl | (simp; done) | (simp [*]; done)), H', ⟨by first | omega | exact Nat.le_refl _⟩, by repeat (first | exact Drawn0.refl _ | apply Drawn0.step)⟩
 case rest =>
  clear HC2
  try clear p2
  try clear c3
  try clear c3b0
  try clear c3b1
  try clear c5
  try clear c5b0
  try clear c6
  try clear c6b0
  try clear p6
  try clear p7
  try clear q7
  try clear hx7
  try clear p7
  try clear q7
  obtain ⟨kq, x14_1, rfl, HA, HJ1, ⟨mc1, rfl⟩⟩ := hcut
  cases kq with
  | zero => exact absurd HA.out (by simp [linkhouseref3_PatternOk.j0])
  | succ kj1 =>
   have H := HA.out
   clear HA
   simp only [linkhouseref3_PatternOk.j0] at H
   by_cases c8 : x14_1 = true
   ·subst c8
    have H1 : (if (a0.size : Int) = 1 then (some true) else (if 0 ≤ (wrap64 ((a0.size : Int) - 1)) then (if (wrap64 ((a0.size : Int) - 1)) ≤ (a0.size : Int) then ((linkhouseref3_NameOk.f kj1 (a0.extract 0 ((wrap64 ((a0.size : Int) - 1)) : Int).toNat)).bind fun t106 => (some t106)) else (none)) else (none))) = some r := by rw [if_pos rfl] at H; exact H
    clear H
    have H := H1
    clear H1
    by_cases c9 : (a0.size : Int) = 1
    ·rw [if_pos c9] at H
     have c9b0 : ((a0.size : Int) == 1) = true := beq_iff_eq.mpr c9
     have c9b1 : ((a0.size : Int) != 1) = false := bne_eq_false_iff_eq.mpr c9
     clear c9
     obtain rfl := Option.some.inj H
     go_wp2
     go_ret
     exact ⟨by first | rfl | (simp; done) | (simp [*]; done), by repeat (first | exact Drawn0.refl _ | apply Drawn0.step)⟩
    ·rw [if_neg c9] at H
     have c9b0 : ((a0.size : Int) == 1) = false := beq_eq_false_iff_ne.mpr c9
     have c9b1 : ((a0.size : Int) != 1) = true := bne_iff_ne.mpr c9
     obtain ⟨ji10, hji10⟩ : ∃ j_ : Int, (wrap64 ((a0.size : Int) - 1)) = j_ := ⟨_, rfl⟩
     replace H : (if 0 ≤ (ji10) then (if (ji10) ≤ (a0.size : Int) then ((linkhouseref3_NameOk.f kj1 (a0.extract 0 ((ji10) : Int).toNat)).bind fun t106 => (some t106)) else (none)) else (none)) = some r := by first | (rw [hji10] at H; exact H) | (simp only [hji10] at H ⊢; exact H)
     have hji10w : (IntKind.i64.wrap ((a0.size : Int) - 1)) = ji10 := (i64_w _).trans hji10
     by_cases c11 : 0 ≤ (ji10)
     ·rw [if_pos c11] at H
      have c11b0 := eq_true c11
      have c11b1 : decide (0 ≤ (ji10)) = true := decide_eq_true c11
      clear c11
      by_cases c12 : (ji10) ≤ (a0.size : Int)
      ·rw [if_pos c12] at H
       have c12b0 := eq_true c12
       have c12b1 : decide ((ji10) ≤ (a0.size : Int)) = true := decide_eq_true c12
       clear c12
       replace H := Option.bind_eq_some_iff.mp H
       obtain ⟨t106, A130, H⟩ := H
       replace H : (some t106) = some r := H
       have A13 := Aside0.mk A130
       clear A130
       obtain rfl := Option.some.inj H
       go_wp2_with (first | (go_at_call 34; (with_reducible refine (linkhouseref3_NameOk.calls kj1 (a0.extract 0 ((ji10) : Int).toNat) t106 _ A13.out).mono ?_); rintro e w' ⟨rfl, ⟨nd, rfl⟩⟩))
       go_ret
       exact ⟨by first | rfl | (simp; done) | (simp only [← hji10] <;> (first | rfl | simp)) | (simp [*]; done), by repeat (first | exact Drawn0.refl _ | apply Drawn0.step)⟩
      ·rw [if_neg c12] at H
       exact absurd H (by simp)
     ·rw [if_neg c11] at H
      exact absurd H (by simp)
   ·replace c8 := Bool.eq_false_iff.mpr c8
    subst c8
    have H1 : ((linkhouseref3_NameOk.f kj1 a0).bind fun t107 => (some t107)) = some r := by rw [if_neg (show ¬ (false = true) by decide)] at H; exact H
    clear H
    have H := H1
    clear H1
    replace H := Option.bind_eq_some_iff.mp H
    obtain ⟨t107, A140, H⟩ := H
    replace H : (some t107) = some r := H
    have A14 := Aside0.mk A140
    clear A140
    obtain rfl := Option.some.inj H
    go_wp2_with (first | ((with_reducible refine gate_callee (f := 34) rfl ?_); refine goesL_ (some 25) rfl rfl Try.func34 (by kernel_rfl) rfl #[.string a0] rfl (by (try simp only [List.map_toArray, List.map_cons, List.map_nil]); first | done | rfl | (simp only [List.length_drop, List.length_take]; rfl)) ?_; (with_reducible refine (linkhouseref3_NameOk.calls kj1 a0 t107 _ A14.out).mono ?_); rintro e w' ⟨rfl, ⟨nd, rfl⟩⟩; refine ⟨_, rfl, ?_⟩))
    go_ret
    exact ⟨by first | rfl | (simp; done) | (simp [*]; done), by repeat (first | exact Drawn0.refl _ | apply Drawn0.step)⟩
def linkhouseref3_ItemsFault.l0 : Nat → List (S57) → Int → Int → Option (Int × Int)
 | 0, _, _, _ => none
 | k + 1, x0, x1, x5 => if x5 < (x0.length : Int) then (if 0 ≤ x5 then ((linkhouseref3_In.f ((rd_T57 x0 x5).f0) 0 (wrap64 (x1 - 1))).bind fun t154 => (if t154 = true then ((linkhouseref3_In.f ((rd_T57 x0 x5).f1) 0 1048576).bind fun t156 => (if t156 = true then ((linkhouseref3_Power.f k ((rd_T57 x0 x5).f2) 256).bind fun t158 => (if t158 = true then (linkhouseref3_ItemsFault.l0 k x0 x1 (wrap64 (x5 + 1))) else ((linkhouseref3_At.f 3 (wrap64 ((-100) - x5))).bind fun bt159 => (some (bt159.1, bt159.2))))) else ((linkhouseref3_At.f 3 (wrap64 ((-100) - x5))).bind fun bt161 => (some (bt161.1, bt161.2))))) else ((linkhouseref3_At.f 3 (wrap64 ((-100) - x5))).bind fun bt163 => (some (bt163.1, bt163.2))))) else (none)) else (some (0, 0))
def linkhouseref3_ItemsFault.f (k : Nat) (l0 : List (S57)) (a1 : Int) : Option (Int × Int) := if (l0.length : Int) > 200 then ((linkhouseref3_At.f 2 (-3)).bind fun bt151 => (some (bt151.1, bt151.2))) else (linkhouseref3_ItemsFault.l0 k l0 a1 0)
theorem linkhouseref3_ItemsFault.mono_l : ∀ k, (∀ y0 y1 y2, LeO (linkhouseref3_ItemsFault.l0 k y0 y1 y2) (linkhouseref3_ItemsFault.l0 (k + 1) y0 y1 y2))
 | 0 => fun _ _ _ r h => by simp [linkhouseref3_ItemsFault.l0] at h
 | k + 1 => by
  have ih0 := linkhouseref3_ItemsFault.mono_l k
  ·intro y0 y1 y2
   unfold linkhouseref3_ItemsFault.l0
   repeat' first
   | (with_reducible exact ih0 _ _ _)
   | (with_reducible exact linkhouseref3_Power.mono _ _ _)
   | (with_reducible exact LeO.refl _)
   | (with_reducible exact LeO.none _)
   | (with_reducible refine LeO.ite ?_ ?_)
   | (with_reducible refine LeO.bind ?_ (fun _ => ?_))
   | exact ih0 _ _ _
   | exact linkhouseref3_Power.mono _ _ _
   | exact LeO.none _
   | refine LeO.ite ?_ ?_
   | refine LeO.bind ?_ (fun _ => ?_)
theorem linkhouseref3_ItemsFault.mono : ∀ a0 a1 k, LeO (linkhouseref3_ItemsFault.f k a0 a1) (linkhouseref3_ItemsFault.f (k + 1) a0 a1) := by
 intro a0 a1 k
 have ih0 := linkhouseref3_ItemsFault.mono_l k
 unfold linkhouseref3_ItemsFault.f
 repeat' first
   | (with_reducible exact ih0 _ _ _)
   | (with_reducible exact linkhouseref3_Power.mono _ _ _)
   | (with_reducible exact LeO.refl _)
   | (with_reducible exact LeO.none _)
   | (with_reducible refine LeO.ite ?_ ?_)
   | (with_reducible refine LeO.bind ?_ (fun _ => ?_))
   | exact ih0 _ _ _
   | exact linkhouseref3_Power.mono _ _ _
   | exact LeO.none _
   | refine LeO.ite ?_ ?_
   | refine LeO.bind ?_ (fun _ => ?_)
set_option maxHeartbeats 8000000 in
set_option maxRecDepth 100000 in
theorem linkhouseref3_ItemsFault.calls (k : Nat) (A0 : Option Addr) (c0 : Nat) (l0 : List (S57)) (a1 : Int) (r1 : Int) (r2 : Int) (w : World) (hr0 : Kd.C k57 w A0 l0.length l0) (hc0 : l0.length ≤ c0) (h : linkhouseref3_ItemsFault.f k l0 a1 = some (r1, r2)) :
  Calls Try.prog 20 #[.slice A0 l0.length c0, .int .i64 a1] w fun e w' => e = .returned (.agg #[.int .i64 r1, .int .i64 r2]) ∧ Below w.heap.size w w' := by
 have hu29 := Try.underlying29
 have HR0 := Aside0.mk hr0
 have HC0 := Aside0.mk hc0
 clear hr0 hc0
 have HB := Aside0.mk (Below.refl w.heap.size w)
 have H : (if (l0.length : Int) > 200 then ((linkhouseref3_At.f 2 (-3)).bind fun bt151 => (some (bt151.1, bt151.2))) else (linkhouseref3_ItemsFault.l0 k l0 a1 0)) = some (r1, r2) := h
 clear h
 by_cases c3 : (l0.length : Int) > 200
 ·rw [if_pos c3] at H
  have c3b0 : decide (200 < (l0.length : Int)) = true := decide_eq_true c3
  have c3b1 : decide (200 < l0.length) = true := decide_eq_true (by omega)
  clear c3
  replace H := Option.bind_eq_some_iff.mp H
  obtain ⟨⟨t151, t152⟩, A40, H⟩ := H
  replace H : (some (t151, t152)) = some (r1, r2) := H
  have A4 := Aside0.mk A40
  clear A40
  simp only [Option.some.injEq, Prod.mk.injEq] at H
  obtain ⟨rfl, rfl⟩ := H
  go_enter Try.func20, Try.ntmps20
  go_wp2_with (first | ((with_reducible refine gate_dst (N := 4) rfl ?_); refine box_event ?hg (N := 4) ?hd (cs := #[.int .i64 0, .int .i64 0]) (t := 29) ?hr ?_; (case hd => rfl); (case hg => rfl); (case hr => first | (go_simp; done) | (go_simp; rfl)); intro gb150 hg w5 hbox hb; have n0_ := Aside0.mk (below_step (by repeat (first | (with_reducible first | exact HB.out | apply below_alloc | apply pw_below_drewN | apply below_drew1) | exact HB.out)) hb); have n1_ := Aside0.mk (hbox); have n2_ := Aside0.mk ((by rw [hg]; exact (below_size (by repeat (first | (with_reducible first | exact HB.out | apply below_alloc | apply pw_below_drewN | apply below_drew1) | exact HB.out))) : w.heap.size ≤ gb150)); have n3_ := Aside0.mk ((by rw [hg]; exact (below_size (by repeat (first | (with_reducible first | exact HB.out | apply below_alloc | apply pw_below_drewN | apply below_drew1) | exact HB.out))) : w.heap.size ≤ gb150)); clear HB; have HB := n0_; have BK150 := n1_; have GW150 := n2_; have GE150 := n3_; clear n0_ n1_ n2_ n3_; clear hb hbox hg) | ((with_reducible refine gate_callee (f := 33) rfl ?_); refine goesL_ (some 9) rfl rfl Try.func33 (by kernel_rfl) rfl #[.int .i64 2, .int .i64 (-3)] rfl (by (try simp only [List.map_toArray, List.map_cons, List.map_nil]); first | done | rfl | (simp only [List.length_drop, List.length_take]; rfl)) ?_; (with_reducible refine (linkhouseref3_At.calls 2 (-3) t151 t152 _ A4.out).mono ?_); rintro e w6 ⟨rfl, hb⟩; refine ⟨_, rfl, ?_⟩; have n0_ := Aside0.mk (blk_below (g := gb150) (o := .cells #[.int .i64 0, .int .i64 0] 29 (0, 0)) (by (with_reducible repeat (first | refine blk_drewN ?_ _ | refine blk_drew ?_ | refine blk_alloc ?_ _)); exact BK150.out) hb); have n1_ := Aside0.mk (below_step (by repeat (first | (with_reducible first | exact HB.out | apply below_alloc | apply pw_below_drewN | apply below_drew1 | refine below_set ?_ GE150.out) | exact HB.out)) hb); clear BK150; clear HB; have BK150 := n0_; have HB := n1_; clear n0_ n1_; (try clear hb); (try clear hb2); (try clear hk); (try clear hi); have hcz7_0 : w6.cell? ⟨gb150, 0, none⟩ = some (.int .i64 0) := (blk_cell BK150.out 0).trans rfl; have hcz7_1 : w6.cell? ⟨gb150, 1, none⟩ = some (.int .i64 0) := (blk_cell BK150.out 1).trans rfl; have hfz7_0 := blk_frozen BK150.out 0; have hfz7_1 := blk_frozen BK150.out 1))
  refine bodyPost_ret (results_cell_row rfl _ _ gb150 29 #[.int .i64 t151, .int .i64 t152] (0, 0) _ rfl (by (with_reducible repeat (first | refine blk_drewN ?_ _ | refine blk_drew ?_ | refine blk_alloc ?_ _)); refine blk_put (cs := #[.int .i64 t151, .int .i64 0]) ?_ 1 _ rfl; (with_reducible repeat (first | refine blk_drewN ?_ _ | refine blk_drew ?_ | refine blk_alloc ?_ _)); refine blk_put (cs := #[.int .i64 0, .int .i64 0]) ?_ 0 _ rfl; (with_reducible repeat (first | refine blk_drewN ?_ _ | refine blk_drew ?_ | refine blk_alloc ?_ _)); exact BK150.out) Try.underlying29 rfl (by kernel_rfl)) rfl ?_
  exact ⟨by first | rfl | (simp [errW_none, errW_some] <;> rfl) | (simp [*, errW_none, errW_some] <;> rfl), by repeat (first | (with_reducible first | exact HB.out | apply below_alloc | apply pw_below_drewN | apply below_drew1 | refine below_set ?_ GE150.out) | exact HB.out)⟩
 ·rw [if_neg c3] at H
  have c3b0 : decide (200 < (l0.length : Int)) = false := decide_eq_false c3
  have c3b1 : decide (200 < l0.length) = false := decide_eq_false (by omega)
  clear c3
  have H' := Aside0.mk H
  clear H
  go_enter Try.func20, Try.ntmps20
  go_wp2_with (first | ((with_reducible refine gate_dst (N := 4) rfl ?_); refine box_event ?hg (N := 4) ?hd (cs := #[.int .i64 0, .int .i64 0]) (t := 29) ?hr ?_; (case hd => rfl); (case hg => rfl); (case hr => first | (go_simp; done) | (go_simp; rfl)); intro gb150 hg w8 hbox hb; have n0_ := Aside0.mk (below_step (by repeat (first | (with_reducible first | exact HB.out | apply below_alloc | apply pw_below_drewN | apply below_drew1) | exact HB.out)) hb); have n1_ := Aside0.mk (hbox); have n2_ := Aside0.mk ((by rw [hg]; exact (below_size (by repeat (first | (with_reducible first | exact HB.out | apply below_alloc | apply pw_below_drewN | apply below_drew1) | exact HB.out))) : w.heap.size ≤ gb150)); have n3_ := Aside0.mk ((by rw [hg]; exact (below_size (by repeat (first | (with_reducible first | exact HB.out | apply below_alloc | apply pw_below_drewN | apply below_drew1) | exact HB.out))) : w.heap.size ≤ gb150)); clear HB; have HB := n0_; have BK150 := n1_; have GW150 := n2_; have GE150 := n3_; clear n0_ n1_ n2_ n3_; clear hb hbox hg))
  go_loopg [5] k (fun kq v5 w' => ∃ (x5_1 : Int) (x151000_1 : Int) (x151001_1 : Int), v5 = .int .i64 x5_1 ∧ Aside0 (linkhouseref3_ItemsFault.l0 kq l0 a1 x5_1 = some (r1, r2)) ∧ Aside0 (kq ≤ k) ∧ Aside0 (w'.heap[gb150]? = some (.cells #[.int .i64 x151000_1, .int .i64 x151001_1] 29 (0, 0))) ∧ Aside0 (Below w.heap.size w w'))
  case atStart => exact ⟨(0), (0), (0), (by first | rfl | (simp; done) | (simp [*]; done)), H', ⟨Nat.le_refl _⟩, ⟨by (with_reducible repeat (first | refine blk_drewN ?_ _ | refine blk_drew ?_ | refine blk_alloc ?_ _)); exact BK150.out⟩, ⟨by repeat (first | (with_reducible first | exact HB.out | apply below_alloc | apply pw_below_drewN | apply below_drew1 | refine below_set ?_ GE150.out) | exact HB.out)⟩⟩
  case round =>
   clear H'
   try clear c2
   try clear p2
   try clear c3
   try clear c3b0
   try clear c3b1
   try clear hcz7_0
   try clear hcz7_1
   try clear hfz7_0
   try clear hfz7_1
   obtain ⟨x5_1, x151000_1, x151001_1, rfl, HA, HK1, BK150, HB⟩ := hrel
   cases gk with
   | zero => exact absurd HA.out (by simp [linkhouseref3_ItemsFault.l0])
   | succ k1 =>
    have H := HA.out
    clear HA
    simp only [linkhouseref3_ItemsFault.l0] at H
    by_cases c9 : x5_1 < (l0.length : Int)
    ·rw [if_pos c9] at H
     have c9b0 : decide (x5_1 < (l0.length : Int)) = true := decide_eq_true c9
     clear c9
     by_cases c10 : 0 ≤ x5_1
     ·rw [if_pos c10] at H
      have c10b0 : decide (0 ≤ x5_1) = true := decide_eq_true c10
      clear c10
      replace H := Option.bind_eq_some_iff.mp H
      obtain ⟨t154, A110, H⟩ := H
      replace H : (if t154 = true then ((linkhouseref3_In.f ((rd_T57 l0 x5_1).f1) 0 1048576).bind fun t156 => (if t156 = true then ((linkhouseref3_Power.f k1 ((rd_T57 l0 x5_1).f2) 256).bind fun t158 => (if t158 = true then (linkhouseref3_ItemsFault.l0 k1 l0 a1 (wrap64 (x5_1 + 1))) else ((linkhouseref3_At.f 3 (wrap64 ((-100) - x5_1))).bind fun bt159 => (some (bt159.1, bt159.2))))) else ((linkhouseref3_At.f 3 (wrap64 ((-100) - x5_1))).bind fun bt161 => (some (bt161.1, bt161.2))))) else ((linkhouseref3_At.f 3 (wrap64 ((-100) - x5_1))).bind fun bt163 => (some (bt163.1, bt163.2)))) = some (r1, r2) := H
      have A11 := Aside0.mk A110
      clear A110
      by_cases c12 : t154 = true
      ·subst c12
       have H1 : ((linkhouseref3_In.f ((rd_T57 l0 x5_1).f1) 0 1048576).bind fun t156 => (if t156 = true then ((linkhouseref3_Power.f k1 ((rd_T57 l0 x5_1).f2) 256).bind fun t158 => (if t158 = true then (linkhouseref3_ItemsFault.l0 k1 l0 a1 (wrap64 (x5_1 + 1))) else ((linkhouseref3_At.f 3 (wrap64 ((-100) - x5_1))).bind fun bt159 => (some (bt159.1, bt159.2))))) else ((linkhouseref3_At.f 3 (wrap64 ((-100) - x5_1))).bind fun bt161 => (some (bt161.1, bt161.2))))) = some (r1, r2) := by rw [if_pos rfl] at H; exact H
       clear H
       have H := H1
       clear H1
       replace H := Option.bind_eq_some_iff.mp H
       obtain ⟨t156, A130, H⟩ := H
       replace H : (if t156 = true then ((linkhouseref3_Power.f k1 ((rd_T57 l0 x5_1).f2) 256).bind fun t158 => (if t158 = true then (linkhouseref3_ItemsFault.l0 k1 l0 a1 (wrap64 (x5_1 + 1))) else ((linkhouseref3_At.f 3 (wrap64 ((-100) - x5_1))).bind fun bt159 => (some (bt159.1, bt159.2))))) else ((linkhouseref3_At.f 3 (wrap64 ((-100) - x5_1))).bind fun bt161 => (some (bt161.1, bt161.2)))) = some (r1, r2) := H
       have A13 := Aside0.mk A130
       clear A130
       by_cases c14 : t156 = true
       ·subst c14
        have H1 : ((linkhouseref3_Power.f k1 ((rd_T57 l0 x5_1).f2) 256).bind fun t158 => (if t158 = true then (linkhouseref3_ItemsFault.l0 k1 l0 a1 (wrap64 (x5_1 + 1))) else ((linkhouseref3_At.f 3 (wrap64 ((-100) - x5_1))).bind fun bt159 => (some (bt159.1, bt159.2))))) = some (r1, r2) := by rw [if_pos rfl] at H; exact H
        clear H
        have H := H1
        clear H1
        replace H := Option.bind_eq_some_iff.mp H
        obtain ⟨t158, A150, H⟩ := H
        replace H : (if t158 = true then (linkhouseref3_ItemsFault.l0 k1 l0 a1 (wrap64 (x5_1 + 1))) else ((linkhouseref3_At.f 3 (wrap64 ((-100) - x5_1))).bind fun bt159 => (some (bt159.1, bt159.2)))) = some (r1, r2) := H
        have A15 := Aside0.mk A150
        clear A150
        by_cases c16 : t158 = true
        ·subst c16
         have H1 : (linkhouseref3_ItemsFault.l0 k1 l0 a1 (wrap64 (x5_1 + 1))) = some (r1, r2) := by rw [if_pos rfl] at H; exact H
         clear H
         have H := H1
         clear H1
         have H' := Aside0.mk H
         clear H
         have p153 : 0 ≤ (x5_1 : Int) := of_decide_eq_true (by first | (with_reducible assumption) | assumption)
         have q153 : x5_1 < (l0.length : Int) := of_decide_eq_true (by first | (with_reducible assumption) | assumption)
         obtain ⟨ad153, e153, hx153_0, hx153_1, hx153_2⟩ := at_T57 HR0.out x5_1 p153 q153
         cases e153
         replace hx153_0 := (HB.out.cell (World.block_lt_of_cell? w _ hx153_0)).trans hx153_0
         replace hx153_1 := (HB.out.cell (World.block_lt_of_cell? w _ hx153_1)).trans hx153_1
         replace hx153_2 := (HB.out.cell (World.block_lt_of_cell? w _ hx153_2)).trans hx153_2
         replace p153 := eq_true p153
         replace q153 := eq_true q153
         go_wp2_with (first | ((with_reducible refine gate_callee (f := 30) rfl ?_); refine goesL_ (some 23) rfl rfl Try.func30 (by kernel_rfl) rfl #[.int .i64 ((rd_T57 l0 x5_1).f0), .int .i64 0, .int .i64 (wrap64 (a1 - 1))] rfl (by (try simp only [List.map_toArray, List.map_cons, List.map_nil]); first | done | rfl | (simp only [List.length_drop, List.length_take]; rfl)) ?_; (with_reducible refine (linkhouseref3_In.calls ((rd_T57 l0 x5_1).f0) 0 (wrap64 (a1 - 1)) true _ A11.out).mono ?_); rintro e w' ⟨rfl, ⟨nd, rfl⟩⟩; refine ⟨_, rfl, ?_⟩; have p155 : 0 ≤ (x5_1 : Int) := of_decide_eq_true (by first | (with_reducible assumption) | assumption); have q155 : x5_1 < (l0.length : Int) := of_decide_eq_true (by first | (with_reducible assumption) | assumption); obtain ⟨ad155, e155, hx155_0, hx155_1, hx155_2⟩ := at_T57 HR0.out x5_1 p155 q155; obtain rfl : ad153 = ad155 := (by injection e155); replace hx155_0 := (HB.out.cell (World.block_lt_of_cell? w _ hx155_0)).trans hx155_0; replace hx155_1 := (HB.out.cell (World.block_lt_of_cell? w _ hx155_1)).trans hx155_1; replace hx155_2 := (HB.out.cell (World.block_lt_of_cell? w _ hx155_2)).trans hx155_2; replace p155 := eq_true p155; replace q155 := eq_true q155) | (go_at_call 30; (with_reducible refine (linkhouseref3_In.calls ((rd_T57 l0 x5_1).f1) 0 1048576 true _ A13.out).mono ?_); rintro e w' ⟨rfl, ⟨nd, rfl⟩⟩; have p157 : 0 ≤ (x5_1 : Int) := of_decide_eq_true (by first | (with_reducible assumption) | assumption); have q157 : x5_1 < (l0.length : Int) := of_decide_eq_true (by first | (with_reducible assumption) | assumption); obtain ⟨ad157, e157, hx157_0, hx157_1, hx157_2⟩ := at_T57 HR0.out x5_1 p157 q157; obtain rfl : ad153 = ad157 := (by injection e157); replace hx157_0 := (HB.out.cell (World.block_lt_of_cell? w _ hx157_0)).trans hx157_0; replace hx157_1 := (HB.out.cell (World.block_lt_of_cell? w _ hx157_1)).trans hx157_1; replace hx157_2 := (HB.out.cell (World.block_lt_of_cell? w _ hx157_2)).trans hx157_2; replace p157 := eq_true p157; replace q157 := eq_true q157) | (go_at_call 35; (with_reducible refine (linkhouseref3_Power.calls k1 ((rd_T57 l0 x5_1).f2) 256 true _ A15.out).mono ?_); rintro e w' ⟨rfl, ⟨nd, rfl⟩⟩))
         go_roundg k1
         case measure => have := HK1.out; omega
         case rel => exact ⟨(wrap64 (x5_1 + 1)), (x151000_1), (x151001_1), (by first | rfl | (simp; done) | (simp [*]; done)), H', ⟨by have := HK1.out; omega⟩, ⟨by (with_reducible repeat (first | refine blk_drewN ?_ _ | refine blk_drew ?_ | refine blk_alloc ?_ _)); exact BK150.out⟩, ⟨by repeat (first | (with_reducible first | exact HB.out | apply below_alloc | apply pw_below_drewN | apply below_drew1 | refine below_set ?_ GE150.out) | exact HB.out)⟩⟩
        ·replace c16 := Bool.eq_false_iff.mpr c16
         subst c16
         have H1 : ((linkhouseref3_At.f 3 (wrap64 ((-100) - x5_1))).bind fun bt159 => (some (bt159.1, bt159.2))) = some (r1, r2) := by rw [if_neg (show ¬ (false = true) by decide)] at H; exact H
         clear H
         have H := H1
         clear H1
         replace H := Option.bind_eq_some_iff.mp H
         obtain ⟨⟨t159, t160⟩, A170, H⟩ := H
         replace H : (some (t159, t160)) = some (r1, r2) := H
         have A17 := Aside0.mk A170
         clear A170
         simp only [Option.some.injEq, Prod.mk.injEq] at H
         obtain ⟨rfl, rfl⟩ := H
         have p153 : 0 ≤ (x5_1 : Int) := of_decide_eq_true (by first | (with_reducible assumption) | assumption)
         have q153 : x5_1 < (l0.length : Int) := of_decide_eq_true (by first | (with_reducible assumption) | assumption)
         obtain ⟨ad153, e153, hx153_0, hx153_1, hx153_2⟩ := at_T57 HR0.out x5_1 p153 q153
         cases e153
         replace hx153_0 := (HB.out.cell (World.block_lt_of_cell? w _ hx153_0)).trans hx153_0
         replace hx153_1 := (HB.out.cell (World.block_lt_of_cell? w _ hx153_1)).trans hx153_1
         replace hx153_2 := (HB.out.cell (World.block_lt_of_cell? w _ hx153_2)).trans hx153_2
         replace p153 := eq_true p153
         replace q153 := eq_true q153
         go_wp2_with (first | ((with_reducible refine gate_callee (f := 30) rfl ?_); refine goesL_ (some 23) rfl rfl Try.func30 (by kernel_rfl) rfl #[.int .i64 ((rd_T57 l0 x5_1).f0), .int .i64 0, .int .i64 (wrap64 (a1 - 1))] rfl (by (try simp only [List.map_toArray, List.map_cons, List.map_nil]); first | done | rfl | (simp only [List.length_drop, List.length_take]; rfl)) ?_; (with_reducible refine (linkhouseref3_In.calls ((rd_T57 l0 x5_1).f0) 0 (wrap64 (a1 - 1)) true _ A11.out).mono ?_); rintro e w' ⟨rfl, ⟨nd, rfl⟩⟩; refine ⟨_, rfl, ?_⟩; (try (rw [drewN_self wr]; generalize hq_ : World.drewN wr _ = wr; have n0_ : Aside0 (wr.heap[gb150]? = some (.cells #[.int .i64 x151000_1, .int .i64 x151001_1] 29 (0, 0))) := ⟨by rw [← hq_]; exact (by (with_reducible repeat (first | refine blk_drewN ?_ _ | refine blk_drew ?_ | refine blk_alloc ?_ _)); exact BK150.out)⟩; have n1_ : Aside0 (Below w.heap.size w wr) := ⟨by rw [← hq_]; exact (by repeat (first | (with_reducible first | exact HB.out | apply below_alloc | apply pw_below_drewN | apply below_drew1 | refine below_set ?_ GE150.out) | exact HB.out))⟩; clear BK150 HB hq_; have BK150 := n0_; have HB := n1_; clear n0_ n1_)); have p155 : 0 ≤ (x5_1 : Int) := of_decide_eq_true (by first | (with_reducible assumption) | assumption); have q155 : x5_1 < (l0.length : Int) := of_decide_eq_true (by first | (with_reducible assumption) | assumption); obtain ⟨ad155, e155, hx155_0, hx155_1, hx155_2⟩ := at_T57 HR0.out x5_1 p155 q155; obtain rfl : ad153 = ad155 := (by injection e155); replace hx155_0 := (HB.out.cell (World.block_lt_of_cell? w _ hx155_0)).trans hx155_0; replace hx155_1 := (HB.out.cell (World.block_lt_of_cell? w _ hx155_1)).trans hx155_1; replace hx155_2 := (HB.out.cell (World.block_lt_of_cell? w _ hx155_2)).trans hx155_2; replace p155 := eq_true p155; replace q155 := eq_true q155) | (go_at_call 30; (with_reducible refine (linkhouseref3_In.calls ((rd_T57 l0 x5_1).f1) 0 1048576 true _ A13.out).mono ?_); rintro e w' ⟨rfl, ⟨nd, rfl⟩⟩; (try (rw [drewN_self wr]; generalize hq_ : World.drewN wr _ = wr; have n0_ : Aside0 (wr.heap[gb150]? = some (.cells #[.int .i64 x151000_1, .int .i64 x151001_1] 29 (0, 0))) := ⟨by rw [← hq_]; exact (by (with_reducible repeat (first | refine blk_drewN ?_ _ | refine blk_drew ?_ | refine blk_alloc ?_ _)); exact BK150.out)⟩; have n1_ : Aside0 (Below w.heap.size w wr) := ⟨by rw [← hq_]; exact (by repeat (first | (with_reducible first | exact HB.out | apply below_alloc | apply pw_below_drewN | apply below_drew1 | refine below_set ?_ GE150.out) | exact HB.out))⟩; clear BK150 HB hq_; have BK150 := n0_; have HB := n1_; clear n0_ n1_)); have p157 : 0 ≤ (x5_1 : Int) := of_decide_eq_true (by first | (with_reducible assumption) | assumption); have q157 : x5_1 < (l0.length : Int) := of_decide_eq_true (by first | (with_reducible assumption) | assumption); obtain ⟨ad157, e157, hx157_0, hx157_1, hx157_2⟩ := at_T57 HR0.out x5_1 p157 q157; obtain rfl : ad153 = ad157 := (by injection e157); replace hx157_0 := (HB.out.cell (World.block_lt_of_cell? w _ hx157_0)).trans hx157_0; replace hx157_1 := (HB.out.cell (World.block_lt_of_cell? w _ hx157_1)).trans hx157_1; replace hx157_2 := (HB.out.cell (World.block_lt_of_cell? w _ hx157_2)).trans hx157_2; replace p157 := eq_true p157; replace q157 := eq_true q157) | (go_at_call 35; (with_reducible refine (linkhouseref3_Power.calls k1 ((rd_T57 l0 x5_1).f2) 256 false _ A15.out).mono ?_); rintro e w' ⟨rfl, ⟨nd, rfl⟩⟩; (try (rw [drewN_self wr]; generalize hq_ : World.drewN wr _ = wr; have n0_ : Aside0 (wr.heap[gb150]? = some (.cells #[.int .i64 x151000_1, .int .i64 x151001_1] 29 (0, 0))) := ⟨by rw [← hq_]; exact (by (with_reducible repeat (first | refine blk_drewN ?_ _ | refine blk_drew ?_ | refine blk_alloc ?_ _)); exact BK150.out)⟩; have n1_ : Aside0 (Below w.heap.size w wr) := ⟨by rw [← hq_]; exact (by repeat (first | (with_reducible first | exact HB.out | apply below_alloc | apply pw_below_drewN | apply below_drew1 | refine below_set ?_ GE150.out) | exact HB.out))⟩; clear BK150 HB hq_; have BK150 := n0_; have HB := n1_; clear n0_ n1_))) | ((with_reducible refine gate_callee (f := 33) rfl ?_); refine goesL_ (some 45) rfl rfl Try.func33 (by kernel_rfl) rfl #[.int .i64 3, .int .i64 (wrap64 ((-100) - x5_1))] rfl (by (try simp only [List.map_toArray, List.map_cons, List.map_nil]); first | done | rfl | (simp only [List.length_drop, List.length_take]; rfl)) ?_; (with_reducible refine (linkhouseref3_At.calls 3 (wrap64 ((-100) - x5_1)) t159 t160 _ A17.out).mono ?_); rintro e w18 ⟨rfl, hb⟩; refine ⟨_, rfl, ?_⟩; have n0_ := Aside0.mk (blk_below (g := gb150) (o := .cells #[.int .i64 x151000_1, .int .i64 x151001_1] 29 (0, 0)) (by (with_reducible repeat (first | refine blk_drewN ?_ _ | refine blk_drew ?_ | refine blk_alloc ?_ _)); exact BK150.out) hb); have n1_ := Aside0.mk (below_step (by repeat (first | (with_reducible first | exact HB.out | apply below_alloc | apply pw_below_drewN | apply below_drew1 | refine below_set ?_ GE150.out) | exact HB.out)) hb); clear BK150; clear HB; have BK150 := n0_; have HB := n1_; clear n0_ n1_; (try clear hb); (try clear hb2); (try clear hk); (try clear hi); have hcz19_0 : w18.cell? ⟨gb150, 0, none⟩ = some (.int .i64 x151000_1) := (blk_cell BK150.out 0).trans rfl; have hcz19_1 : w18.cell? ⟨gb150, 1, none⟩ = some (.int .i64 x151001_1) := (blk_cell BK150.out 1).trans rfl; have hfz19_0 := blk_frozen BK150.out 0; have hfz19_1 := blk_frozen BK150.out 1))
         refine bodyPost_ret (results_cell_row rfl _ _ gb150 29 #[.int .i64 t159, .int .i64 t160] (0, 0) _ rfl (by (with_reducible repeat (first | refine blk_drewN ?_ _ | refine blk_drew ?_ | refine blk_alloc ?_ _)); refine blk_put (cs := #[.int .i64 t159, .int .i64 x151001_1]) ?_ 1 _ rfl; (with_reducible repeat (first | refine blk_drewN ?_ _ | refine blk_drew ?_ | refine blk_alloc ?_ _)); refine blk_put (cs := #[.int .i64 x151000_1, .int .i64 x151001_1]) ?_ 0 _ rfl; (with_reducible repeat (first | refine blk_drewN ?_ _ | refine blk_drew ?_ | refine blk_alloc ?_ _)); exact BK150.out) Try.underlying29 rfl (by kernel_rfl)) rfl ?_
         exact ⟨by first | rfl | (simp [errW_none, errW_some] <;> rfl) | (simp [*, errW_none, errW_some] <;> rfl), by repeat (first | (with_reducible first | exact HB.out | apply below_alloc | apply pw_below_drewN | apply below_drew1 | refine below_set ?_ GE150.out) | exact HB.out)⟩
       ·replace c14 := Bool.eq_false_iff.mpr c14
        subst c14
        have H1 : ((linkhouseref3_At.f 3 (wrap64 ((-100) - x5_1))).bind fun bt161 => (some (bt161.1, bt161.2))) = some (r1, r2) := by rw [if_neg (show ¬ (false = true) by decide)] at H; exact H
        clear H
        have H := H1
        clear H1
        replace H := Option.bind_eq_some_iff.mp H
        obtain ⟨⟨t161, t162⟩, A200, H⟩ := H
        replace H : (some (t161, t162)) = some (r1, r2) := H
        have A20 := Aside0.mk A200
        clear A200
        simp only [Option.some.injEq, Prod.mk.injEq] at H
        obtain ⟨rfl, rfl⟩ := H
        have p153 : 0 ≤ (x5_1 : Int) := of_decide_eq_true (by first | (with_reducible assumption) | assumption)
        have q153 : x5_1 < (l0.length : Int) := of_decide_eq_true (by first | (with_reducible assumption) | assumption)
        obtain ⟨ad153, e153, hx153_0, hx153_1, hx153_2⟩ := at_T57 HR0.out x5_1 p153 q153
        cases e153
        replace hx153_0 := (HB.out.cell (World.block_lt_of_cell? w _ hx153_0)).trans hx153_0
        replace hx153_1 := (HB.out.cell (World.block_lt_of_cell? w _ hx153_1)).trans hx153_1
        replace hx153_2 := (HB.out.cell (World.block_lt_of_cell? w _ hx153_2)).trans hx153_2
        replace p153 := eq_true p153
        replace q153 := eq_true q153
        go_wp2_with (first | ((with_reducible refine gate_callee (f := 30) rfl ?_); refine goesL_ (some 23) rfl rfl Try.func30 (by kernel_rfl) rfl #[.int .i64 ((rd_T57 l0 x5_1).f0), .int .i64 0, .int .i64 (wrap64 (a1 - 1))] rfl (by (try simp only [List.map_toArray, List.map_cons, List.map_nil]); first | done | rfl | (simp only [List.length_drop, List.length_take]; rfl)) ?_; (with_reducible refine (linkhouseref3_In.calls ((rd_T57 l0 x5_1).f0) 0 (wrap64 (a1 - 1)) true _ A11.out).mono ?_); rintro e w' ⟨rfl, ⟨nd, rfl⟩⟩; refine ⟨_, rfl, ?_⟩; (try (rw [drewN_self wr]; generalize hq_ : World.drewN wr _ = wr; have n0_ : Aside0 (wr.heap[gb150]? = some (.cells #[.int .i64 x151000_1, .int .i64 x151001_1] 29 (0, 0))) := ⟨by rw [← hq_]; exact (by (with_reducible repeat (first | refine blk_drewN ?_ _ | refine blk_drew ?_ | refine blk_alloc ?_ _)); exact BK150.out)⟩; have n1_ : Aside0 (Below w.heap.size w wr) := ⟨by rw [← hq_]; exact (by repeat (first | (with_reducible first | exact HB.out | apply below_alloc | apply pw_below_drewN | apply below_drew1 | refine below_set ?_ GE150.out) | exact HB.out))⟩; clear BK150 HB hq_; have BK150 := n0_; have HB := n1_; clear n0_ n1_)); have p155 : 0 ≤ (x5_1 : Int) := of_decide_eq_true (by first | (with_reducible assumption) | assumption); have q155 : x5_1 < (l0.length : Int) := of_decide_eq_true (by first | (with_reducible assumption) | assumption); obtain ⟨ad155, e155, hx155_0, hx155_1, hx155_2⟩ := at_T57 HR0.out x5_1 p155 q155; obtain rfl : ad153 = ad155 := (by injection e155); replace hx155_0 := (HB.out.cell (World.block_lt_of_cell? w _ hx155_0)).trans hx155_0; replace hx155_1 := (HB.out.cell (World.block_lt_of_cell? w _ hx155_1)).trans hx155_1; replace hx155_2 := (HB.out.cell (World.block_lt_of_cell? w _ hx155_2)).trans hx155_2; replace p155 := eq_true p155; replace q155 := eq_true q155) | (go_at_call 30; (with_reducible refine (linkhouseref3_In.calls ((rd_T57 l0 x5_1).f1) 0 1048576 false _ A13.out).mono ?_); rintro e w' ⟨rfl, ⟨nd, rfl⟩⟩; (try (rw [drewN_self wr]; generalize hq_ : World.drewN wr _ = wr; have n0_ : Aside0 (wr.heap[gb150]? = some (.cells #[.int .i64 x151000_1, .int .i64 x151001_1] 29 (0, 0))) := ⟨by rw [← hq_]; exact (by (with_reducible repeat (first | refine blk_drewN ?_ _ | refine blk_drew ?_ | refine blk_alloc ?_ _)); exact BK150.out)⟩; have n1_ : Aside0 (Below w.heap.size w wr) := ⟨by rw [← hq_]; exact (by repeat (first | (with_reducible first | exact HB.out | apply below_alloc | apply pw_below_drewN | apply below_drew1 | refine below_set ?_ GE150.out) | exact HB.out))⟩; clear BK150 HB hq_; have BK150 := n0_; have HB := n1_; clear n0_ n1_))) | ((with_reducible refine gate_callee (f := 33) rfl ?_); refine goesL_ (some 45) rfl rfl Try.func33 (by kernel_rfl) rfl #[.int .i64 3, .int .i64 (wrap64 ((-100) - x5_1))] rfl (by (try simp only [List.map_toArray, List.map_cons, List.map_nil]); first | done | rfl | (simp only [List.length_drop, List.length_take]; rfl)) ?_; (with_reducible refine (linkhouseref3_At.calls 3 (wrap64 ((-100) - x5_1)) t161 t162 _ A20.out).mono ?_); rintro e w21 ⟨rfl, hb⟩; refine ⟨_, rfl, ?_⟩; have n0_ := Aside0.mk (blk_below (g := gb150) (o := .cells #[.int .i64 x151000_1, .int .i64 x151001_1] 29 (0, 0)) (by (with_reducible repeat (first | refine blk_drewN ?_ _ | refine blk_drew ?_ | refine blk_alloc ?_ _)); exact BK150.out) hb); have n1_ := Aside0.mk (below_step (by repeat (first | (with_reducible first | exact HB.out | apply below_alloc | apply pw_below_drewN | apply below_drew1 | refine below_set ?_ GE150.out) | exact HB.out)) hb); clear BK150; clear HB; have BK150 := n0_; have HB := n1_; clear n0_ n1_; (try clear hb); (try clear hb2); (try clear hk); (try clear hi); have hcz22_0 : w21.cell? ⟨gb150, 0, none⟩ = some (.int .i64 x151000_1) := (blk_cell BK150.out 0).trans rfl; have hcz22_1 : w21.cell? ⟨gb150, 1, none⟩ = some (.int .i64 x151001_1) := (blk_cell BK150.out 1).trans rfl; have hfz22_0 := blk_frozen BK150.out 0; have hfz22_1 := blk_frozen BK150.out 1))
        refine bodyPost_ret (results_cell_row rfl _ _ gb150 29 #[.int .i64 t161, .int .i64 t162] (0, 0) _ rfl (by (with_reducible repeat (first | refine blk_drewN ?_ _ | refine blk_drew ?_ | refine blk_alloc ?_ _)); refine blk_put (cs := #[.int .i64 t161, .int .i64 x151001_1]) ?_ 1 _ rfl; (with_reducible repeat (first | refine blk_drewN ?_ _ | refine blk_drew ?_ | refine blk_alloc ?_ _)); refine blk_put (cs := #[.int .i64 x151000_1, .int .i64 x151001_1]) ?_ 0 _ rfl; (with_reducible repeat (first | refine blk_drewN ?_ _ | refine blk_drew ?_ | refine blk_alloc ?_ _)); exact BK150.out) Try.underlying29 rfl (by kernel_rfl)) rfl ?_
        exact ⟨by first | rfl | (simp [errW_none, errW_some] <;> rfl) | (simp [*, errW_none, errW_some] <;> rfl), by repeat (first | (with_reducible first | exact HB.out | apply below_alloc | apply pw_below_drewN | apply below_drew1 | refine below_set ?_ GE150.out) | exact HB.out)⟩
      ·replace c12 := Bool.eq_false_iff.mpr c12
       subst c12
       have H1 : ((linkhouseref3_At.f 3 (wrap64 ((-100) - x5_1))).bind fun bt163 => (some (bt163.1, bt163.2))) = some (r1, r2) := by rw [if_neg (show ¬ (false = true) by decide)] at H; exact H
       clear H
       have H := H1
       clear H1
       replace H := Option.bind_eq_some_iff.mp H
       obtain ⟨⟨t163, t164⟩, A230, H⟩ := H
       replace H : (some (t163, t164)) = some (r1, r2) := H
       have A23 := Aside0.mk A230
       clear A230
       simp only [Option.some.injEq, Prod.mk.injEq] at H
       obtain ⟨rfl, rfl⟩ := H
       have p153 : 0 ≤ (x5_1 : Int) := of_decide_eq_true (by first | (with_reducible assumption) | assumption)
       have q153 : x5_1 < (l0.length : Int) := of_decide_eq_true (by first | (with_reducible assumption) | assumption)
       obtain ⟨ad153, e153, hx153_0, hx153_1, hx153_2⟩ := at_T57 HR0.out x5_1 p153 q153
       cases e153
       replace hx153_0 := (HB.out.cell (World.block_lt_of_cell? w _ hx153_0)).trans hx153_0
       replace hx153_1 := (HB.out.cell (World.block_lt_of_cell? w _ hx153_1)).trans hx153_1
       replace hx153_2 := (HB.out.cell (World.block_lt_of_cell? w _ hx153_2)).trans hx153_2
       replace p153 := eq_true p153
       replace q153 := eq_true q153
       go_wp2_with (first | ((with_reducible refine gate_callee (f := 30) rfl ?_); refine goesL_ (some 23) rfl rfl Try.func30 (by kernel_rfl) rfl #[.int .i64 ((rd_T57 l0 x5_1).f0), .int .i64 0, .int .i64 (wrap64 (a1 - 1))] rfl (by (try simp only [List.map_toArray, List.map_cons, List.map_nil]); first | done | rfl | (simp only [List.length_drop, List.length_take]; rfl)) ?_; (with_reducible refine (linkhouseref3_In.calls ((rd_T57 l0 x5_1).f0) 0 (wrap64 (a1 - 1)) false _ A11.out).mono ?_); rintro e w' ⟨rfl, ⟨nd, rfl⟩⟩; refine ⟨_, rfl, ?_⟩; (try (rw [drewN_self wr]; generalize hq_ : World.drewN wr _ = wr; have n0_ : Aside0 (wr.heap[gb150]? = some (.cells #[.int .i64 x151000_1, .int .i64 x151001_1] 29 (0, 0))) := ⟨by rw [← hq_]; exact (by (with_reducible repeat (first | refine blk_drewN ?_ _ | refine blk_drew ?_ | refine blk_alloc ?_ _)); exact BK150.out)⟩; have n1_ : Aside0 (Below w.heap.size w wr) := ⟨by rw [← hq_]; exact (by repeat (first | (with_reducible first | exact HB.out | apply below_alloc | apply pw_below_drewN | apply below_drew1 | refine below_set ?_ GE150.out) | exact HB.out))⟩; clear BK150 HB hq_; have BK150 := n0_; have HB := n1_; clear n0_ n1_))) | ((with_reducible refine gate_callee (f := 33) rfl ?_); refine goesL_ (some 45) rfl rfl Try.func33 (by kernel_rfl) rfl #[.int .i64 3, .int .i64 (wrap64 ((-100) - x5_1))] rfl (by (try simp only [List.map_toArray, List.map_cons, List.map_nil]); first | done | rfl | (simp only [List.length_drop, List.length_take]; rfl)) ?_; (with_reducible refine (linkhouseref3_At.calls 3 (wrap64 ((-100) - x5_1)) t163 t164 _ A23.out).mono ?_); rintro e w24 ⟨rfl, hb⟩; refine ⟨_, rfl, ?_⟩; have n0_ := Aside0.mk (blk_below (g := gb150) (o := .cells #[.int .i64 x151000_1, .int .i64 x151001_1] 29 (0, 0)) (by (with_reducible repeat (first | refine blk_drewN ?_ _ | refine blk_drew ?_ | refine blk_alloc ?_ _)); exact BK150.out) hb); have n1_ := Aside0.mk (below_step (by repeat (first | (with_reducible first | exact HB.out | apply below_alloc | apply pw_below_drewN | apply below_drew1 | refine below_set ?_ GE150.out) | exact HB.out)) hb); clear BK150; clear HB; have BK150 := n0_; have HB := n1_; clear n0_ n1_; (try clear hb); (try clear hb2); (try clear hk); (try clear hi); have hcz25_0 : w24.cell? ⟨gb150, 0, none⟩ = some (.int .i64 x151000_1) := (blk_cell BK150.out 0).trans rfl; have hcz25_1 : w24.cell? ⟨gb150, 1, none⟩ = some (.int .i64 x151001_1) := (blk_cell BK150.out 1).trans rfl; have hfz25_0 := blk_frozen BK150.out 0; have hfz25_1 := blk_frozen BK150.out 1))
       refine bodyPost_ret (results_cell_row rfl _ _ gb150 29 #[.int .i64 t163, .int .i64 t164] (0, 0) _ rfl (by (with_reducible repeat (first | refine blk_drewN ?_ _ | refine blk_drew ?_ | refine blk_alloc ?_ _)); refine blk_put (cs := #[.int .i64 t163, .int .i64 x151001_1]) ?_ 1 _ rfl; (with_reducible repeat (first | refine blk_drewN ?_ _ | refine blk_drew ?_ | refine blk_alloc ?_ _)); refine blk_put (cs := #[.int .i64 x151000_1, .int .i64 x151001_1]) ?_ 0 _ rfl; (with_reducible repeat (first | refine blk_drewN ?_ _ | refine blk_drew ?_ | refine blk_alloc ?_ _)); exact BK150.out) Try.underlying29 rfl (by kernel_rfl)) rfl ?_
       exact ⟨by first | rfl | (simp [errW_none, errW_some] <;> rfl) | (simp [*, errW_none, errW_some] <;> rfl), by repeat (first | (with_reducible first | exact HB.out | apply below_alloc | apply pw_below_drewN | apply below_drew1 | refine below_set ?_ GE150.out) | exact HB.out)⟩
     ·rw [if_neg c10] at H
      exact absurd H (by simp)
    ·rw [if_neg c9] at H
     have c9b0 : decide (x5_1 < (l0.length : Int)) = false := decide_eq_false c9
     clear c9
     simp only [Option.some.injEq, Prod.mk.injEq] at H
     obtain ⟨rfl, rfl⟩ := H
     have hcz26_0 : wr.cell? ⟨gb150, 0, none⟩ = some (.int .i64 x151000_1) := (blk_cell BK150.out 0).trans rfl
     have hcz26_1 : wr.cell? ⟨gb150, 1, none⟩ = some (.int .i64 x151001_1) := (blk_cell BK150.out 1).trans rfl
     have hfz26_0 := blk_frozen BK150.out 0
     have hfz26_1 := blk_frozen BK150.out 1
     go_wp2
     refine bodyPost_ret (results_cell_row rfl _ _ gb150 29 #[.int .i64 0, .int .i64 0] (0, 0) _ rfl (by (with_reducible repeat (first | refine blk_drewN ?_ _ | refine blk_drew ?_ | refine blk_alloc ?_ _)); refine blk_put (cs := #[.int .i64 0, .int .i64 x151001_1]) ?_ 1 _ rfl; (with_reducible repeat (first | refine blk_drewN ?_ _ | refine blk_drew ?_ | refine blk_alloc ?_ _)); refine blk_put (cs := #[.int .i64 x151000_1, .int .i64 x151001_1]) ?_ 0 _ rfl; (with_reducible repeat (first | refine blk_drewN ?_ _ | refine blk_drew ?_ | refine blk_alloc ?_ _)); exact BK150.out) Try.underlying29 rfl (by kernel_rfl)) rfl ?_
     exact ⟨by first | rfl | (simp [errW_none, errW_some] <;> rfl) | (simp [*, errW_none, errW_some] <;> rfl), by repeat (first | (with_reducible first | exact HB.out | apply below_alloc | apply pw_below_drewN | apply below_drew1 | refine below_set ?_ GE150.out) | exact HB.out)⟩
def linkhouseref4_At.f (a0 : Int) (a1 : Int) : Option (Int × Int) := some (a0, a1)
set_option maxHeartbeats 8000000 in
set_option maxRecDepth 100000 in
theorem linkhouseref4_At.calls (a0 : Int) (a1 : Int) (r1 : Int) (r2 : Int) (w : World) (h : linkhouseref4_At.f a0 a1 = some (r1, r2)) :
  Calls Try.prog 21 #[.int .i64 a0, .int .i64 a1] w fun e w' => e = .returned (.agg #[.int .i64 r1, .int .i64 r2]) ∧ Below w.heap.size w w' := by
 have hu29 := Try.underlying29
 have HB := Aside0.mk (Below.refl w.heap.size w)
 have H : (some (a0, a1)) = some (r1, r2) := h
 clear h
 simp only [Option.some.injEq, Prod.mk.injEq] at H
 obtain ⟨rfl, rfl⟩ := H
 go_enter Try.func21, Try.ntmps21
 go_wp2_with (first | ((with_reducible refine gate_dst (N := 4) rfl ?_); refine box_event ?hg (N := 4) ?hd (cs := #[.int .i64 0, .int .i64 0]) (t := 29) ?hr ?_; (case hd => rfl); (case hg => rfl); (case hr => first | (go_simp; done) | (go_simp; rfl)); intro gb165 hg w3 hbox hb; have n0_ := Aside0.mk (below_step (by repeat (first | (with_reducible first | exact HB.out | apply below_alloc | apply pw_below_drewN | apply below_drew1) | exact HB.out)) hb); have n1_ := Aside0.mk (hbox); have n2_ := Aside0.mk ((by rw [hg]; exact (below_size (by repeat (first | (with_reducible first | exact HB.out | apply below_alloc | apply pw_below_drewN | apply below_drew1) | exact HB.out))) : w.heap.size ≤ gb165)); have n3_ := Aside0.mk ((by rw [hg]; exact (below_size (by repeat (first | (with_reducible first | exact HB.out | apply below_alloc | apply pw_below_drewN | apply below_drew1) | exact HB.out))) : w.heap.size ≤ gb165)); clear HB; have HB := n0_; have BK165 := n1_; have GW165 := n2_; have GE165 := n3_; clear n0_ n1_ n2_ n3_; clear hb hbox hg; have hcz4_0 : w3.cell? ⟨gb165, 0, none⟩ = some (.int .i64 0) := (blk_cell BK165.out 0).trans rfl; have hcz4_1 : w3.cell? ⟨gb165, 1, none⟩ = some (.int .i64 0) := (blk_cell BK165.out 1).trans rfl; have hfz4_0 := blk_frozen BK165.out 0; have hfz4_1 := blk_frozen BK165.out 1))
 refine bodyPost_ret (results_cell_row rfl _ _ gb165 29 #[.int .i64 a0, .int .i64 a1] (0, 0) _ rfl (by (with_reducible repeat (first | refine blk_drewN ?_ _ | refine blk_drew ?_ | refine blk_alloc ?_ _)); refine blk_put (cs := #[.int .i64 a0, .int .i64 0]) ?_ 1 _ rfl; (with_reducible repeat (first | refine blk_drewN ?_ _ | refine blk_drew ?_ | refine blk_alloc ?_ _)); refine blk_put (cs := #[.int .i64 0, .int .i64 0]) ?_ 0 _ rfl; (with_reducible repeat (first | refine blk_drewN ?_ _ | refine blk_drew ?_ | refine blk_alloc ?_ _)); exact BK165.out) Try.underlying29 rfl (by kernel_rfl)) rfl ?_
 exact ⟨by first | rfl | (simp [errW_none, errW_some] <;> rfl) | (simp [*, errW_none, errW_some] <;> rfl), by repeat (first | (with_reducible first | exact HB.out | apply below_alloc | apply pw_below_drewN | apply below_drew1 | refine below_set ?_ GE165.out) | exact HB.out)⟩
def linkhouseref4_In.f (a0 : Int) (a1 : Int) (a2 : Int) : Option (Bool) := if a0 ≥ a1 then (some (decide (a0 ≤ a2))) else (some false)
set_option maxHeartbeats 8000000 in
set_option maxRecDepth 100000 in
theorem linkhouseref4_In.calls (a0 : Int) (a1 : Int) (a2 : Int) (r : Bool) (w : World) (h : linkhouseref4_In.f a0 a1 a2 = some r) :
  Calls Try.prog 17 #[.int .i64 a0, .int .i64 a1, .int .i64 a2] w fun e w' => e = .returned (.bool r) ∧ Drawn0 w w' := by
 have H : (if a0 ≥ a1 then (some (decide (a0 ≤ a2))) else (some false)) = some r := h
 clear h
 by_cases c4 : a0 ≥ a1
 ·rw [if_pos c4] at H
  have c4b0 : decide (a1 ≤ a0) = true := decide_eq_true c4
  clear c4
  obtain rfl := Option.some.inj H
  go_enter Try.func17, Try.ntmps17
  go_wp2
  go_ret
  exact ⟨by first | rfl | (simp; done) | (simp [*]; done), by repeat (first | exact Drawn0.refl _ | apply Drawn0.step)⟩
 ·rw [if_neg c4] at H
  have c4b0 : decide (a1 ≤ a0) = false := decide_eq_false c4
  clear c4
  obtain rfl := Option.some.inj H
  go_enter Try.func17, Try.ntmps17
  go_wp2
  go_ret
  exact ⟨by first | rfl | (simp; done) | (simp [*]; done), by repeat (first | exact Drawn0.refl _ | apply Drawn0.step)⟩
end Go.Proofs.Ytogcgcjhoebooaa.PVeneerMatchesSpec
end
section
set_option linter.unusedVariables false
set_option linter.unusedSimpArgs false
namespace Go.Proofs.Ytogcgcjhoebooaa
open Go.RowKit Go.Proofs.YtogcgcjhoebooaaW.PrintWords Go.Proofs.YtogcgcjhoebooaaW.PrintLast Go.Proofs.Ytogcgcjhoebooaa.PVeneerMatchesSpec
theorem insA {w : World} {A A1 : Option Addr} {c c1 g k : Nat} {tg tk : TypeId} {fg fk : Nat × Nat} (b : S48) {r : Ins} (hr : inserted osA [] itA [b] = r) (hA : Kd.C k72 w A 2 osA) (hc : 2 ≤ c) (hA1 : Kd.C k76 w A1 0 [])
  (hI : w.heap[g]? = some (.cells #[.int .i64 0, .int .i64 3, .int .i64 1, .int .i64 1, .int .i64 1, .int .i64 1] tg fg)) (hB : w.heap[k]? = some (.cells #[.int .i64 b.f0, .int .i64 b.f1, .int .i64 b.f2, .int .i64 b.f3, .int .i64 b.f4, .int .i64 b.f5] tk fk)) :
  Calls Try.prog 8 #[.agg #[.slice A 2 c, .slice A1 0 c1], .slice (some ⟨g, 0, none⟩) 2 2, .slice (some ⟨k, 0, none⟩) 1 1] w fun e W' => ∃ vf vs va : Value, e = .returned (.tuple #[vf, vs, va, .agg #[.int .i64 r.code, .int .i64 r.idx]]) ∧
   Below w.heap.size w W' ∧ RowD Kd.bool w.heap.size W' vf r.far ∧ RowD k54 w.heap.size W' vs r.stubs ∧ RowD (Kd.int .i64) w.heap.size W' va r.ad := by
 subst hr
 exact insert_done (os := osA) (rs := []) (items := itA) (bs := [b]) hA hc hA1 (Nat.zero_le _) (CitA hI) (Nat.le_refl _) (C48_one b hB) (Nat.le_refl _) sizes_A sizes_nil
theorem CI2 {w : World} {g : Nat} {t : TypeId} {fr : Nat × Nat} (h : w.heap[g]? = some (.cells #[.int .i64 256, .int .i64 131072] t fr)) : Kd.C (Kd.int .i64) w (some ⟨g, 0, none⟩) 2 [256, 131072] :=
 C_blk (xs := [256, 131072]) h (by decide) (fun j p hj => by
  match j, hj with
  | 0, hj =>
   have : p = 256 := by simpa using hj.symm
   subst this
   refine ⟨[.int .i64 256], rfl, rfl, fun i u hu => ?_⟩
   match i, hu with
   | 0, hu => exact hu
   | i + 1, hu => simp at hu
  | 1, hj =>
   have : p = 131072 := by simpa using hj.symm
   subst this
   refine ⟨[.int .i64 131072], rfl, rfl, fun i u hu => ?_⟩
   match i, hu with
   | 0, hu => exact hu
   | i + 1, hu => simp at hu
  | j + 2, hj => simp at hj)
theorem ints2 : linkhouseref4_Ints.f 4 [256, 131072] [256, 131072] = some true := by kernel_rfl
set_option maxHeartbeats 4000000 in
set_option maxRecDepth 100000 in
theorem inserts_calls (w : World) : Calls Try.prog 9 #[] w fun e w' => e = .returned (.bool true) ∧ Below w.heap.size w w' := by
  have hu29 := Try.underlying29
  have hu54 := Try.underlying54
  go_enter Try.func9, Try.ntmps9
  go_wp2_with (go_at_call 29; refine (apart_calls _).mono ?_)
  rintro e w1 ⟨A, c, A1, c1, rfl, hA, hc, hA1, hb1⟩
  have zi := (hb1.block w.heap.size (by simp)).trans (alloc_block w _)
  have hW1 := Aside0.mk ((below_alloc (Below.refl w.heap.size w) _).trans (hb1.mono (by simp)))
  have hs1 : w.heap.size < w1.heap.size := by have := hb1.size; simp at this; omega
  replace hA := Aside0.mk hA
  replace hA1 := Aside0.mk hA1
  replace zi := Aside0.mk zi
  clear hb1
  have hb2 : Below w1.heap.size w1 (w1.alloc (Obj.cells #[Value.int IntKind.i64 0, Value.int IntKind.i64 1, Value.int IntKind.i64 2, Value.int IntKind.i64 0, Value.int IntKind.i64 1, Value.int IntKind.i64 0] 48)) := below_alloc (Below.refl _ _) _
  have hI := insA (b := ⟨0, 1, 2, 0, 1, 0⟩) (c1 := c1) ins1 (Kd.C_below hA.out hb2) hc (Kd.C_below hA1.out hb2) ((hb2.block _ hs1).trans zi.out) (alloc_block w1 _)
  go_wp2_with (go_at_call 8; refine hI.mono ?_)
  rintro e w2 ⟨vf, vs, va, rfl, hb3, hf1, hs1', ha1⟩
  obtain ⟨Af, cf, hvf, hcf, hCf, hgf⟩ := hf1
  replace hvf : vf = .slice Af 1 cf := hvf
  obtain ⟨As, cs, hvs, hcs, hCs, hgs⟩ := hs1'
  replace hvs : vs = .slice As 1 cs := hvs
  obtain ⟨Aa, ca, hva, hca, hCa, hga⟩ := ha1
  replace hva : va = .slice Aa 2 ca := hva
  subst hvf hvs hva
  have zi2 := (hb3.block _ (by simp; omega)).trans ((hb2.block _ hs1).trans zi.out)
  have hW2 := Aside0.mk (hW1.out.trans ((hb2.trans (hb3.mono (by simp))).mono (by omega)))
  have hs2 : w1.heap.size < w2.heap.size := by have := hb3.size; simp at this; omega
  replace hCf := Aside0.mk hCf
  replace hCs := Aside0.mk hCs
  replace hCa := Aside0.mk hCa
  clear hI hb2 hb3 zi
  have hbX : Below w2.heap.size w2 (w2.alloc (Obj.cells #[Value.int IntKind.i64 0, Value.int IntKind.i64 0] 29)) := below_alloc (Below.refl _ _) _
  have hsX : (w2.alloc (Obj.cells #[Value.int IntKind.i64 0, Value.int IntKind.i64 0] 29)).heap.size = w2.heap.size + 1 := by simp
  have zf := alloc_block w2 (Obj.cells #[Value.int IntKind.i64 0, Value.int IntKind.i64 0] 29)
  go_wp2_with (go_at_call 29; refine (apart_calls _).mono ?_)
  rintro e w3 ⟨A', c', A1', c1', rfl, hA', hc', hA1', hb4⟩
  have zi3 := Aside0.mk ((hb4.block _ (by omega)).trans ((hbX.block _ (by omega)).trans zi2))
  have zf3 := Aside0.mk ((hb4.block _ (by omega)).trans zf)
  have hB3 := Aside0.mk (hbX.trans (hb4.mono (by omega)))
  have hs3 : w2.heap.size < w3.heap.size := by have := hb4.size; omega
  replace hA' := Aside0.mk hA'
  replace hA1' := Aside0.mk hA1'
  clear hb4 hbX hsX zf zi2 hA hA1
  have hb5 : Below w3.heap.size w3 (w3.alloc (Obj.cells #[Value.int IntKind.i64 0, Value.int IntKind.i64 1, Value.int IntKind.i64 2, Value.int IntKind.i64 0, Value.int IntKind.i64 0, Value.int IntKind.i64 0] 48)) := below_alloc (Below.refl _ _) _
  have hI := insA (b := ⟨0, 1, 2, 0, 0, 0⟩) (c1 := c1') ins2 (Kd.C_below hA'.out hb5) hc' (Kd.C_below hA1'.out hb5) ((hb5.block _ (by omega)).trans zi3.out) (alloc_block w3 _)
  go_wp2_with (go_at_call 8; refine hI.mono ?_)
  rintro e w4 ⟨vf, vs, va, rfl, hb6, hf2, hs2', ha2⟩
  obtain ⟨Bf, ef, hvf, hef, hDf, hgf'⟩ := hf2
  replace hvf : vf = .slice Bf 1 ef := hvf
  obtain ⟨Bs, es, hvs, hes, hDs, hgs'⟩ := hs2'
  replace hvs : vs = .slice Bs 0 es := hvs
  obtain ⟨Ba, ea, hva, hea, hDa, hga'⟩ := ha2
  replace hva : va = .slice Ba 2 ea := hva
  subst hvf hvs hva
  have hB4 := Aside0.mk (hB3.out.trans ((hb5.trans (hb6.mono (by simp))).mono (by omega)))
  have zi4 := (hb6.block _ (by simp; omega)).trans ((hb5.block _ (by omega)).trans zi3.out)
  have hs4 : w3.heap.size < w4.heap.size := by have := hb6.size; simp at this; omega
  have zf4 := Aside0.mk ((hb6.block _ (by simp; omega)).trans ((hb5.block _ (by omega)).trans zf3.out))
  replace hDf := Aside0.mk hDf
  replace hDa := Aside0.mk hDa
  clear hI hb5 hb6 zi3 hB3 hA' hA1'
  have hbX : Below w4.heap.size w4 (w4.alloc (Obj.cells #[Value.int IntKind.i64 0, Value.int IntKind.i64 0] 29)) := below_alloc (Below.refl _ _) _
  have hsX : (w4.alloc (Obj.cells #[Value.int IntKind.i64 0, Value.int IntKind.i64 0] 29)).heap.size = w4.heap.size + 1 := by simp
  have zg := alloc_block w4 (Obj.cells #[Value.int IntKind.i64 0, Value.int IntKind.i64 0] 29)
  go_wp2_with (go_at_call 29; refine (apart_calls _).mono ?_)
  rintro e w5 ⟨A'', c'', A1'', c1'', rfl, hA'', hc'', hA1'', hb7⟩
  have zi5 := Aside0.mk ((hb7.block _ (by omega)).trans ((hbX.block _ (by omega)).trans zi4))
  have zg5 := Aside0.mk ((hb7.block _ (by omega)).trans zg)
  have hB5 := Aside0.mk (hbX.trans (hb7.mono (by omega)))
  have hs5 : w4.heap.size < w5.heap.size := by have := hb7.size; omega
  have zf5 := Aside0.mk ((hb7.block _ (by omega)).trans ((hbX.block _ (by omega)).trans zf4.out))
  replace hA'' := Aside0.mk hA''
  replace hA1'' := Aside0.mk hA1''
  clear hb7 hbX hsX zg zi4
  have hb8 : Below w5.heap.size w5 (w5.alloc (Obj.cells #[Value.int IntKind.i64 0, Value.int IntKind.i64 0, Value.int IntKind.i64 1, Value.int IntKind.i64 0, Value.int IntKind.i64 0, Value.int IntKind.i64 0] 48)) := below_alloc (Below.refl _ _) _
  have hI := insA (b := ⟨0, 0, 1, 0, 0, 0⟩) (c1 := c1'') ins3 (Kd.C_below hA''.out hb8) hc'' (Kd.C_below hA1''.out hb8) ((hb8.block _ (by omega)).trans zi5.out) (alloc_block w5 _)
  go_wp2_with (go_at_call 8; refine hI.mono ?_)
  rintro e w6 ⟨vf, vs, va, rfl, hb9, hf3, hs3', ha3⟩
  have hB6 := Aside0.mk (hB5.out.trans ((hb8.trans (hb9.mono (by simp))).mono (by omega)))
  have hs6 : w5.heap.size < w6.heap.size := by have := hb9.size; simp at this; omega
  have zf6 := (hb9.block _ (by simp; omega)).trans ((hb8.block _ (by omega)).trans zf5.out)
  have zg6 := (hb9.block _ (by simp; omega)).trans ((hb8.block _ (by omega)).trans zg5.out)
  clear hI hb8 hb9 hB5 hA'' hA1'' zi5 zf3 zf4 zf5 zg5 hf3 hs3' ha3
  go_wp2_with fail
  have bX : Below w6.heap.size w6 (w6.alloc (Obj.cells #[Value.int IntKind.i64 4, Value.int IntKind.i64 1000] 29)) := below_alloc (Below.refl _ _) _
  have sX : (w6.alloc (Obj.cells #[Value.int IntKind.i64 4, Value.int IntKind.i64 1000] 29)).heap.size = w6.heap.size + 1 := by simp
  have zX := alloc_block w6 (Obj.cells #[Value.int IntKind.i64 4, Value.int IntKind.i64 1000] 29)
  have zf7 := (bX.block _ (by omega)).trans zf6
  have zg7 := (bX.block _ (by omega)).trans zg6
  replace bX := Aside0.mk bX
  generalize w6.alloc (Obj.cells #[Value.int IntKind.i64 4, Value.int IntKind.i64 1000] 29) = X at *
  have q0 := (blk_cell zf7 0).trans rfl
  have q1 := (blk_cell zg7 0).trans rfl
  have q2 := (blk_cell zX 0).trans rfl
  have q3 := (blk_cell zX 1).trans rfl
  clear zf6 zg6 zf7 zg7 zX
  have b2 : w2.heap.size < X.heap.size := by omega
  have b4 : w4.heap.size < X.heap.size := by omega
  have b6 : w6.heap.size < X.heap.size := by omega
  have HAt := Aside0.mk (fun W' => linkhouseref4_At.calls 4 1000 4 1000 W' rfl)
  go_region_held3 (fun w' => w'.cell? ⟨w2.heap.size, 0, none⟩ = some (.int .i64 0) ∧ w'.cell? ⟨w4.heap.size, 0, none⟩ = some (.int .i64 0) ∧ w'.cell? ⟨w6.heap.size, 0, none⟩ = some (.int .i64 4) ∧ w'.cell? ⟨w6.heap.size, 1, none⟩ = some (.int .i64 1000))
    (first
      | go_keep
      | (go_split_ands
         refine ⟨(hc1.cell b2).trans q0, (hc1.cell b4).trans q1, (hc1.cell b6).trans q2, (hc1.cell b6).trans q3⟩))
    (first
      | (go_at_call 21; refine (HAt.out _).mono ?_; rintro e w7 ⟨rfl, hc0⟩; have hc1 : Below X.heap.size X w7 := (below_drew (Below.refl _ _)).trans hc0))
  have hX6 := Aside0.mk (hB6.out.trans (bX.out.mono (by omega)))
  have hYX := Aside0.mk hc1
  obtain ⟨bf, of, e1, hbf, hxf⟩ := C_open hCf.out (by decide : 0 < 1) (by decide : 0 < 1) false
  obtain ⟨df, pf, e2, hdf, hyf⟩ := C_open hDf.out (by decide : 0 < 1) (by decide : 0 < 1) false
  obtain ⟨bs', os', e3, hbs, hxs⟩ := C_open hCs.out (by decide : 0 < 1) (by decide : 0 < 5) z54
  subst e1 e2 e3
  have hB7 : Below w2.heap.size w2 w7 := (hB4.out.trans (hB6.out.mono (by omega))).trans ((bX.out.trans (hc1.mono (by omega))).mono (by omega))
  have hB7' : Below w4.heap.size w4 w7 := hB6.out.trans ((bX.out.trans (hc1.mono (by omega))).mono (by omega))
  have v0 : w7.cell? ⟨bf, of, none⟩ = some (.bool true) := by
    obtain ⟨c9, h9, h8, h7⟩ := hxf 0 (by decide)
    have h8' : c9 = [.bool true] := h8
    subst h8'
    exact (hB7.cell (p := ⟨bf, of, none⟩) hbf).trans (h7 0 _ rfl)
  have v1 : w7.cell? ⟨df, pf, none⟩ = some (.bool false) := by
    obtain ⟨c9, h9, h8, h7⟩ := hyf 0 (by decide)
    have h8' : c9 = [.bool false] := h8
    subst h8'
    exact (hB7'.cell (p := ⟨df, pf, none⟩) hdf).trans (h7 0 _ rfl)
  obtain ⟨c9, h9, h8, h7⟩ := hxs 0 (by decide)
  have h8' := k54_open h8
  subst h8'
  have v2 := (hB7.cell (p := ⟨bs', os', none⟩) hbs).trans (h7 0 _ rfl)
  have v3 := (hB7.cell (p := ⟨bs', os' + 1, none⟩) hbs).trans (h7 1 _ (by rfl))
  have v4 := (hB7.cell (p := ⟨bs', os' + 2, none⟩) hbs).trans (h7 2 _ (by rfl))
  have v5 := (hB7.cell (p := ⟨bs', os' + 3, none⟩) hbs).trans (h7 3 _ (by rfl))
  have v6 := (hB7.cell (p := ⟨bs', os' + 4, none⟩) hbs).trans (h7 4 _ (by rfl))
  clear hxf hyf hxs h7 h8
  replace hB7 := Aside0.mk hB7
  replace hB7' := Aside0.mk hB7'
  go_wp2_with fail
  have bA : Below w7.heap.size w7 (w7.alloc (Obj.cells #[Value.int IntKind.i64 256, Value.int IntKind.i64 131072] 3)) := below_alloc (Below.refl _ _) _
  have hi1 := linkhouseref4_Ints.calls 4 Aa ca [256, 131072] (some ⟨w7.heap.size, 0, none⟩) 2 [256, 131072] true (w7.alloc (Obj.cells #[Value.int IntKind.i64 256, Value.int IntKind.i64 131072] 3)) (Kd.C_below (Kd.C_below hCa.out hB7.out) bA) hca (CI2 (alloc_block w7 _)) (Nat.le_refl _) ints2
  refine hi1.mono ?_
  rintro e w8 ⟨rfl, hd⟩
  obtain ⟨m, rfl⟩ := hd.out
  go_wp2_with fail
  have bB : Below w4.heap.size w4 (((w7.alloc (Obj.cells #[Value.int IntKind.i64 256, Value.int IntKind.i64 131072] 3)).drewN m)) := pw_below_drewN (hB7'.out.trans (bA.mono (by have := hB7'.out.size; omega))) _
  have hs9 : ((w7.alloc (Obj.cells #[Value.int IntKind.i64 256, Value.int IntKind.i64 131072] 3)).drewN m).heap.size = w7.heap.size + 1 := by
    show (w7.alloc (Obj.cells #[Value.int IntKind.i64 256, Value.int IntKind.i64 131072] 3)).heap.size = w7.heap.size + 1
    simp
  have hW9 : Below w.heap.size w ((w7.alloc (Obj.cells #[Value.int IntKind.i64 256, Value.int IntKind.i64 131072] 3)).drewN m) := pw_below_drewN ((hW2.out.trans (hB7.out.mono (by omega))).trans (bA.mono (by have := hB7.out.size; omega))) _
  generalize ((w7.alloc (Obj.cells #[Value.int IntKind.i64 256, Value.int IntKind.i64 131072] 3)).drewN m) = w9 at *
  have bC : Below w9.heap.size w9 (w9.alloc (Obj.cells #[Value.int IntKind.i64 256, Value.int IntKind.i64 131072] 3)) := below_alloc (Below.refl _ _) _
  have zz := alloc_block w9 (Obj.cells #[Value.int IntKind.i64 256, Value.int IntKind.i64 131072] 3)
  rw [hs9] at zz
  refine (linkhouseref4_Ints.calls 4 Ba ea [256, 131072] (some ⟨w7.heap.size + 1, 0, none⟩) 2 [256, 131072] true _ (Kd.C_below (Kd.C_below hDa.out bB) bC) hea (CI2 zz) (Nat.le_refl _) ints2).mono ?_
  rintro e w10 ⟨rfl, hd2⟩
  obtain ⟨m2, rfl⟩ := hd2.out
  have hW10 := Aside0.mk (pw_below_drewN (hW9.trans (bC.mono hW9.size)) m2)
  go_wp2
  go_ret
  exact ⟨rfl, hW10.out⟩
end Go.Proofs.Ytogcgcjhoebooaa
end
section
set_option linter.unusedVariables false
set_option linter.unusedSimpArgs false
namespace Go.Proofs.Ytogcgcjhoebooaa
open Go.RowKit Go.Proofs.YtogcgcjhoebooaaW.PrintWords Go.Proofs.Ytogcgcjhoebooaa.PVeneerMatchesSpec
theorem pass_true {items : List S57} {bs : List S48} {a : List Int} : ∀ (d i : Nat) (far : List Bool) (L : List S54), (pass items bs a d i far L true).2.2 = true
  | 0, _, _, _ => rfl
  | d + 1, i, far, L => by
    rw [pass]
    split
    · exact pass_true d (i + 1) far L
    · exact pass_true d (i + 1) _ _
theorem pass_false {items : List S57} {bs : List S48} {a : List Int} : ∀ (d i : Nat) (far : List Bool) (L : List S54), (pass items bs a d i far L false).2.2 = false →
  pass items bs a d i far L false = (far, L, false) ∧ ∀ j, i ≤ j → j < i + d → (far.getD j false || reach a (bs.getD j z48)) = true
 | 0, i, far, L, h => ⟨rfl, fun j h1 h2 => by omega⟩
 | d + 1, i, far, L, h => by
  rw [pass] at h ⊢
  by_cases c : (far.getD i false || reach a (bs.getD i z48)) = true
  ·rw [if_pos c] at h ⊢
   obtain ⟨h1, h2⟩ := pass_false d (i + 1) far L h
   refine ⟨h1, fun j hj1 hj2 => ?_⟩
   by_cases hj : j = i
   ·subst hj; exact c
   ·exact h2 j (by omega) (by omega)
  ·rw [if_neg c] at h
   rw [pass_true] at h
   cases h
end Go.Proofs.Ytogcgcjhoebooaa
end
section
set_option linter.unusedVariables false
set_option linter.unusedSimpArgs false
namespace Go.Proofs.Ytogcgcjhoebooaa
open Go.RowKit Go.Proofs.YtogcgcjhoebooaaW.PrintWords Go.Proofs.Ytogcgcjhoebooaa.PVeneerMatchesSpec
theorem pass_J {items : List S57} {bs : List S48} {a : List Int} (hob : ∀ i, i < bs.length → OkB items.length (bs.getD i z48)) : ∀ (d i : Nat) (far : List Bool) (L : List S54) (ag : Bool), i + d = bs.length → J items bs far L →
  J items bs (pass items bs a d i far L ag).1 (pass items bs a d i far L ag).2.1 ∧ far.count true ≤ (pass items bs a d i far L ag).1.count true ∧ ((pass items bs a d i far L ag).2.2 = true → ag = true ∨ far.count true < (pass items bs a d i far L ag).1.count true)
 | 0, i, far, L, ag, hi, hJ => ⟨hJ, Nat.le_refl _, fun h => .inl h⟩
 | d + 1, i, far, L, ag, hi, hJ => by
  rw [pass]
  by_cases c : (far.getD i false || reach a (bs.getD i z48)) = true
  ·rw [if_pos c]
   exact pass_J hob d (i + 1) far L ag (by omega) hJ
  ·rw [if_neg c]
   have hf : far.getD i false = false := by
    cases h : far.getD i false with
    | false => rfl
    | true => rw [h] at c; simp at c
   have hJ' := hJ.add (i := i) (by omega) hf (hob i (by omega)).f0.1
   obtain ⟨h1, h2, h3⟩ := pass_J hob d (i + 1) (far.set i true) (addStub items L (bs.getD i z48)) true (by omega) hJ'
   have hc := count_set_true far i (by rw [hJ.fl]; omega) hf
   exact ⟨h1, by omega, fun _ => .inr (by omega)⟩
structure Good (os : List S72) (items : List S57) (bs : List S48) (r : Settled) : Prop where
  j : J items bs r.far r.L
  sg : (assign os (ext items r.L)).code = 0
  ad : r.ad = (assign os (ext items r.L)).ad
  idx : r.idx = 0
  reach : ∀ i, i < bs.length → (r.far.getD i false || reach r.ad (bs.getD i z48)) = true
  ok : ∀ i, i < bs.length → checkCode bs r.ad r.far r.L i = 0
theorem settleFrom_ok {os : List S72} {items : List S57} {bs : List S48} (hob : ∀ i, i < bs.length → OkB items.length (bs.getD i z48)) : ∀ (n : Nat) (far : List Bool) (L : List S54), J items bs far L → bs.length - far.count true < n → (settleFrom os items bs n far L).code = 0 → Good os items bs (settleFrom os items bs n far L)
 | 0, far, L, hJ, hn, h => by omega
 | n + 1, far, L, hJ, hn, h => by
  rw [settleFrom] at h ⊢
  simp only at h ⊢
  by_cases c : (assign os (ext items L)).code ≠ 0
  ·rw [if_pos c] at h; exact absurd h c
  ·rw [if_neg c] at h ⊢
   obtain ⟨h1, h2, h3⟩ := pass_J (a := (assign os (ext items L)).ad) hob bs.length 0 far L false (by omega) hJ
   cases hp : (pass items bs (assign os (ext items L)).ad bs.length 0 far L false).2.2 with
   | true =>
    rw [hp] at h
    simp only [if_true] at h ⊢
    have hlt : far.count true < (pass items bs (assign os (ext items L)).ad bs.length 0 far L false).1.count true := by
     rcases h3 hp with h' | h'
     ·cases h'
     ·exact h'
    have hle := List.count_le_length (a := true) (l := (pass items bs (assign os (ext items L)).ad bs.length 0 far L false).1)
    have hfl := h1.fl
    exact settleFrom_ok hob n _ _ h1 (by omega) h
   | false =>
    obtain ⟨e, hr⟩ := pass_false _ _ _ _ hp
    rw [hp] at h
    rw [e] at h ⊢
    simp only [Bool.false_eq_true, if_false] at h ⊢
    cases hs : scan (checkCode bs (assign os (ext items L)).ad far L) bs.length 0 with
    | some ie => rw [hs] at h; exact absurd h (scan_some _ _ hs)
    | none => exact ⟨hJ, by simpa using c, rfl, rfl, fun i hi => hr i (by omega) (by omega), fun i hi => scan_none _ _ hs i (by omega) (by omega)⟩
end Go.Proofs.Ytogcgcjhoebooaa
end
section
set_option linter.unusedVariables false
set_option linter.unusedSimpArgs false
namespace Go.Proofs.Ytogcgcjhoebooaa.PVeneerMatchesSpec
open Go.RowKit Go.Proofs.YtogcgcjhoebooaaW.PrintWords Go.Proofs.YtogcgcjhoebooaaW.PrintLast Go.Proofs.YtogcgcjhoebooaaW.PrintMore
def linkhouseref3_Number.f (a0 : Int) (a1 : Int) (a2 : Int) (a3 : Int) : Option (Int × Bool) := if a0 = 2 then ((linkhouseref3_In.f (wrap64 ((wrap64 ((wrap64 (a1 + a2)) - a3)) - 2)) (-32768) 32767).bind fun t178 => (some (wrap64 ((wrap64 ((wrap64 (a1 + a2)) - a3)) - 2), t178))) else (if a0 = 3 then ((linkhouseref3_In.f (wrap64 ((wrap64 ((wrap64 (a1 + a2)) - a3)) - 1)) (-128) 127).bind fun t179 => (some (wrap64 ((wrap64 ((wrap64 (a1 + a2)) - a3)) - 1), t179))) else ((linkhouseref3_In.f (wrap64 (a1 + a2)) 0 4294967295).bind fun t180 => (some (wrap64 (a1 + a2), t180))))
set_option maxHeartbeats 8000000 in
set_option maxRecDepth 100000 in
theorem linkhouseref3_Number.calls (a0 : Int) (a1 : Int) (a2 : Int) (a3 : Int) (r1 : Int) (r2 : Bool) (w : World) (h : linkhouseref3_Number.f a0 a1 a2 a3 = some (r1, r2)) :
  Calls Try.prog 14 #[.int .i64 a0, .int .i64 a1, .int .i64 a2, .int .i64 a3] w fun e w' => e = .returned (.tuple #[.int .i64 r1, .bool r2]) ∧ Drawn0 w w' := by
 have H : (if a0 = 2 then ((linkhouseref3_In.f (wrap64 ((wrap64 ((wrap64 (a1 + a2)) - a3)) - 2)) (-32768) 32767).bind fun t178 => (some (wrap64 ((wrap64 ((wrap64 (a1 + a2)) - a3)) - 2), t178))) else (if a0 = 3 then ((linkhouseref3_In.f (wrap64 ((wrap64 ((wrap64 (a1 + a2)) - a3)) - 1)) (-128) 127).bind fun t179 => (some (wrap64 ((wrap64 ((wrap64 (a1 + a2)) - a3)) - 1), t179))) else ((linkhouseref3_In.f (wrap64 (a1 + a2)) 0 4294967295).bind fun t180 => (some (wrap64 (a1 + a2), t180))))) = some (r1, r2) := h
 clear h
 by_cases c5 : a0 = 2
 ·rw [if_pos c5] at H
  have c5b0 : (a0 == 2) = true := beq_iff_eq.mpr c5
  have c5b1 : (a0 != 2) = false := bne_eq_false_iff_eq.mpr c5
  clear c5
  replace H := Option.bind_eq_some_iff.mp H
  obtain ⟨t178, A60, H⟩ := H
  replace H : (some (wrap64 ((wrap64 ((wrap64 (a1 + a2)) - a3)) - 2), t178)) = some (r1, r2) := H
  have A6 := Aside0.mk A60
  clear A60
  simp only [Option.some.injEq, Prod.mk.injEq] at H
  obtain ⟨rfl, rfl⟩ := H
  go_enter Try.func14, Try.ntmps14
  go_wp2_with (first | ((with_reducible refine gate_callee (f := 30) rfl ?_); refine goesL_ (some 22) rfl rfl Try.func30 (by kernel_rfl) rfl #[.int .i64 (wrap64 ((wrap64 ((wrap64 (a1 + a2)) - a3)) - 2)), .int .i64 (-32768), .int .i64 32767] rfl (by (try simp only [List.map_toArray, List.map_cons, List.map_nil]); first | done | rfl | (simp only [List.length_drop, List.length_take]; rfl)) ?_; (with_reducible refine (linkhouseref3_In.calls (wrap64 ((wrap64 ((wrap64 (a1 + a2)) - a3)) - 2)) (-32768) 32767 t178 _ A6.out).mono ?_); rintro e w' ⟨rfl, ⟨nd, rfl⟩⟩; refine ⟨_, rfl, ?_⟩))
  go_ret2
  exact ⟨by first | rfl | (simp; done) | (simp [*]; done), by repeat (first | exact Drawn0.refl _ | apply Drawn0.step)⟩
 ·rw [if_neg c5] at H
  have c5b0 : (a0 == 2) = false := beq_eq_false_iff_ne.mpr c5
  have c5b1 : (a0 != 2) = true := bne_iff_ne.mpr c5
  by_cases c7 : a0 = 3
  ·rw [if_pos c7] at H
   have c7b0 : (a0 == 3) = true := beq_iff_eq.mpr c7
   have c7b1 : (a0 != 3) = false := bne_eq_false_iff_eq.mpr c7
   clear c7
   replace H := Option.bind_eq_some_iff.mp H
   obtain ⟨t179, A80, H⟩ := H
   replace H : (some (wrap64 ((wrap64 ((wrap64 (a1 + a2)) - a3)) - 1), t179)) = some (r1, r2) := H
   have A8 := Aside0.mk A80
   clear A80
   simp only [Option.some.injEq, Prod.mk.injEq] at H
   obtain ⟨rfl, rfl⟩ := H
   go_enter Try.func14, Try.ntmps14
   go_wp2_with (first | ((with_reducible refine gate_callee (f := 30) rfl ?_); refine goesL_ (some 31) rfl rfl Try.func30 (by kernel_rfl) rfl #[.int .i64 (wrap64 ((wrap64 ((wrap64 (a1 + a2)) - a3)) - 1)), .int .i64 (-128), .int .i64 127] rfl (by (try simp only [List.map_toArray, List.map_cons, List.map_nil]); first | done | rfl | (simp only [List.length_drop, List.length_take]; rfl)) ?_; (with_reducible refine (linkhouseref3_In.calls (wrap64 ((wrap64 ((wrap64 (a1 + a2)) - a3)) - 1)) (-128) 127 t179 _ A8.out).mono ?_); rintro e w' ⟨rfl, ⟨nd, rfl⟩⟩; refine ⟨_, rfl, ?_⟩))
   go_ret2
   exact ⟨by first | rfl | (simp; done) | (simp [*]; done), by repeat (first | exact Drawn0.refl _ | apply Drawn0.step)⟩
  ·rw [if_neg c7] at H
   have c7b0 : (a0 == 3) = false := beq_eq_false_iff_ne.mpr c7
   have c7b1 : (a0 != 3) = true := bne_iff_ne.mpr c7
   replace H := Option.bind_eq_some_iff.mp H
   obtain ⟨t180, A90, H⟩ := H
   replace H : (some (wrap64 (a1 + a2), t180)) = some (r1, r2) := H
   have A9 := Aside0.mk A90
   clear A90
   simp only [Option.some.injEq, Prod.mk.injEq] at H
   obtain ⟨rfl, rfl⟩ := H
   go_enter Try.func14, Try.ntmps14
   go_wp2_with (first | ((with_reducible refine gate_callee (f := 30) rfl ?_); refine goesL_ (some 34) rfl rfl Try.func30 (by kernel_rfl) rfl #[.int .i64 (wrap64 (a1 + a2)), .int .i64 0, .int .i64 4294967295] rfl (by (try simp only [List.map_toArray, List.map_cons, List.map_nil]); first | done | rfl | (simp only [List.length_drop, List.length_take]; rfl)) ?_; (with_reducible refine (linkhouseref3_In.calls (wrap64 (a1 + a2)) 0 4294967295 t180 _ A9.out).mono ?_); rintro e w' ⟨rfl, ⟨nd, rfl⟩⟩; refine ⟨_, rfl, ?_⟩))
   go_ret2
   exact ⟨by first | rfl | (simp; done) | (simp [*]; done), by repeat (first | exact Drawn0.refl _ | apply Drawn0.step)⟩
def linkhouseref4_Address.f (l0 : List Int) (a1 : Int) (a2 : Int) : Option (Int) := if a1 = (-1) then (some a2) else (if 0 ≤ a1 then (if a1 < (l0.length : Int) then (some (wrap64 ((rd l0 a1) + a2))) else (none)) else (none))
set_option maxHeartbeats 8000000 in
set_option maxRecDepth 100000 in
theorem linkhouseref4_Address.calls (A0 : Option Addr) (c0 : Nat) (l0 : List Int) (a1 : Int) (a2 : Int) (r : Int) (w : World) (hr0 : Kd.C (Kd.int .i64) w A0 l0.length l0) (hc0 : l0.length ≤ c0) (h : linkhouseref4_Address.f l0 a1 a2 = some r) :
  Calls Try.prog 15 #[.slice A0 l0.length c0, .int .i64 a1, .int .i64 a2] w fun e w' => e = .returned (.int .i64 r) ∧ Drawn0 w w' := by
 have HR0 := Aside0.mk hr0
 have HC0 := Aside0.mk hc0
 clear hr0 hc0
 have H : (if a1 = (-1) then (some a2) else (if 0 ≤ a1 then (if a1 < (l0.length : Int) then (some (wrap64 ((rd l0 a1) + a2))) else (none)) else (none))) = some r := h
 clear h
 by_cases c4 : a1 = (-1)
 ·rw [if_pos c4] at H
  have c4b0 : (a1 == (-1)) = true := beq_iff_eq.mpr c4
  have c4b1 : (a1 != (-1)) = false := bne_eq_false_iff_eq.mpr c4
  clear c4
  obtain rfl := Option.some.inj H
  go_enter Try.func15, Try.ntmps15
  go_wp2
  go_ret
  exact ⟨by first | rfl | (simp; done) | (simp [*]; done), by repeat (first | exact Drawn0.refl _ | apply Drawn0.step)⟩
 ·rw [if_neg c4] at H
  have c4b0 : (a1 == (-1)) = false := beq_eq_false_iff_ne.mpr c4
  have c4b1 : (a1 != (-1)) = true := bne_iff_ne.mpr c4
  by_cases c5 : 0 ≤ a1
  ·rw [if_pos c5] at H
   have c5b0 : decide (0 ≤ a1) = true := decide_eq_true c5
   clear c5
   by_cases c6 : a1 < (l0.length : Int)
   ·rw [if_pos c6] at H
    have c6b0 : decide (a1 < (l0.length : Int)) = true := decide_eq_true c6
    clear c6
    obtain rfl := Option.some.inj H
    have p181 : 0 ≤ (a1 : Int) := of_decide_eq_true (by first | (with_reducible assumption) | assumption)
    have q181 : a1 < (l0.length : Int) := of_decide_eq_true (by first | (with_reducible assumption) | assumption)
    obtain ⟨ad181, e181, hx181_0⟩ := Kd.at_int HR0.out a1 p181 q181
    cases e181
    replace p181 := eq_true p181
    replace q181 := eq_true q181
    go_enter Try.func15, Try.ntmps15
    go_wp2
    go_ret
    exact ⟨by first | rfl | (simp; done) | (simp [*]; done), by repeat (first | exact Drawn0.refl _ | apply Drawn0.step)⟩
   ·rw [if_neg c6] at H
    exact absurd H (by simp)
  ·rw [if_neg c5] at H
   exact absurd H (by simp)
def linkhouseref4_serves.f (a0_0 : Int) (a0_1 : Int) (a0_2 : Int) (a0_3 : Int) (a0_4 : Int) (a1_0 : Int) (a1_1 : Int) (a1_2 : Int) (a1_3 : Int) (a1_4 : Int) (a1_5 : Int) : Option (Bool) := if a0_0 = a1_0 then (if a0_2 = a1_4 then (if a0_3 = a1_5 then (some (a0_4 == a1_3)) else (some false)) else (some false)) else (some false)
set_option maxHeartbeats 8000000 in
set_option maxRecDepth 100000 in
theorem linkhouseref4_serves.calls (a0_0 : Int) (a0_1 : Int) (a0_2 : Int) (a0_3 : Int) (a0_4 : Int) (a1_0 : Int) (a1_1 : Int) (a1_2 : Int) (a1_3 : Int) (a1_4 : Int) (a1_5 : Int) (r : Bool) (w : World) (h : linkhouseref4_serves.f a0_0 a0_1 a0_2 a0_3 a0_4 a1_0 a1_1 a1_2 a1_3 a1_4 a1_5 = some r) :
  Calls Try.prog 31 #[.agg #[.int .i64 a0_0, .int .i64 a0_1, .int .i64 a0_2, .int .i64 a0_3, .int .i64 a0_4], .agg #[.int .i64 a1_0, .int .i64 a1_1, .int .i64 a1_2, .int .i64 a1_3, .int .i64 a1_4, .int .i64 a1_5]] w fun e w' => e = .returned (.bool r) ∧ Below w.heap.size w w' := by
 have hu54 := Try.underlying54
 have hu48 := Try.underlying48
 have HB := Aside0.mk (Below.refl w.heap.size w)
 have H : (if a0_0 = a1_0 then (if a0_2 = a1_4 then (if a0_3 = a1_5 then (some (a0_4 == a1_3)) else (some false)) else (some false)) else (some false)) = some r := h
 clear h
 by_cases c3 : a0_0 = a1_0
 ·rw [if_pos c3] at H
  have c3b0 : (a0_0 == a1_0) = true := beq_iff_eq.mpr c3
  have c3b1 : (a0_0 != a1_0) = false := bne_eq_false_iff_eq.mpr c3
  clear c3
  by_cases c4 : a0_2 = a1_4
  ·rw [if_pos c4] at H
   have c4b0 : (a0_2 == a1_4) = true := beq_iff_eq.mpr c4
   have c4b1 : (a0_2 != a1_4) = false := bne_eq_false_iff_eq.mpr c4
   clear c4
   by_cases c5 : a0_3 = a1_5
   ·rw [if_pos c5] at H
    have c5b0 : (a0_3 == a1_5) = true := beq_iff_eq.mpr c5
    have c5b1 : (a0_3 != a1_5) = false := bne_eq_false_iff_eq.mpr c5
    clear c5
    obtain rfl := Option.some.inj H
    go_enter Try.func31, Try.ntmps31
    go_wp2_with (first | ((with_reducible refine gate_dst (N := 2) rfl ?_); refine box_event ?hg (N := 2) ?hd (cs := #[.int .i64 a0_0, .int .i64 a0_1, .int .i64 a0_2, .int .i64 a0_3, .int .i64 a0_4]) (t := 54) ?hr ?_; (case hd => rfl); (case hg => rfl); (case hr => first | (go_simp; done) | (go_simp; rfl)); intro gb182 hg w6 hbox hb; have n0_ := Aside0.mk (below_step (by repeat (first | (with_reducible first | exact HB.out | apply below_alloc | apply pw_below_drewN | apply below_drew1) | exact HB.out)) hb); have n1_ := Aside0.mk (hbox); have n2_ := Aside0.mk ((by rw [hg]; exact (below_size (by repeat (first | (with_reducible first | exact HB.out | apply below_alloc | apply pw_below_drewN | apply below_drew1) | exact HB.out))) : w.heap.size ≤ gb182)); have n3_ := Aside0.mk ((by rw [hg]; exact (below_size (by repeat (first | (with_reducible first | exact HB.out | apply below_alloc | apply pw_below_drewN | apply below_drew1) | exact HB.out))) : w.heap.size ≤ gb182)); clear HB; have HB := n0_; have BK182 := n1_; have GW182 := n2_; have GE182 := n3_; clear n0_ n1_ n2_ n3_; clear hb hbox hg) | ((with_reducible refine gate_dst (N := 3) rfl ?_); refine box_event ?hg (N := 3) ?hd (cs := #[.int .i64 a1_0, .int .i64 a1_1, .int .i64 a1_2, .int .i64 a1_3, .int .i64 a1_4, .int .i64 a1_5]) (t := 48) ?hr ?_; (case hd => rfl); (case hg => rfl); (case hr => first | (go_simp; done) | (go_simp; rfl)); intro gb183 hg w7 hbox hb; have n0_ := Aside0.mk (blk_below (g := gb182) (o := .cells #[.int .i64 a0_0, .int .i64 a0_1, .int .i64 a0_2, .int .i64 a0_3, .int .i64 a0_4] 54 (0, 0)) (by (with_reducible repeat (first | refine blk_drewN ?_ _ | refine blk_drew ?_ | refine blk_alloc ?_ _)); exact BK182.out) hb); have n1_ := Aside0.mk (below_step (by repeat (first | (with_reducible first | exact HB.out | apply below_alloc | apply pw_below_drewN | apply below_drew1 | refine below_set ?_ GE182.out) | exact HB.out)) hb); have n2_ := Aside0.mk (hbox); have n3_ := Aside0.mk ((by rw [hg]; exact (below_size (by repeat (first | (with_reducible first | exact HB.out | apply below_alloc | apply pw_below_drewN | apply below_drew1 | refine below_set ?_ GE182.out) | exact HB.out))) : w.heap.size ≤ gb183)); have n4_ := Aside0.mk ((by rw [hg]; exact (below_size (by repeat (first | (with_reducible first | exact HB.out | apply below_alloc | apply pw_below_drewN | apply below_drew1 | refine below_set ?_ GE182.out) | exact HB.out))) : w.heap.size ≤ gb183)); have n5_ := Aside0.mk ((by rw [hg]; exact Nat.ne_of_lt (blk_lt (g := gb182) (o := .cells #[.int .i64 a0_0, .int .i64 a0_1, .int .i64 a0_2, .int .i64 a0_3, .int .i64 a0_4] 54 (0, 0)) (by (with_reducible repeat (first | refine blk_drewN ?_ _ | refine blk_drew ?_ | refine blk_alloc ?_ _)); exact BK182.out)) : gb182 ≠ gb183)); have n6_ := Aside0.mk ((by rw [hg]; exact Nat.ne_of_gt (blk_lt (g := gb182) (o := .cells #[.int .i64 a0_0, .int .i64 a0_1, .int .i64 a0_2, .int .i64 a0_3, .int .i64 a0_4] 54 (0, 0)) (by (with_reducible repeat (first | refine blk_drewN ?_ _ | refine blk_drew ?_ | refine blk_alloc ?_ _)); exact BK182.out)) : gb183 ≠ gb182)); clear BK182; clear HB; have BK182 := n0_; have HB := n1_; have BK183 := n2_; have GW183 := n3_; have GE183 := n4_; have NB182_183 := n5_; have NB183_182 := n6_; clear n0_ n1_ n2_ n3_ n4_ n5_ n6_; clear hb hbox hg; have hnb8 := NB182_183.out; have hnc8 := NB183_182.out; have hcz9_0 : w7.cell? ⟨gb182, 0, none⟩ = some (.int .i64 a0_0) := (blk_cell BK182.out 0).trans rfl; have hcz9_1 : w7.cell? ⟨gb182, 1, none⟩ = some (.int .i64 a0_1) := (blk_cell BK182.out 1).trans rfl; have hcz9_2 : w7.cell? ⟨gb182, 2, none⟩ = some (.int .i64 a0_2) := (blk_cell BK182.out 2).trans rfl; have hcz9_3 : w7.cell? ⟨gb182, 3, none⟩ = some (.int .i64 a0_3) := (blk_cell BK182.out 3).trans rfl; have hcz9_4 : w7.cell? ⟨gb182, 4, none⟩ = some (.int .i64 a0_4) := (blk_cell BK182.out 4).trans rfl; have hfz9_0 := blk_frozen BK182.out 0; have hfz9_1 := blk_frozen BK182.out 1; have hfz9_2 := blk_frozen BK182.out 2; have hfz9_3 := blk_frozen BK182.out 3; have hfz9_4 := blk_frozen BK182.out 4; have hcz10_0 : w7.cell? ⟨gb183, 0, none⟩ = some (.int .i64 a1_0) := (blk_cell BK183.out 0).trans rfl; have hcz10_1 : w7.cell? ⟨gb183, 1, none⟩ = some (.int .i64 a1_1) := (blk_cell BK183.out 1).trans rfl; have hcz10_2 : w7.cell? ⟨gb183, 2, none⟩ = some (.int .i64 a1_2) := (blk_cell BK183.out 2).trans rfl; have hcz10_3 : w7.cell? ⟨gb183, 3, none⟩ = some (.int .i64 a1_3) := (blk_cell BK183.out 3).trans rfl; have hcz10_4 : w7.cell? ⟨gb183, 4, none⟩ = some (.int .i64 a1_4) := (blk_cell BK183.out 4).trans rfl; have hcz10_5 : w7.cell? ⟨gb183, 5, none⟩ = some (.int .i64 a1_5) := (blk_cell BK183.out 5).trans rfl; have hfz10_0 := blk_frozen BK183.out 0; have hfz10_1 := blk_frozen BK183.out 1; have hfz10_2 := blk_frozen BK183.out 2; have hfz10_3 := blk_frozen BK183.out 3; have hfz10_4 := blk_frozen BK183.out 4; have hfz10_5 := blk_frozen BK183.out 5))
    go_ret
    exact ⟨by first | rfl | (simp [errW_none, errW_some] <;> rfl) | (simp [*, errW_none, errW_some] <;> rfl), by repeat (first | (with_reducible first | exact HB.out | apply below_alloc | apply pw_below_drewN | apply below_drew1 | refine below_set ?_ GE182.out | refine below_set ?_ GE183.out) | exact HB.out)⟩
   ·rw [if_neg c5] at H
    have c5b0 : (a0_3 == a1_5) = false := beq_eq_false_iff_ne.mpr c5
    have c5b1 : (a0_3 != a1_5) = true := bne_iff_ne.mpr c5
    obtain rfl := Option.some.inj H
    go_enter Try.func31, Try.ntmps31
    go_wp2_with (first | ((with_reducible refine gate_dst (N := 2) rfl ?_); refine box_event ?hg (N := 2) ?hd (cs := #[.int .i64 a0_0, .int .i64 a0_1, .int .i64 a0_2, .int .i64 a0_3, .int .i64 a0_4]) (t := 54) ?hr ?_; (case hd => rfl); (case hg => rfl); (case hr => first | (go_simp; done) | (go_simp; rfl)); intro gb182 hg w11 hbox hb; have n0_ := Aside0.mk (below_step (by repeat (first | (with_reducible first | exact HB.out | apply below_alloc | apply pw_below_drewN | apply below_drew1) | exact HB.out)) hb); have n1_ := Aside0.mk (hbox); have n2_ := Aside0.mk ((by rw [hg]; exact (below_size (by repeat (first | (with_reducible first | exact HB.out | apply below_alloc | apply pw_below_drewN | apply below_drew1) | exact HB.out))) : w.heap.size ≤ gb182)); have n3_ := Aside0.mk ((by rw [hg]; exact (below_size (by repeat (first | (with_reducible first | exact HB.out | apply below_alloc | apply pw_below_drewN | apply below_drew1) | exact HB.out))) : w.heap.size ≤ gb182)); clear HB; have HB := n0_; have BK182 := n1_; have GW182 := n2_; have GE182 := n3_; clear n0_ n1_ n2_ n3_; clear hb hbox hg) | ((with_reducible refine gate_dst (N := 3) rfl ?_); refine box_event ?hg (N := 3) ?hd (cs := #[.int .i64 a1_0, .int .i64 a1_1, .int .i64 a1_2, .int .i64 a1_3, .int .i64 a1_4, .int .i64 a1_5]) (t := 48) ?hr ?_; (case hd => rfl); (case hg => rfl); (case hr => first | (go_simp; done) | (go_simp; rfl)); intro gb183 hg w12 hbox hb; have n0_ := Aside0.mk (blk_below (g := gb182) (o := .cells #[.int .i64 a0_0, .int .i64 a0_1, .int .i64 a0_2, .int .i64 a0_3, .int .i64 a0_4] 54 (0, 0)) (by (with_reducible repeat (first | refine blk_drewN ?_ _ | refine blk_drew ?_ | refine blk_alloc ?_ _)); exact BK182.out) hb); have n1_ := Aside0.mk (below_step (by repeat (first | (with_reducible first | exact HB.out | apply below_alloc | apply pw_below_drewN | apply below_drew1 | refine below_set ?_ GE182.out) | exact HB.out)) hb); have n2_ := Aside0.mk (hbox); have n3_ := Aside0.mk ((by rw [hg]; exact (below_size (by repeat (first | (with_reducible first | exact HB.out | apply below_alloc | apply pw_below_drewN | apply below_drew1 | refine below_set ?_ GE182.out) | exact HB.out))) : w.heap.size ≤ gb183)); have n4_ := Aside0.mk ((by rw [hg]; exact (below_size (by repeat (first | (with_reducible first | exact HB.out | apply below_alloc | apply pw_below_drewN | apply below_drew1 | refine below_set ?_ GE182.out) | exact HB.out))) : w.heap.size ≤ gb183)); have n5_ := Aside0.mk ((by rw [hg]; exact Nat.ne_of_lt (blk_lt (g := gb182) (o := .cells #[.int .i64 a0_0, .int .i64 a0_1, .int .i64 a0_2, .int .i64 a0_3, .int .i64 a0_4] 54 (0, 0)) (by (with_reducible repeat (first | refine blk_drewN ?_ _ | refine blk_drew ?_ | refine blk_alloc ?_ _)); exact BK182.out)) : gb182 ≠ gb183)); have n6_ := Aside0.mk ((by rw [hg]; exact Nat.ne_of_gt (blk_lt (g := gb182) (o := .cells #[.int .i64 a0_0, .int .i64 a0_1, .int .i64 a0_2, .int .i64 a0_3, .int .i64 a0_4] 54 (0, 0)) (by (with_reducible repeat (first | refine blk_drewN ?_ _ | refine blk_drew ?_ | refine blk_alloc ?_ _)); exact BK182.out)) : gb183 ≠ gb182)); clear BK182; clear HB; have BK182 := n0_; have HB := n1_; have BK183 := n2_; have GW183 := n3_; have GE183 := n4_; have NB182_183 := n5_; have NB183_182 := n6_; clear n0_ n1_ n2_ n3_ n4_ n5_ n6_; clear hb hbox hg; have hnb13 := NB182_183.out; have hnc13 := NB183_182.out; have hcz14_0 : w12.cell? ⟨gb182, 0, none⟩ = some (.int .i64 a0_0) := (blk_cell BK182.out 0).trans rfl; have hcz14_1 : w12.cell? ⟨gb182, 1, none⟩ = some (.int .i64 a0_1) := (blk_cell BK182.out 1).trans rfl; have hcz14_2 : w12.cell? ⟨gb182, 2, none⟩ = some (.int .i64 a0_2) := (blk_cell BK182.out 2).trans rfl; have hcz14_3 : w12.cell? ⟨gb182, 3, none⟩ = some (.int .i64 a0_3) := (blk_cell BK182.out 3).trans rfl; have hcz14_4 : w12.cell? ⟨gb182, 4, none⟩ = some (.int .i64 a0_4) := (blk_cell BK182.out 4).trans rfl; have hfz14_0 := blk_frozen BK182.out 0; have hfz14_1 := blk_frozen BK182.out 1; have hfz14_2 := blk_frozen BK182.out 2; have hfz14_3 := blk_frozen BK182.out 3; have hfz14_4 := blk_frozen BK182.out 4; have hcz15_0 : w12.cell? ⟨gb183, 0, none⟩ = some (.int .i64 a1_0) := (blk_cell BK183.out 0).trans rfl; have hcz15_1 : w12.cell? ⟨gb183, 1, none⟩ = some (.int .i64 a1_1) := (blk_cell BK183.out 1).trans rfl; have hcz15_2 : w12.cell? ⟨gb183, 2, none⟩ = some (.int .i64 a1_2) := (blk_cell BK183.out 2).trans rfl; have hcz15_3 : w12.cell? ⟨gb183, 3, none⟩ = some (.int .i64 a1_3) := (blk_cell BK183.out 3).trans rfl; have hcz15_4 : w12.cell? ⟨gb183, 4, none⟩ = some (.int .i64 a1_4) := (blk_cell BK183.out 4).trans rfl; have hcz15_5 : w12.cell? ⟨gb183, 5, none⟩ = some (.int .i64 a1_5) := (blk_cell BK183.out 5).trans rfl; have hfz15_0 := blk_frozen BK183.out 0; have hfz15_1 := blk_frozen BK183.out 1; have hfz15_2 := blk_frozen BK183.out 2; have hfz15_3 := blk_frozen BK183.out 3; have hfz15_4 := blk_frozen BK183.out 4; have hfz15_5 := blk_frozen BK183.out 5))
    go_ret
    exact ⟨by first | rfl | (simp [errW_none, errW_some] <;> rfl) | (simp [*, errW_none, errW_some] <;> rfl), by repeat (first | (with_reducible first | exact HB.out | apply below_alloc | apply pw_below_drewN | apply below_drew1 | refine below_set ?_ GE182.out | refine below_set ?_ GE183.out) | exact HB.out)⟩
  ·rw [if_neg c4] at H
   have c4b0 : (a0_2 == a1_4) = false := beq_eq_false_iff_ne.mpr c4
   have c4b1 : (a0_2 != a1_4) = true := bne_iff_ne.mpr c4
   obtain rfl := Option.some.inj H
   go_enter Try.func31, Try.ntmps31
   go_wp2_with (first | ((with_reducible refine gate_dst (N := 2) rfl ?_); refine box_event ?hg (N := 2) ?hd (cs := #[.int .i64 a0_0, .int .i64 a0_1, .int .i64 a0_2, .int .i64 a0_3, .int .i64 a0_4]) (t := 54) ?hr ?_; (case hd => rfl); (case hg => rfl); (case hr => first | (go_simp; done) | (go_simp; rfl)); intro gb182 hg w16 hbox hb; have n0_ := Aside0.mk (below_step (by repeat (first | (with_reducible first | exact HB.out | apply below_alloc | apply pw_below_drewN | apply below_drew1) | exact HB.out)) hb); have n1_ := Aside0.mk (hbox); have n2_ := Aside0.mk ((by rw [hg]; exact (below_size (by repeat (first | (with_reducible first | exact HB.out | apply below_alloc | apply pw_below_drewN | apply below_drew1) | exact HB.out))) : w.heap.size ≤ gb182)); have n3_ := Aside0.mk ((by rw [hg]; exact (below_size (by repeat (first | (with_reducible first | exact HB.out | apply below_alloc | apply pw_below_drewN | apply below_drew1) | exact HB.out))) : w.heap.size ≤ gb182)); clear HB; have HB := n0_; have BK182 := n1_; have GW182 := n2_; have GE182 := n3_; clear n0_ n1_ n2_ n3_; clear hb hbox hg) | ((with_reducible refine gate_dst (N := 3) rfl ?_); refine box_event ?hg (N := 3) ?hd (cs := #[.int .i64 a1_0, .int .i64 a1_1, .int .i64 a1_2, .int .i64 a1_3, .int .i64 a1_4, .int .i64 a1_5]) (t := 48) ?hr ?_; (case hd => rfl); (case hg => rfl); (case hr => first | (go_simp; done) | (go_simp; rfl)); intro gb183 hg w17 hbox hb; have n0_ := Aside0.mk (blk_below (g := gb182) (o := .cells #[.int .i64 a0_0, .int .i64 a0_1, .int .i64 a0_2, .int .i64 a0_3, .int .i64 a0_4] 54 (0, 0)) (by (with_reducible repeat (first | refine blk_drewN ?_ _ | refine blk_drew ?_ | refine blk_alloc ?_ _)); exact BK182.out) hb); have n1_ := Aside0.mk (below_step (by repeat (first | (with_reducible first | exact HB.out | apply below_alloc | apply pw_below_drewN | apply below_drew1 | refine below_set ?_ GE182.out) | exact HB.out)) hb); have n2_ := Aside0.mk (hbox); have n3_ := Aside0.mk ((by rw [hg]; exact (below_size (by repeat (first | (with_reducible first | exact HB.out | apply below_alloc | apply pw_below_drewN | apply below_drew1 | refine below_set ?_ GE182.out) | exact HB.out))) : w.heap.size ≤ gb183)); have n4_ := Aside0.mk ((by rw [hg]; exact (below_size (by repeat (first | (with_reducible first | exact HB.out | apply below_alloc | apply pw_below_drewN | apply below_drew1 | refine below_set ?_ GE182.out) | exact HB.out))) : w.heap.size ≤ gb183)); have n5_ := Aside0.mk ((by rw [hg]; exact Nat.ne_of_lt (blk_lt (g := gb182) (o := .cells #[.int .i64 a0_0, .int .i64 a0_1, .int .i64 a0_2, .int .i64 a0_3, .int .i64 a0_4] 54 (0, 0)) (by (with_reducible repeat (first | refine blk_drewN ?_ _ | refine blk_drew ?_ | refine blk_alloc ?_ _)); exact BK182.out)) : gb182 ≠ gb183)); have n6_ := Aside0.mk ((by rw [hg]; exact Nat.ne_of_gt (blk_lt (g := gb182) (o := .cells #[.int .i64 a0_0, .int .i64 a0_1, .int .i64 a0_2, .int .i64 a0_3, .int .i64 a0_4] 54 (0, 0)) (by (with_reducible repeat (first | refine blk_drewN ?_ _ | refine blk_drew ?_ | refine blk_alloc ?_ _)); exact BK182.out)) : gb183 ≠ gb182)); clear BK182; clear HB; have BK182 := n0_; have HB := n1_; have BK183 := n2_; have GW183 := n3_; have GE183 := n4_; have NB182_183 := n5_; have NB183_182 := n6_; clear n0_ n1_ n2_ n3_ n4_ n5_ n6_; clear hb hbox hg; have hnb18 := NB182_183.out; have hnc18 := NB183_182.out; have hcz19_0 : w17.cell? ⟨gb182, 0, none⟩ = some (.int .i64 a0_0) := (blk_cell BK182.out 0).trans rfl; have hcz19_1 : w17.cell? ⟨gb182, 1, none⟩ = some (.int .i64 a0_1) := (blk_cell BK182.out 1).trans rfl; have hcz19_2 : w17.cell? ⟨gb182, 2, none⟩ = some (.int .i64 a0_2) := (blk_cell BK182.out 2).trans rfl; have hcz19_3 : w17.cell? ⟨gb182, 3, none⟩ = some (.int .i64 a0_3) := (blk_cell BK182.out 3).trans rfl; have hcz19_4 : w17.cell? ⟨gb182, 4, none⟩ = some (.int .i64 a0_4) := (blk_cell BK182.out 4).trans rfl; have hfz19_0 := blk_frozen BK182.out 0; have hfz19_1 := blk_frozen BK182.out 1; have hfz19_2 := blk_frozen BK182.out 2; have hfz19_3 := blk_frozen BK182.out 3; have hfz19_4 := blk_frozen BK182.out 4; have hcz20_0 : w17.cell? ⟨gb183, 0, none⟩ = some (.int .i64 a1_0) := (blk_cell BK183.out 0).trans rfl; have hcz20_1 : w17.cell? ⟨gb183, 1, none⟩ = some (.int .i64 a1_1) := (blk_cell BK183.out 1).trans rfl; have hcz20_2 : w17.cell? ⟨gb183, 2, none⟩ = some (.int .i64 a1_2) := (blk_cell BK183.out 2).trans rfl; have hcz20_3 : w17.cell? ⟨gb183, 3, none⟩ = some (.int .i64 a1_3) := (blk_cell BK183.out 3).trans rfl; have hcz20_4 : w17.cell? ⟨gb183, 4, none⟩ = some (.int .i64 a1_4) := (blk_cell BK183.out 4).trans rfl; have hcz20_5 : w17.cell? ⟨gb183, 5, none⟩ = some (.int .i64 a1_5) := (blk_cell BK183.out 5).trans rfl; have hfz20_0 := blk_frozen BK183.out 0; have hfz20_1 := blk_frozen BK183.out 1; have hfz20_2 := blk_frozen BK183.out 2; have hfz20_3 := blk_frozen BK183.out 3; have hfz20_4 := blk_frozen BK183.out 4; have hfz20_5 := blk_frozen BK183.out 5))
   go_ret
   exact ⟨by first | rfl | (simp [errW_none, errW_some] <;> rfl) | (simp [*, errW_none, errW_some] <;> rfl), by repeat (first | (with_reducible first | exact HB.out | apply below_alloc | apply pw_below_drewN | apply below_drew1 | refine below_set ?_ GE182.out | refine below_set ?_ GE183.out) | exact HB.out)⟩
 ·rw [if_neg c3] at H
  have c3b0 : (a0_0 == a1_0) = false := beq_eq_false_iff_ne.mpr c3
  have c3b1 : (a0_0 != a1_0) = true := bne_iff_ne.mpr c3
  obtain rfl := Option.some.inj H
  go_enter Try.func31, Try.ntmps31
  go_wp2_with (first | ((with_reducible refine gate_dst (N := 2) rfl ?_); refine box_event ?hg (N := 2) ?hd (cs := #[.int .i64 a0_0, .int .i64 a0_1, .int .i64 a0_2, .int .i64 a0_3, .int .i64 a0_4]) (t := 54) ?hr ?_; (case hd => rfl); (case hg => rfl); (case hr => first | (go_simp; done) | (go_simp; rfl)); intro gb182 hg w21 hbox hb; have n0_ := Aside0.mk (below_step (by repeat (first | (with_reducible first | exact HB.out | apply below_alloc | apply pw_below_drewN | apply below_drew1) | exact HB.out)) hb); have n1_ := Aside0.mk (hbox); have n2_ := Aside0.mk ((by rw [hg]; exact (below_size (by repeat (first | (with_reducible first | exact HB.out | apply below_alloc | apply pw_below_drewN | apply below_drew1) | exact HB.out))) : w.heap.size ≤ gb182)); have n3_ := Aside0.mk ((by rw [hg]; exact (below_size (by repeat (first | (with_reducible first | exact HB.out | apply below_alloc | apply pw_below_drewN | apply below_drew1) | exact HB.out))) : w.heap.size ≤ gb182)); clear HB; have HB := n0_; have BK182 := n1_; have GW182 := n2_; have GE182 := n3_; clear n0_ n1_ n2_ n3_; clear hb hbox hg) | ((with_reducible refine gate_dst (N := 3) rfl ?_); refine box_event ?hg (N := 3) ?hd (cs := #[.int .i64 a1_0, .int .i64 a1_1, .int .i64 a1_2, .int .i64 a1_3, .int .i64 a1_4, .int .i64 a1_5]) (t := 48) ?hr ?_; (case hd => rfl); (case hg => rfl); (case hr => first | (go_simp; done) | (go_simp; rfl)); intro gb183 hg w22 hbox hb; have n0_ := Aside0.mk (blk_below (g := gb182) (o := .cells #[.int .i64 a0_0, .int .i64 a0_1, .int .i64 a0_2, .int .i64 a0_3, .int .i64 a0_4] 54 (0, 0)) (by (with_reducible repeat (first | refine blk_drewN ?_ _ | refine blk_drew ?_ | refine blk_alloc ?_ _)); exact BK182.out) hb); have n1_ := Aside0.mk (below_step (by repeat (first | (with_reducible first | exact HB.out | apply below_alloc | apply pw_below_drewN | apply below_drew1 | refine below_set ?_ GE182.out) | exact HB.out)) hb); have n2_ := Aside0.mk (hbox); have n3_ := Aside0.mk ((by rw [hg]; exact (below_size (by repeat (first | (with_reducible first | exact HB.out | apply below_alloc | apply pw_below_drewN | apply below_drew1 | refine below_set ?_ GE182.out) | exact HB.out))) : w.heap.size ≤ gb183)); have n4_ := Aside0.mk ((by rw [hg]; exact (below_size (by repeat (first | (with_reducible first | exact HB.out | apply below_alloc | apply pw_below_drewN | apply below_drew1 | refine below_set ?_ GE182.out) | exact HB.out))) : w.heap.size ≤ gb183)); have n5_ := Aside0.mk ((by rw [hg]; exact Nat.ne_of_lt (blk_lt (g := gb182) (o := .cells #[.int .i64 a0_0, .int .i64 a0_1, .int .i64 a0_2, .int .i64 a0_3, .int .i64 a0_4] 54 (0, 0)) (by (with_reducible repeat (first | refine blk_drewN ?_ _ | refine blk_drew ?_ | refine blk_alloc ?_ _)); exact BK182.out)) : gb182 ≠ gb183)); have n6_ := Aside0.mk ((by rw [hg]; exact Nat.ne_of_gt (blk_lt (g := gb182) (o := .cells #[.int .i64 a0_0, .int .i64 a0_1, .int .i64 a0_2, .int .i64 a0_3, .int .i64 a0_4] 54 (0, 0)) (by (with_reducible repeat (first | refine blk_drewN ?_ _ | refine blk_drew ?_ | refine blk_alloc ?_ _)); exact BK182.out)) : gb183 ≠ gb182)); clear BK182; clear HB; have BK182 := n0_; have HB := n1_; have BK183 := n2_; have GW183 := n3_; have GE183 := n4_; have NB182_183 := n5_; have NB183_182 := n6_; clear n0_ n1_ n2_ n3_ n4_ n5_ n6_; clear hb hbox hg; have hnb23 := NB182_183.out; have hnc23 := NB183_182.out; have hcz24_0 : w22.cell? ⟨gb182, 0, none⟩ = some (.int .i64 a0_0) := (blk_cell BK182.out 0).trans rfl; have hcz24_1 : w22.cell? ⟨gb182, 1, none⟩ = some (.int .i64 a0_1) := (blk_cell BK182.out 1).trans rfl; have hcz24_2 : w22.cell? ⟨gb182, 2, none⟩ = some (.int .i64 a0_2) := (blk_cell BK182.out 2).trans rfl; have hcz24_3 : w22.cell? ⟨gb182, 3, none⟩ = some (.int .i64 a0_3) := (blk_cell BK182.out 3).trans rfl; have hcz24_4 : w22.cell? ⟨gb182, 4, none⟩ = some (.int .i64 a0_4) := (blk_cell BK182.out 4).trans rfl; have hfz24_0 := blk_frozen BK182.out 0; have hfz24_1 := blk_frozen BK182.out 1; have hfz24_2 := blk_frozen BK182.out 2; have hfz24_3 := blk_frozen BK182.out 3; have hfz24_4 := blk_frozen BK182.out 4; have hcz25_0 : w22.cell? ⟨gb183, 0, none⟩ = some (.int .i64 a1_0) := (blk_cell BK183.out 0).trans rfl; have hcz25_1 : w22.cell? ⟨gb183, 1, none⟩ = some (.int .i64 a1_1) := (blk_cell BK183.out 1).trans rfl; have hcz25_2 : w22.cell? ⟨gb183, 2, none⟩ = some (.int .i64 a1_2) := (blk_cell BK183.out 2).trans rfl; have hcz25_3 : w22.cell? ⟨gb183, 3, none⟩ = some (.int .i64 a1_3) := (blk_cell BK183.out 3).trans rfl; have hcz25_4 : w22.cell? ⟨gb183, 4, none⟩ = some (.int .i64 a1_4) := (blk_cell BK183.out 4).trans rfl; have hcz25_5 : w22.cell? ⟨gb183, 5, none⟩ = some (.int .i64 a1_5) := (blk_cell BK183.out 5).trans rfl; have hfz25_0 := blk_frozen BK183.out 0; have hfz25_1 := blk_frozen BK183.out 1; have hfz25_2 := blk_frozen BK183.out 2; have hfz25_3 := blk_frozen BK183.out 3; have hfz25_4 := blk_frozen BK183.out 4; have hfz25_5 := blk_frozen BK183.out 5))
  go_ret
  exact ⟨by first | rfl | (simp [errW_none, errW_some] <;> rfl) | (simp [*, errW_none, errW_some] <;> rfl), by repeat (first | (with_reducible first | exact HB.out | apply below_alloc | apply pw_below_drewN | apply below_drew1 | refine below_set ?_ GE182.out | refine below_set ?_ GE183.out) | exact HB.out)⟩
def linkhouseref4_StubFor.l0 : Nat → List (S54) → Int → Int → Int → Int → Int → Int → Int → Option (Int)
 | 0, _, _, _, _, _, _, _, _ => none
 | k + 1, x0, x5, x185000, x185001, x185002, x185003, x185004, x185005 => if x5 < (x0.length : Int) then (if 0 ≤ x5 then ((linkhouseref4_serves.f ((rd_T54 x0 x5).f0) ((rd_T54 x0 x5).f1) ((rd_T54 x0 x5).f2) ((rd_T54 x0 x5).f3) ((rd_T54 x0 x5).f4) x185000 x185001 x185002 x185003 x185004 x185005).bind fun t186 => (if t186 = true then (some x5) else (linkhouseref4_StubFor.l0 k x0 (wrap64 (x5 + 1)) x185000 x185001 x185002 x185003 x185004 x185005))) else (none)) else (some (-1))
def linkhouseref4_StubFor.f (k : Nat) (l0 : List (S54)) (a1_0 : Int) (a1_1 : Int) (a1_2 : Int) (a1_3 : Int) (a1_4 : Int) (a1_5 : Int) : Option (Int) := linkhouseref4_StubFor.l0 k l0 0 a1_0 a1_1 a1_2 a1_3 a1_4 a1_5
theorem linkhouseref4_StubFor.mono_l : ∀ k, (∀ y0 y1 y2 y3 y4 y5 y6 y7, LeO (linkhouseref4_StubFor.l0 k y0 y1 y2 y3 y4 y5 y6 y7) (linkhouseref4_StubFor.l0 (k + 1) y0 y1 y2 y3 y4 y5 y6 y7))
 | 0 => fun _ _ _ _ _ _ _ _ r h => by simp [linkhouseref4_StubFor.l0] at h
 | k + 1 => by
  have ih0 := linkhouseref4_StubFor.mono_l k
  ·intro y0 y1 y2 y3 y4 y5 y6 y7
   unfold linkhouseref4_StubFor.l0
   repeat' first
   | (with_reducible exact ih0 _ _ _ _ _ _ _ _)
   | (with_reducible exact LeO.refl _)
   | (with_reducible exact LeO.none _)
   | (with_reducible refine LeO.ite ?_ ?_)
   | (with_reducible refine LeO.bind ?_ (fun _ => ?_))
   | exact ih0 _ _ _ _ _ _ _ _
   | exact LeO.none _
   | refine LeO.ite ?_ ?_
   | refine LeO.bind ?_ (fun _ => ?_)
theorem linkhouseref4_StubFor.mono : ∀ a0 a1 a2 a3 a4 a5 a6 k, LeO (linkhouseref4_StubFor.f k a0 a1 a2 a3 a4 a5 a6) (linkhouseref4_StubFor.f (k + 1) a0 a1 a2 a3 a4 a5 a6) := by
 intro a0 a1 a2 a3 a4 a5 a6 k
 have ih0 := linkhouseref4_StubFor.mono_l k
 unfold linkhouseref4_StubFor.f
 repeat' first
   | (with_reducible exact ih0 _ _ _ _ _ _ _ _)
   | (with_reducible exact LeO.refl _)
   | (with_reducible exact LeO.none _)
   | (with_reducible refine LeO.ite ?_ ?_)
   | (with_reducible refine LeO.bind ?_ (fun _ => ?_))
   | exact ih0 _ _ _ _ _ _ _ _
   | exact LeO.none _
   | refine LeO.ite ?_ ?_
   | refine LeO.bind ?_ (fun _ => ?_)
set_option maxHeartbeats 8000000 in
set_option maxRecDepth 100000 in
theorem linkhouseref4_StubFor.calls (k : Nat) (A0 : Option Addr) (c0 : Nat) (l0 : List (S54)) (a1_0 : Int) (a1_1 : Int) (a1_2 : Int) (a1_3 : Int) (a1_4 : Int) (a1_5 : Int) (r : Int) (w : World) (hr0 : Kd.C k54 w A0 l0.length l0) (hc0 : l0.length ≤ c0) (h : linkhouseref4_StubFor.f k l0 a1_0 a1_1 a1_2 a1_3 a1_4 a1_5 = some r) :
  Calls Try.prog 16 #[.slice A0 l0.length c0, .agg #[.int .i64 a1_0, .int .i64 a1_1, .int .i64 a1_2, .int .i64 a1_3, .int .i64 a1_4, .int .i64 a1_5]] w fun e w' => e = .returned (.int .i64 r) ∧ Below w.heap.size w w' := by
 have hu48 := Try.underlying48
 have hu54 := Try.underlying54
 have HR0 := Aside0.mk hr0
 have HC0 := Aside0.mk hc0
 clear hr0 hc0
 have HB := Aside0.mk (Below.refl w.heap.size w)
 have H : (linkhouseref4_StubFor.l0 k l0 0 a1_0 a1_1 a1_2 a1_3 a1_4 a1_5) = some r := h
 clear h
 have H' := Aside0.mk H
 clear H
 go_enter Try.func16, Try.ntmps16
 go_wp2_with (first | ((with_reducible refine gate_dst (N := 3) rfl ?_); refine box_event ?hg (N := 3) ?hd (cs := #[.int .i64 a1_0, .int .i64 a1_1, .int .i64 a1_2, .int .i64 a1_3, .int .i64 a1_4, .int .i64 a1_5]) (t := 48) ?hr ?_; (case hd => rfl); (case hg => rfl); (case hr => first | (go_simp; done) | (go_simp; rfl)); intro gb184 hg w3 hbox hb; have n0_ := Aside0.mk (below_step (by repeat (first | (with_reducible first | exact HB.out | apply below_alloc | apply pw_below_drewN | apply below_drew1) | exact HB.out)) hb); have n1_ := Aside0.mk (hbox); have n2_ := Aside0.mk ((by rw [hg]; exact (below_size (by repeat (first | (with_reducible first | exact HB.out | apply below_alloc | apply pw_below_drewN | apply below_drew1) | exact HB.out))) : w.heap.size ≤ gb184)); have n3_ := Aside0.mk ((by rw [hg]; exact (below_size (by repeat (first | (with_reducible first | exact HB.out | apply below_alloc | apply pw_below_drewN | apply below_drew1) | exact HB.out))) : w.heap.size ≤ gb184)); clear HB; have HB := n0_; have BK184 := n1_; have GW184 := n2_; have GE184 := n3_; clear n0_ n1_ n2_ n3_; clear hb hbox hg))
 go_loopg [5] k (fun kq v5 w' => ∃ (x5_1 : Int), v5 = .int .i64 x5_1 ∧ Aside0 (linkhouseref4_StubFor.l0 kq l0 x5_1 a1_0 a1_1 a1_2 a1_3 a1_4 a1_5 = some r) ∧ Aside0 (kq ≤ k) ∧ Aside0 (w'.heap[gb184]? = some (.cells #[.int .i64 a1_0, .int .i64 a1_1, .int .i64 a1_2, .int .i64 a1_3, .int .i64 a1_4, .int .i64 a1_5] 48 (0, 0))) ∧ Aside0 (Below w.heap.size w w'))
 case atStart => exact ⟨(0), (by first | rfl | (simp; done) | (simp [*]; done)), H', ⟨Nat.le_refl _⟩, ⟨by (with_reducible repeat (first | refine blk_drewN ?_ _ | refine blk_drew ?_ | refine blk_alloc ?_ _)); exact BK184.out⟩, ⟨by repeat (first | (with_reducible first | exact HB.out | apply below_alloc | apply pw_below_drewN | apply below_drew1 | refine below_set ?_ GE184.out) | exact HB.out)⟩⟩
 case round =>
  clear H'
  try clear c1
  try clear p2
  obtain ⟨x5_1, rfl, HA, HK1, BK184, HB⟩ := hrel
  cases gk with
  | zero => exact absurd HA.out (by simp [linkhouseref4_StubFor.l0])
  | succ k1 =>
   have H := HA.out
   clear HA
   simp only [linkhouseref4_StubFor.l0] at H
   by_cases c4 : x5_1 < (l0.length : Int)
   ·rw [if_pos c4] at H
    have c4b0 : decide (x5_1 < (l0.length : Int)) = true := decide_eq_true c4
    clear c4
    by_cases c5 : 0 ≤ x5_1
    ·rw [if_pos c5] at H
     have c5b0 : decide (0 ≤ x5_1) = true := decide_eq_true c5
     clear c5
     replace H := Option.bind_eq_some_iff.mp H
     obtain ⟨t186, A60, H⟩ := H
     replace H : (if t186 = true then (some x5_1) else (linkhouseref4_StubFor.l0 k1 l0 (wrap64 (x5_1 + 1)) a1_0 a1_1 a1_2 a1_3 a1_4 a1_5)) = some r := H
     have A6 := Aside0.mk A60
     clear A60
     by_cases c7 : t186 = true
     ·subst c7
      have H1 : (some x5_1) = some r := by rw [if_pos rfl] at H; exact H
      clear H
      have H := H1
      clear H1
      obtain rfl := Option.some.inj H
      try go_wp2
      have n0_ := Aside0.mk (blk_drew BK184.out)
      have n1_ := Aside0.mk (below_drew1 HB.out)
      clear BK184
      clear HB
      have BK184 := n0_
      have HB := n1_
      clear n0_ n1_
      have p185 : 0 ≤ (x5_1 : Int) := of_decide_eq_true (by first | (with_reducible assumption) | assumption)
      have q185 : x5_1 < (l0.length : Int) := of_decide_eq_true (by first | (with_reducible assumption) | assumption)
      obtain ⟨ad185, e185, hx185_0, hx185_1, hx185_2, hx185_3, hx185_4⟩ := at_T54 HR0.out x5_1 p185 q185
      have hw185_4 := hx185_4
      have hw185_3 := hx185_3
      have hw185_2 := hx185_2
      have hw185_1 := hx185_1
      have hw185_0 := hx185_0
      cases e185
      replace hx185_0 := (HB.out.cell (World.block_lt_of_cell? w _ hx185_0)).trans hx185_0
      replace hx185_1 := (HB.out.cell (World.block_lt_of_cell? w _ hx185_1)).trans hx185_1
      replace hx185_2 := (HB.out.cell (World.block_lt_of_cell? w _ hx185_2)).trans hx185_2
      replace hx185_3 := (HB.out.cell (World.block_lt_of_cell? w _ hx185_3)).trans hx185_3
      replace hx185_4 := (HB.out.cell (World.block_lt_of_cell? w _ hx185_4)).trans hx185_4
      replace p185 := eq_true p185
      replace q185 := eq_true q185
      refine start_ (n := 6) (S := fun w' => w'.cell? ⟨gb184, 0, none⟩ = some (.int .i64 a1_0) ∧ w'.cell? ⟨gb184, 1, none⟩ = some (.int .i64 a1_1) ∧ w'.cell? ⟨gb184, 2, none⟩ = some (.int .i64 a1_2) ∧ w'.cell? ⟨gb184, 3, none⟩ = some (.int .i64 a1_3) ∧ w'.cell? ⟨gb184, 4, none⟩ = some (.int .i64 a1_4) ∧ w'.cell? ⟨gb184, 5, none⟩ = some (.int .i64 a1_5) ∧ w'.cell? (ad185.add ((x5_1).toNat * 5)) = some (.int .i64 ((rd_T54 l0 x5_1).f0)) ∧ w'.cell? ⟨(ad185.add ((x5_1).toNat * 5)).block, (ad185.add ((x5_1).toNat * 5)).off + 1, none⟩ = some (.int .i64 ((rd_T54 l0 x5_1).f1)) ∧ w'.cell? ⟨(ad185.add ((x5_1).toNat * 5)).block, (ad185.add ((x5_1).toNat * 5)).off + 2, none⟩ = some (.int .i64 ((rd_T54 l0 x5_1).f2)) ∧ w'.cell? ⟨(ad185.add ((x5_1).toNat * 5)).block, (ad185.add ((x5_1).toNat * 5)).off + 3, none⟩ = some (.int .i64 ((rd_T54 l0 x5_1).f3)) ∧ w'.cell? ⟨(ad185.add ((x5_1).toNat * 5)).block, (ad185.add ((x5_1).toNat * 5)).off + 4, none⟩ = some (.int .i64 ((rd_T54 l0 x5_1).f4))) (ds := []) #[false, false, false, false, false, false] (by kernel_rfl) rfl rfl ⟨(blk_cell BK184.out 0).trans rfl, (blk_cell BK184.out 1).trans rfl, (blk_cell BK184.out 2).trans rfl, (blk_cell BK184.out 3).trans rfl, (blk_cell BK184.out 4).trans rfl, (blk_cell BK184.out 5).trans rfl, ((HB.out.cell (World.block_lt_of_cell? w _ hw185_0)).trans hw185_0), ((HB.out.cell (World.block_lt_of_cell? w _ hw185_1)).trans hw185_1), ((HB.out.cell (World.block_lt_of_cell? w _ hw185_2)).trans hw185_2), ((HB.out.cell (World.block_lt_of_cell? w _ hw185_3)).trans hw185_3), ((HB.out.cell (World.block_lt_of_cell? w _ hw185_4)).trans hw185_4)⟩ (fun hHeld => ?_)
      generalize wr.drew = w8 at BK184 HB hx185_0 hx185_1 hx185_2 hx185_3 hx185_4 hHeld ⊢
      refine pure_ (i := 0) (N := some 12) (v := ?_) (a' := ?_) #[true, false, false, false, false, false] rfl rfl (by kernel_rfl) (fun _ _ _ h => h) (Or.inl ⟨by rfl, ?_⟩) ?_ ?_
      rotate_left
      ·intro w'
       go_simp
       with_reducible rfl
      rotate_left
      ·simp only [Act.put, List.setIfInBounds_toArray, List.set_cons_zero, List.set_cons_succ, i64_w, i32_w]
       rfl
      refine pure_ (i := 1) (N := some 13) (v := ?_) (a' := ?_) #[true, true, false, false, false, false] rfl rfl (by kernel_rfl) (fun _ _ _ h => h) (Or.inl ⟨by rfl, ?_⟩) ?_ ?_
      rotate_left
      ·intro w'
       go_simp
       with_reducible rfl
      rotate_left
      ·simp only [Act.put, List.setIfInBounds_toArray, List.set_cons_zero, List.set_cons_succ, i64_w, i32_w]
       rfl
      refine pure_ (i := 2) (N := some 14) (v := ?_) (a' := ?_) #[true, true, true, false, false, false] rfl rfl (by kernel_rfl) (fun _ _ _ h => h) (Or.inl ⟨by rfl, ?_⟩) ?_ ?_
      rotate_left
      ·intro w'
       go_simp
       with_reducible rfl
      rotate_left
      ·simp only [Act.put, List.setIfInBounds_toArray, List.set_cons_zero, List.set_cons_succ, i64_w, i32_w]
       rfl
      refine take_ (i := 3) (N := some 15) (v := ?_) (a' := ?_) #[true, true, true, true, false, false] rfl rfl (by kernel_rfl) (fun _ _ _ h => h) (Or.inl ⟨by rfl, ?_⟩) hHeld ?_ ?_
      rotate_left
      ·rintro w' ⟨s0, s1, s2, s3, s4, s5, s6, s7, s8, s9, s10⟩
       go_simp
       with_reducible rfl
      rotate_left
      ·simp only [Act.put, List.setIfInBounds_toArray, List.set_cons_zero, List.set_cons_succ, i64_w, i32_w]
       rfl
      refine take_ (i := 4) (N := some 16) (v := ?_) (a' := ?_) #[true, true, true, true, true, false] rfl rfl (by kernel_rfl) (fun _ _ _ h => h) (Or.inl ⟨by rfl, ?_⟩) hHeld ?_ ?_
      rotate_left
      ·rintro w' ⟨s0, s1, s2, s3, s4, s5, s6, s7, s8, s9, s10⟩
       go_simp
       with_reducible rfl
      rotate_left
      ·simp only [Act.put, List.setIfInBounds_toArray, List.set_cons_zero, List.set_cons_succ, i64_w, i32_w]
       rfl
      refine one_ (i := 5) (N := some 17) #[true, true, true, true, true, true] rfl rfl (by kernel_rfl) (by decide) (fun K hK => ?_)
      refine goes_ Try.func31 (by kernel_rfl) rfl #[.agg #[.int .i64 ((rd_T54 l0 x5_1).f0), .int .i64 ((rd_T54 l0 x5_1).f1), .int .i64 ((rd_T54 l0 x5_1).f2), .int .i64 ((rd_T54 l0 x5_1).f3), .int .i64 ((rd_T54 l0 x5_1).f4)], .agg #[.int .i64 a1_0, .int .i64 a1_1, .int .i64 a1_2, .int .i64 a1_3, .int .i64 a1_4, .int .i64 a1_5]] (by rfl) rfl rfl (by (try simp only [List.map_toArray, List.map_cons, List.map_nil]); first | done | rfl | (simp only [List.length_drop, List.length_take]; rfl)) ?_
      with_reducible refine (linkhouseref4_serves.calls ((rd_T54 l0 x5_1).f0) ((rd_T54 l0 x5_1).f1) ((rd_T54 l0 x5_1).f2) ((rd_T54 l0 x5_1).f3) ((rd_T54 l0 x5_1).f4) a1_0 a1_1 a1_2 a1_3 a1_4 a1_5 true _ A6.out).mono ?_
      rintro e w9 ⟨rfl, hb⟩
      refine ⟨_, rfl, ?_⟩
      have n0_ := Aside0.mk (blk_below (g := gb184) (o := .cells #[.int .i64 a1_0, .int .i64 a1_1, .int .i64 a1_2, .int .i64 a1_3, .int .i64 a1_4, .int .i64 a1_5] 48 (0, 0)) (by (with_reducible repeat (first | refine blk_drewN ?_ _ | refine blk_drew ?_ | refine blk_alloc ?_ _)); exact BK184.out) hb)
      have n1_ := Aside0.mk (below_step (by repeat (first | (with_reducible first | exact HB.out | apply below_alloc | apply pw_below_drewN | apply below_drew1 | refine below_set ?_ GE184.out) | exact HB.out)) hb)
      clear BK184
      clear HB
      have BK184 := n0_
      have HB := n1_
      clear n0_ n1_
      (try clear hb)
      (try clear hb2)
      (try clear hk)
      (try clear hi)
      refine hK.out _ _ ⟨(blk_cell BK184.out 0).trans rfl, (blk_cell BK184.out 1).trans rfl, (blk_cell BK184.out 2).trans rfl, (blk_cell BK184.out 3).trans rfl, (blk_cell BK184.out 4).trans rfl, (blk_cell BK184.out 5).trans rfl, ((HB.out.cell (World.block_lt_of_cell? w _ hw185_0)).trans hw185_0), ((HB.out.cell (World.block_lt_of_cell? w _ hw185_1)).trans hw185_1), ((HB.out.cell (World.block_lt_of_cell? w _ hw185_2)).trans hw185_2), ((HB.out.cell (World.block_lt_of_cell? w _ hw185_3)).trans hw185_3), ((HB.out.cell (World.block_lt_of_cell? w _ hw185_4)).trans hw185_4)⟩ (fun hHeld => ?_)
      clear hK K
      refine norm_ (a' := ?_) ?_ ?_
      rotate_left
      ·show Act.put _ (some 17) _ = _
       simp only [Act.put, List.setIfInBounds_toArray, List.set_cons_zero, List.set_cons_succ, i64_w, i32_w]
       rfl
      refine done_ (by kernel_rfl) ?_
      try go_wp2
      go_ret
      exact ⟨by first | rfl | (simp [errW_none, errW_some] <;> rfl) | (simp [*, errW_none, errW_some] <;> rfl), by repeat (first | (with_reducible first | exact HB.out | apply below_alloc | apply pw_below_drewN | apply below_drew1 | refine below_set ?_ GE184.out) | exact HB.out)⟩
     ·replace c7 := Bool.eq_false_iff.mpr c7
      subst c7
      have H1 : (linkhouseref4_StubFor.l0 k1 l0 (wrap64 (x5_1 + 1)) a1_0 a1_1 a1_2 a1_3 a1_4 a1_5) = some r := by rw [if_neg (show ¬ (false = true) by decide)] at H; exact H
      clear H
      have H := H1
      clear H1
      have H' := Aside0.mk H
      clear H
      try go_wp2
      have n0_ := Aside0.mk (blk_drew BK184.out)
      have n1_ := Aside0.mk (below_drew1 HB.out)
      clear BK184
      clear HB
      have BK184 := n0_
      have HB := n1_
      clear n0_ n1_
      have p185 : 0 ≤ (x5_1 : Int) := of_decide_eq_true (by first | (with_reducible assumption) | assumption)
      have q185 : x5_1 < (l0.length : Int) := of_decide_eq_true (by first | (with_reducible assumption) | assumption)
      obtain ⟨ad185, e185, hx185_0, hx185_1, hx185_2, hx185_3, hx185_4⟩ := at_T54 HR0.out x5_1 p185 q185
      have hw185_4 := hx185_4
      have hw185_3 := hx185_3
      have hw185_2 := hx185_2
      have hw185_1 := hx185_1
      have hw185_0 := hx185_0
      cases e185
      replace hx185_0 := (HB.out.cell (World.block_lt_of_cell? w _ hx185_0)).trans hx185_0
      replace hx185_1 := (HB.out.cell (World.block_lt_of_cell? w _ hx185_1)).trans hx185_1
      replace hx185_2 := (HB.out.cell (World.block_lt_of_cell? w _ hx185_2)).trans hx185_2
      replace hx185_3 := (HB.out.cell (World.block_lt_of_cell? w _ hx185_3)).trans hx185_3
      replace hx185_4 := (HB.out.cell (World.block_lt_of_cell? w _ hx185_4)).trans hx185_4
      replace p185 := eq_true p185
      replace q185 := eq_true q185
      refine start_ (n := 6) (S := fun w' => w'.cell? ⟨gb184, 0, none⟩ = some (.int .i64 a1_0) ∧ w'.cell? ⟨gb184, 1, none⟩ = some (.int .i64 a1_1) ∧ w'.cell? ⟨gb184, 2, none⟩ = some (.int .i64 a1_2) ∧ w'.cell? ⟨gb184, 3, none⟩ = some (.int .i64 a1_3) ∧ w'.cell? ⟨gb184, 4, none⟩ = some (.int .i64 a1_4) ∧ w'.cell? ⟨gb184, 5, none⟩ = some (.int .i64 a1_5) ∧ w'.cell? (ad185.add ((x5_1).toNat * 5)) = some (.int .i64 ((rd_T54 l0 x5_1).f0)) ∧ w'.cell? ⟨(ad185.add ((x5_1).toNat * 5)).block, (ad185.add ((x5_1).toNat * 5)).off + 1, none⟩ = some (.int .i64 ((rd_T54 l0 x5_1).f1)) ∧ w'.cell? ⟨(ad185.add ((x5_1).toNat * 5)).block, (ad185.add ((x5_1).toNat * 5)).off + 2, none⟩ = some (.int .i64 ((rd_T54 l0 x5_1).f2)) ∧ w'.cell? ⟨(ad185.add ((x5_1).toNat * 5)).block, (ad185.add ((x5_1).toNat * 5)).off + 3, none⟩ = some (.int .i64 ((rd_T54 l0 x5_1).f3)) ∧ w'.cell? ⟨(ad185.add ((x5_1).toNat * 5)).block, (ad185.add ((x5_1).toNat * 5)).off + 4, none⟩ = some (.int .i64 ((rd_T54 l0 x5_1).f4))) (ds := []) #[false, false, false, false, false, false] (by kernel_rfl) rfl rfl ⟨(blk_cell BK184.out 0).trans rfl, (blk_cell BK184.out 1).trans rfl, (blk_cell BK184.out 2).trans rfl, (blk_cell BK184.out 3).trans rfl, (blk_cell BK184.out 4).trans rfl, (blk_cell BK184.out 5).trans rfl, ((HB.out.cell (World.block_lt_of_cell? w _ hw185_0)).trans hw185_0), ((HB.out.cell (World.block_lt_of_cell? w _ hw185_1)).trans hw185_1), ((HB.out.cell (World.block_lt_of_cell? w _ hw185_2)).trans hw185_2), ((HB.out.cell (World.block_lt_of_cell? w _ hw185_3)).trans hw185_3), ((HB.out.cell (World.block_lt_of_cell? w _ hw185_4)).trans hw185_4)⟩ (fun hHeld => ?_)
      generalize wr.drew = w10 at BK184 HB hx185_0 hx185_1 hx185_2 hx185_3 hx185_4 hHeld ⊢
      refine pure_ (i := 0) (N := some 12) (v := ?_) (a' := ?_) #[true, false, false, false, false, false] rfl rfl (by kernel_rfl) (fun _ _ _ h => h) (Or.inl ⟨by rfl, ?_⟩) ?_ ?_
      rotate_left
      ·intro w'
       go_simp
       with_reducible rfl
      rotate_left
      ·simp only [Act.put, List.setIfInBounds_toArray, List.set_cons_zero, List.set_cons_succ, i64_w, i32_w]
       rfl
      refine pure_ (i := 1) (N := some 13) (v := ?_) (a' := ?_) #[true, true, false, false, false, false] rfl rfl (by kernel_rfl) (fun _ _ _ h => h) (Or.inl ⟨by rfl, ?_⟩) ?_ ?_
      rotate_left
      ·intro w'
       go_simp
       with_reducible rfl
      rotate_left
      ·simp only [Act.put, List.setIfInBounds_toArray, List.set_cons_zero, List.set_cons_succ, i64_w, i32_w]
       rfl
      refine pure_ (i := 2) (N := some 14) (v := ?_) (a' := ?_) #[true, true, true, false, false, false] rfl rfl (by kernel_rfl) (fun _ _ _ h => h) (Or.inl ⟨by rfl, ?_⟩) ?_ ?_
      rotate_left
      ·intro w'
       go_simp
       with_reducible rfl
      rotate_left
      ·simp only [Act.put, List.setIfInBounds_toArray, List.set_cons_zero, List.set_cons_succ, i64_w, i32_w]
       rfl
      refine take_ (i := 3) (N := some 15) (v := ?_) (a' := ?_) #[true, true, true, true, false, false] rfl rfl (by kernel_rfl) (fun _ _ _ h => h) (Or.inl ⟨by rfl, ?_⟩) hHeld ?_ ?_
      rotate_left
      ·rintro w' ⟨s0, s1, s2, s3, s4, s5, s6, s7, s8, s9, s10⟩
       go_simp
       with_reducible rfl
      rotate_left
      ·simp only [Act.put, List.setIfInBounds_toArray, List.set_cons_zero, List.set_cons_succ, i64_w, i32_w]
       rfl
      refine take_ (i := 4) (N := some 16) (v := ?_) (a' := ?_) #[true, true, true, true, true, false] rfl rfl (by kernel_rfl) (fun _ _ _ h => h) (Or.inl ⟨by rfl, ?_⟩) hHeld ?_ ?_
      rotate_left
      ·rintro w' ⟨s0, s1, s2, s3, s4, s5, s6, s7, s8, s9, s10⟩
       go_simp
       with_reducible rfl
      rotate_left
      ·simp only [Act.put, List.setIfInBounds_toArray, List.set_cons_zero, List.set_cons_succ, i64_w, i32_w]
       rfl
      refine one_ (i := 5) (N := some 17) #[true, true, true, true, true, true] rfl rfl (by kernel_rfl) (by decide) (fun K hK => ?_)
      refine goes_ Try.func31 (by kernel_rfl) rfl #[.agg #[.int .i64 ((rd_T54 l0 x5_1).f0), .int .i64 ((rd_T54 l0 x5_1).f1), .int .i64 ((rd_T54 l0 x5_1).f2), .int .i64 ((rd_T54 l0 x5_1).f3), .int .i64 ((rd_T54 l0 x5_1).f4)], .agg #[.int .i64 a1_0, .int .i64 a1_1, .int .i64 a1_2, .int .i64 a1_3, .int .i64 a1_4, .int .i64 a1_5]] (by rfl) rfl rfl (by (try simp only [List.map_toArray, List.map_cons, List.map_nil]); first | done | rfl | (simp only [List.length_drop, List.length_take]; rfl)) ?_
      with_reducible refine (linkhouseref4_serves.calls ((rd_T54 l0 x5_1).f0) ((rd_T54 l0 x5_1).f1) ((rd_T54 l0 x5_1).f2) ((rd_T54 l0 x5_1).f3) ((rd_T54 l0 x5_1).f4) a1_0 a1_1 a1_2 a1_3 a1_4 a1_5 false _ A6.out).mono ?_
      rintro e w11 ⟨rfl, hb⟩
      refine ⟨_, rfl, ?_⟩
      have n0_ := Aside0.mk (blk_below (g := gb184) (o := .cells #[.int .i64 a1_0, .int .i64 a1_1, .int .i64 a1_2, .int .i64 a1_3, .int .i64 a1_4, .int .i64 a1_5] 48 (0, 0)) (by (with_reducible repeat (first | refine blk_drewN ?_ _ | refine blk_drew ?_ | refine blk_alloc ?_ _)); exact BK184.out) hb)
      have n1_ := Aside0.mk (below_step (by repeat (first | (with_reducible first | exact HB.out | apply below_alloc | apply pw_below_drewN | apply below_drew1 | refine below_set ?_ GE184.out) | exact HB.out)) hb)
      clear BK184
      clear HB
      have BK184 := n0_
      have HB := n1_
      clear n0_ n1_
      (try clear hb)
      (try clear hb2)
      (try clear hk)
      (try clear hi)
      refine hK.out _ _ ⟨(blk_cell BK184.out 0).trans rfl, (blk_cell BK184.out 1).trans rfl, (blk_cell BK184.out 2).trans rfl, (blk_cell BK184.out 3).trans rfl, (blk_cell BK184.out 4).trans rfl, (blk_cell BK184.out 5).trans rfl, ((HB.out.cell (World.block_lt_of_cell? w _ hw185_0)).trans hw185_0), ((HB.out.cell (World.block_lt_of_cell? w _ hw185_1)).trans hw185_1), ((HB.out.cell (World.block_lt_of_cell? w _ hw185_2)).trans hw185_2), ((HB.out.cell (World.block_lt_of_cell? w _ hw185_3)).trans hw185_3), ((HB.out.cell (World.block_lt_of_cell? w _ hw185_4)).trans hw185_4)⟩ (fun hHeld => ?_)
      clear hK K
      refine norm_ (a' := ?_) ?_ ?_
      rotate_left
      ·show Act.put _ (some 17) _ = _
       simp only [Act.put, List.setIfInBounds_toArray, List.set_cons_zero, List.set_cons_succ, i64_w, i32_w]
       rfl
      refine done_ (by kernel_rfl) ?_
      try go_wp2
      go_roundg k1
      case measure => have := HK1.out; omega
      case rel => exact ⟨(wrap64 (x5_1 + 1)), (by first | rfl | (simp; done) | (simp [*]; done)), H', ⟨by have := HK1.out; omega⟩, ⟨by (with_reducible repeat (first | refine blk_drewN ?_ _ | refine blk_drew ?_ | refine blk_alloc ?_ _)); exact BK184.out⟩, ⟨by repeat (first | (with_reducible first | exact HB.out | apply below_alloc | apply pw_below_drewN | apply below_drew1 | refine below_set ?_ GE184.out) | exact HB.out)⟩⟩
    ·rw [if_neg c5] at H
     exact absurd H (by simp)
   ·rw [if_neg c4] at H
    have c4b0 : decide (x5_1 < (l0.length : Int)) = false := decide_eq_false c4
    clear c4
    obtain rfl := Option.some.inj H
    go_wp2
    go_ret
    exact ⟨by first | rfl | (simp [errW_none, errW_some] <;> rfl) | (simp [*, errW_none, errW_some] <;> rfl), by repeat (first | (with_reducible first | exact HB.out | apply below_alloc | apply pw_below_drewN | apply below_drew1 | refine below_set ?_ GE184.out) | exact HB.out)⟩
def linkhouseref3_Round.l0 : Nat → Int → Int → Option (Int)
  | 0, _, _ => none
  | k + 1, x0, x1 => if x1 = 0 then (none) else (if (Int.tmod x0 x1) = 0 then (some x0) else (linkhouseref3_Round.l0 k (wrap64 (x0 + 1)) x1))
def linkhouseref3_Round.f (k : Nat) (a0 : Int) (a1 : Int) : Option (Int) := linkhouseref3_Round.l0 k a0 a1
theorem linkhouseref3_Round.mono_l : ∀ k, (∀ y0 y1, LeO (linkhouseref3_Round.l0 k y0 y1) (linkhouseref3_Round.l0 (k + 1) y0 y1))
 | 0 => fun _ _ r h => by simp [linkhouseref3_Round.l0] at h
 | k + 1 => by
  have ih0 := linkhouseref3_Round.mono_l k
  ·intro y0 y1
   unfold linkhouseref3_Round.l0
   repeat' first
   | (with_reducible exact ih0 _ _)
   | (with_reducible exact LeO.refl _)
   | (with_reducible exact LeO.none _)
   | (with_reducible refine LeO.ite ?_ ?_)
   | (with_reducible refine LeO.bind ?_ (fun _ => ?_))
   | exact ih0 _ _
   | exact LeO.none _
   | refine LeO.ite ?_ ?_
   | refine LeO.bind ?_ (fun _ => ?_)
theorem linkhouseref3_Round.mono : ∀ a0 a1 k, LeO (linkhouseref3_Round.f k a0 a1) (linkhouseref3_Round.f (k + 1) a0 a1) := by
 intro a0 a1 k
 have ih0 := linkhouseref3_Round.mono_l k
 unfold linkhouseref3_Round.f
 repeat' first
   | (with_reducible exact ih0 _ _)
   | (with_reducible exact LeO.refl _)
   | (with_reducible exact LeO.none _)
   | (with_reducible refine LeO.ite ?_ ?_)
   | (with_reducible refine LeO.bind ?_ (fun _ => ?_))
   | exact ih0 _ _
   | exact LeO.none _
   | refine LeO.ite ?_ ?_
   | refine LeO.bind ?_ (fun _ => ?_)
set_option maxHeartbeats 8000000 in
set_option maxRecDepth 100000 in
theorem linkhouseref3_Round.calls (k : Nat) (a0 : Int) (a1 : Int) (r : Int) (w : World) (h : linkhouseref3_Round.f k a0 a1 = some r) :
  Calls Try.prog 38 #[.int .i64 a0, .int .i64 a1] w fun e w' => e = .returned (.int .i64 r) ∧ Drawn0 w w' := by
 have H : (linkhouseref3_Round.l0 k a0 a1) = some r := h
 clear h
 have H' := Aside0.mk H
 clear H
 go_enter Try.func38, Try.ntmps38
 go_wp2
 go_loopg [0] k (fun kq v0 w' => ∃ (x0_1 : Int), v0 = .int .i64 x0_1 ∧ Aside0 (linkhouseref3_Round.l0 kq x0_1 a1 = some r) ∧ Aside0 (kq ≤ k) ∧ Drawn0 w w')
 case atStart => exact ⟨(a0), (by first | rfl | (simp; done) | (simp [*]; done)), H', ⟨Nat.le_refl _⟩, by repeat (first | exact Drawn0.refl _ | apply Drawn0.step)⟩
 case round =>
  clear H'
  try clear p2
  obtain ⟨x0_1, rfl, HA, HK1, ⟨m1, rfl⟩⟩ := hrel
  cases gk with
  | zero => exact absurd HA.out (by simp [linkhouseref3_Round.l0])
  | succ k1 =>
   have H := HA.out
   clear HA
   simp only [linkhouseref3_Round.l0] at H
   by_cases c3 : a1 = 0
   ·rw [if_pos c3] at H
    exact absurd H (by simp)
   ·rw [if_neg c3] at H
    have c3b0 : (a1 == 0) = false := beq_eq_false_iff_ne.mpr c3
    have c3b1 : (a1 != 0) = true := bne_iff_ne.mpr c3
    by_cases c4 : (Int.tmod x0_1 a1) = 0
    ·rw [if_pos c4] at H
     have c4b0 : ((Int.tmod x0_1 a1) == 0) = true := beq_iff_eq.mpr c4
     have c4b1 : ((Int.tmod x0_1 a1) != 0) = false := bne_eq_false_iff_eq.mpr c4
     clear c4
     obtain rfl := Option.some.inj H
     go_wp2
     go_ret
     exact ⟨by first | rfl | (simp; done) | (simp [*]; done), by repeat (first | exact Drawn0.refl _ | apply Drawn0.step)⟩
    ·rw [if_neg c4] at H
     have c4b0 : ((Int.tmod x0_1 a1) == 0) = false := beq_eq_false_iff_ne.mpr c4
     have c4b1 : ((Int.tmod x0_1 a1) != 0) = true := bne_iff_ne.mpr c4
     have H' := Aside0.mk H
     clear H
     go_wp2
     go_roundg k1
     case measure => have := HK1.out; omega
     case rel => exact ⟨(wrap64 (x0_1 + 1)), (by first | rfl | (simp; done) | (simp [*]; done)), H', ⟨by have := HK1.out; omega⟩, by repeat (first | exact Drawn0.refl _ | apply Drawn0.step)⟩
end Go.Proofs.Ytogcgcjhoebooaa.PVeneerMatchesSpec
end
section
set_option linter.unusedVariables false
set_option linter.unusedSimpArgs false
namespace Go.Proofs.Ytogcgcjhoebooaa
open Go.RowKit Go.Proofs.YtogcgcjhoebooaaW.PrintWords Go.Proofs.Ytogcgcjhoebooaa.PVeneerMatchesSpec
theorem in3_plain (a b c : Int) : linkhouseref3_In.f a b c = some (decide (b ≤ a ∧ a ≤ c)) := by
  unfold linkhouseref3_In.f
  by_cases h : a ≥ b
  · rw [if_pos h]; congr 1; rw [decide_eq_decide]; omega
  · rw [if_neg h, decide_eq_false (by omega)]
theorem rnum_plain {k s a p : Int} (h1 : -8589934592 ≤ s) (h2 : s ≤ 8589934592) (h3 : -8589934592 ≤ a) (h4 : a ≤ 8589934592) (h5 : -8589934592 ≤ p) (h6 : p ≤ 8589934592) : linkhouseref3_Number.f k s a p = some (numV k s a p, fits k s a p) := by
 have e0 : wrap64 (s + a) = s + a := by unfold wrap64; omega
 have e1 : wrap64 (s + a - p) = s + a - p := by unfold wrap64; omega
 unfold linkhouseref3_Number.f
 by_cases k2 : k = 2
 ·subst k2
  have e2 : wrap64 (s + a - p - 2) = s + a - p - 2 := by unfold wrap64; omega
  rw [if_pos rfl, e0, e1, e2, in3_plain]
  simp [numV, fits, klo, khi, kwidth]
 ·rw [if_neg k2]
  by_cases k3 : k = 3
  ·subst k3
   have e2 : wrap64 (s + a - p - 1) = s + a - p - 1 := by unfold wrap64; omega
   rw [if_pos rfl, e0, e1, e2, in3_plain]
   simp [numV, fits, klo, khi, kwidth]
  ·rw [if_neg k3, e0, in3_plain]
   simp [numV, fits, klo, khi, kwidth, k2, k3]
end Go.Proofs.Ytogcgcjhoebooaa
end
section
set_option linter.unusedVariables false
set_option linter.unusedSimpArgs false
namespace Go.Proofs.Ytogcgcjhoebooaa
open Go.RowKit Go.Proofs.YtogcgcjhoebooaaW.PrintWords Go.Proofs.Ytogcgcjhoebooaa.PVeneerMatchesSpec
theorem serves_plain (s : S54) (b : S48) : linkhouseref4_serves.f s.f0 s.f1 s.f2 s.f3 s.f4 b.f0 b.f1 b.f2 b.f3 b.f4 b.f5 = some (serve s b) := by
 unfold linkhouseref4_serves.f serve
 by_cases h1 : s.f0 = b.f0
 ·rw [if_pos h1]
  by_cases h2 : s.f2 = b.f4
  ·rw [if_pos h2]
   by_cases h3 : s.f3 = b.f5
   ·rw [if_pos h3]; congr 1; rw [Bool.eq_iff_iff]; simp [h1, h2, h3]
   ·rw [if_neg h3, decide_eq_false (fun h => h3 h.2.2.1)]
  ·rw [if_neg h2, decide_eq_false (fun h => h2 h.2.1)]
 ·rw [if_neg h1, decide_eq_false (fun h => h1 h.1)]
theorem stubFor_plain (L : List S54) (b : S48) (hl : L.length ≤ 9223372036854775807) : ∀ (d i k : Nat), i + d = L.length → d < k →
  linkhouseref4_StubFor.l0 k L i b.f0 b.f1 b.f2 b.f3 b.f4 b.f5 = some (if (L.drop i).any (serve · b) then (i : Int) + ((L.drop i).findIdx (serve · b) : Nat) else -1)
 | 0, i, k, hi, hk => by
  obtain ⟨k, rfl⟩ : ∃ k', k = k' + 1 := ⟨k - 1, by omega⟩
  rw [linkhouseref4_StubFor.l0, if_neg (by omega), List.drop_of_length_le (by omega)]
  rfl
 | d + 1, i, k, hi, hk => by
  obtain ⟨k, rfl⟩ : ∃ k', k = k' + 1 := ⟨k - 1, by omega⟩
  have ih := stubFor_plain L b hl d (i + 1) k (by omega) (by omega)
  have hA : (i : Int) < L.length := by omega
  have hB : (0 : Int) ≤ i := by omega
  have hlt : i < L.length := by omega
  rw [linkhouseref4_StubFor.l0, if_pos hA, if_pos hB, serves_plain]
  simp only [Option.bind_some]
  rw [show wrap64 ((i : Int) + 1) = ((i + 1 : Nat) : Int) by unfold wrap64; omega, ih, List.drop_eq_getElem_cons hlt]
  have hr : rd_T54 L i = L[i] := by simp [rd_T54, List.getD_eq_getElem?_getD, hlt]
  rw [hr]
  generalize List.drop (i + 1) L = tl at *
  generalize L[i] = x at *
  cases h : serve x b with
  | true => simp [h, List.findIdx_cons]
  | false =>
   simp only [Bool.false_eq_true, if_false, List.any_cons, h, Bool.false_or, List.findIdx_cons, cond_false]
   congr 1
   split <;> omega
end Go.Proofs.Ytogcgcjhoebooaa
end
section
set_option linter.unusedVariables false
set_option linter.unusedSimpArgs false
namespace Go.Proofs.Ytogcgcjhoebooaa
open Go.RowKit Go.Proofs.YtogcgcjhoebooaaW.PrintWords Go.Proofs.Ytogcgcjhoebooaa.PVeneerMatchesSpec
def other (s t : S54) : Prop := ¬ (s.f0 = t.f0 ∧ s.f2 = t.f2 ∧ s.f3 = t.f3 ∧ s.f4 = t.f4)
def KP (L : List S54) : Prop := L.Pairwise other
theorem KP.add {L : List S54} (h : KP L) (items : List S57) (b : S48) : KP (addStub items L b) := by
  unfold addStub
  split
  · exact h
  · rename_i ha
    refine List.pairwise_append.2 ⟨h, List.pairwise_singleton _ _, fun s hs t ht => ?_⟩
    rw [List.mem_singleton] at ht
    subst ht
    intro hk
    refine ha (List.any_eq_true.2 ⟨s, hs, decide_eq_true ?_⟩)
    exact hk
theorem KP.pass {items : List S57} {bs : List S48} {a : List Int} : ∀ (d i : Nat) (far : List Bool) (L : List S54) (ag : Bool), KP L → KP (pass items bs a d i far L ag).2.1
  | 0, _, _, _, _, h => h
  | d + 1, i, far, L, ag, h => by
    rw [Proofs.Ytogcgcjhoebooaa.pass]
    split
    · exact KP.pass d (i + 1) far L ag h
    · exact KP.pass d (i + 1) _ _ _ (h.add _ _)
theorem KP.settle {os : List S72} {items : List S57} {bs : List S48} : ∀ (n : Nat) (far : List Bool) (L : List S54), KP L → KP (settleFrom os items bs n far L).L
 | 0, _, _, _ => List.Pairwise.nil
 | n + 1, far, L, h => by
  rw [settleFrom]
  simp only
  split
  ·exact List.Pairwise.nil
  ·split
   ·exact KP.settle n _ _ (h.pass _ _ _ _ _)
   ·split
    ·exact List.Pairwise.nil
    ·exact h.pass _ _ _ _ _
theorem KP.settled (os : List S72) (items : List S57) (bs : List S48) : KP (settled os items bs).L := KP.settle _ _ _ List.Pairwise.nil
theorem KP.ordered {L : List S54} (h : KP L) (n : Nat) : KP (ordered L n) := by
  unfold Proofs.Ytogcgcjhoebooaa.ordered
  refine List.pairwise_flatMap.2 ⟨fun i _ => h.filter _, ?_⟩
  refine (List.pairwise_lt_range).imp ?_
  intro i j hij x hx y hy e
  simp only [List.mem_filter, decide_eq_true_eq] at hx hy
  have := e.1
  omega
end Go.Proofs.Ytogcgcjhoebooaa
end
section
set_option linter.unusedVariables false
set_option linter.unusedSimpArgs false
namespace Go.Proofs.Ytogcgcjhoebooaa
open Go.RowKit Go.Proofs.YtogcgcjhoebooaaW.PrintWords Go.Proofs.Ytogcgcjhoebooaa.PVeneerMatchesSpec
theorem ordered_succ (L : List S54) (n : Nat) : ordered L (n + 1) = ordered L n ++ L.filter (fun s => decide (s.f0 = (n : Int))) := by
  unfold ordered
  rw [List.range_succ, List.flatMap_append]
  simp
theorem ext_length (items : List S57) (L : List S54) : (ext items L).length = items.length := by unfold ext; simp
theorem ext_getD (items : List S57) (L : List S54) (i : Nat) (hi : i < items.length) : (ext items L).getD i z57 = extItem L i (items.getD i z57) := by
  unfold ext
  rw [List.getD_eq_getElem?_getD, List.getElem?_mapIdx, List.getD_eq_getElem?_getD, List.getElem?_eq_getElem hi]
  rfl
theorem take_snoc {α : Type} (l : List α) (i : Nat) (h : i < l.length) : l.take (i + 1) = l.take i ++ [l[i]] := by
  rw [List.take_succ_eq_append_getElem h]
end Go.Proofs.Ytogcgcjhoebooaa
end
section
set_option linter.unusedVariables false
set_option linter.unusedSimpArgs false
namespace Go.Proofs.Ytogcgcjhoebooaa
open Go.RowKit Go.Proofs.YtogcgcjhoebooaaW.PrintWords Go.Proofs.Ytogcgcjhoebooaa.PVeneerMatchesSpec
theorem insertFault_ok {os : List S72} {rs : List S76} {items : List S57} {bs : List S48} (h : (insertFault os rs items bs).1 = 0) :
  (scriptFault os rs).1 = 0 ∧ (itemsFault items os.length).1 = 0 ∧ bs.length ≤ 400 ∧ ∀ i, i < bs.length → brCode items (bs.getD i z48) = 0 := by
 by_cases h1 : (scriptFault os rs).1 = 0
 ·by_cases h2 : (itemsFault items os.length).1 = 0
  ·by_cases h3 : 400 < bs.length
   ·rw [insertFault_3 h1 h2 h3] at h; cases h
   ·rw [insertFault_4 h1 h2 h3] at h
    refine ⟨h1, h2, by omega, fun i hi => ?_⟩
    cases hs : scan (fun i => brCode items (bs.getD i z48)) bs.length 0 with
    | some p => rw [hs] at h; exact absurd h (scan_some _ _ hs)
    | none => exact scan_none _ _ hs i (by omega) (by omega)
  ·rw [insertFault_2 h1 h2] at h; exact absurd h h2
 ·rw [insertFault_1 h1] at h; exact absurd h h1
theorem refAddr_plain {a : List Int} {n : Nat} {tt tg : Int} (ha : OkA n a) (h4 : -1 ≤ tt) (h4' : tt < n) (h5 : 0 ≤ tg) (h5' : tg ≤ 4294967295) : linkhouseref4_Address.f a tt tg = some (addrOf a tt tg) := by
 unfold linkhouseref4_Address.f addrOf
 have hl := ha.len
 by_cases h : tt = -1
 ·rw [if_pos h, if_pos (by omega)]
 ·rw [if_neg h, if_pos (by omega), if_pos (by omega), if_neg (by omega)]
  have := ha.bd tt (by omega) h4'
  rw [show wrap64 (rd a tt + tg) = rd a tt + tg by unfold wrap64; omega]
end Go.Proofs.Ytogcgcjhoebooaa
end
section
set_option linter.unusedVariables false
set_option linter.unusedSimpArgs false
namespace Go.Proofs.Ytogcgcjhoebooaa.PVeneerMatchesSpec
open Go.RowKit Go.Proofs.YtogcgcjhoebooaaW.PrintWords Go.Proofs.YtogcgcjhoebooaaW.PrintLast Go.Proofs.YtogcgcjhoebooaaW.PrintMore
def linkhouseref3_Width.j0 : Nat → Int → Bool → Option (Int)
  | 0, _, _ => none
  | k + 1, x3, x4 => if x4 = true then (some 4) else (if x3 = 2 then (some 2) else (if x3 = 3 then (some 1) else (some 0)))
def linkhouseref3_Width.f (k : Nat) (a0 : Int) : Option (Int) := if a0 = 1 then (linkhouseref3_Width.j0 k a0 (a0 == 1)) else (if a0 = 4 then (linkhouseref3_Width.j0 k a0 (a0 == 4)) else (linkhouseref3_Width.j0 k a0 (a0 == 5)))
theorem linkhouseref3_Width.mono_l : ∀ k, (∀ y0 y1, LeO (linkhouseref3_Width.j0 k y0 y1) (linkhouseref3_Width.j0 (k + 1) y0 y1))
 | 0 => fun _ _ r h => by simp [linkhouseref3_Width.j0] at h
 | k + 1 => by
  have ih0 := linkhouseref3_Width.mono_l k
  ·intro y0 y1
   unfold linkhouseref3_Width.j0
   repeat' first
   | (with_reducible exact ih0 _ _)
   | (with_reducible exact LeO.refl _)
   | (with_reducible exact LeO.none _)
   | (with_reducible refine LeO.ite ?_ ?_)
   | (with_reducible refine LeO.bind ?_ (fun _ => ?_))
   | exact ih0 _ _
   | exact LeO.none _
   | refine LeO.ite ?_ ?_
   | refine LeO.bind ?_ (fun _ => ?_)
theorem linkhouseref3_Width.mono : ∀ a0 k, LeO (linkhouseref3_Width.f k a0) (linkhouseref3_Width.f (k + 1) a0) := by
 intro a0 k
 have ih0 := linkhouseref3_Width.mono_l k
 unfold linkhouseref3_Width.f
 repeat' first
   | (with_reducible exact ih0 _ _)
   | (with_reducible exact LeO.refl _)
   | (with_reducible exact LeO.none _)
   | (with_reducible refine LeO.ite ?_ ?_)
   | (with_reducible refine LeO.bind ?_ (fun _ => ?_))
   | exact ih0 _ _
   | exact LeO.none _
   | refine LeO.ite ?_ ?_
   | refine LeO.bind ?_ (fun _ => ?_)
set_option maxHeartbeats 8000000 in
set_option maxRecDepth 100000 in
theorem linkhouseref3_Width.calls (k : Nat) (a0 : Int) (r : Int) (w : World) (h : linkhouseref3_Width.f k a0 = some r) :
  Calls Try.prog 37 #[.int .i64 a0] w fun e w' => e = .returned (.int .i64 r) ∧ Drawn0 w w' := by
 have H : (if a0 = 1 then (linkhouseref3_Width.j0 k a0 (a0 == 1)) else (if a0 = 4 then (linkhouseref3_Width.j0 k a0 (a0 == 4)) else (linkhouseref3_Width.j0 k a0 (a0 == 5)))) = some r := h
 clear h
 have HC2 := Aside0.mk H
 clear H
 go_enter Try.func37, Try.ntmps37
 go_upto_if 4 with (fail)
 go_cut [4] (fun v4 wc => ∃ (kq : Nat) (x4_1 : Bool), v4 = .bool x4_1 ∧ Aside0 (linkhouseref3_Width.j0 kq a0 x4_1 = some r) ∧ Aside0 (kq ≤ k) ∧ Drawn0 w wc)
 case first =>
  have H := HC2.out
  clear HC2
  by_cases c3 : a0 = 1
  ·rw [if_pos c3] at H
   have c3b0 : (a0 == 1) = true := beq_iff_eq.mpr c3
   have c3b1 : (a0 != 1) = false := bne_eq_false_iff_eq.mpr c3
   clear c3
   (first | rw [c3b0] | (simp only [i64_w, i32_w]; rw [c3b0]) | skip)
   have H' := Aside0.mk H
   clear H
   go_wp2
   go_meet
   case rel => exact ⟨_, ((a0 == 1)), (by first | rfl | (simp; done) | (simp [*]; done)), H', ⟨by first | omega | exact Nat.le_refl _⟩, by repeat (first | exact Drawn0.refl _ | apply Drawn0.step)⟩
  ·rw [if_neg c3] at H
   have c3b0 : (a0 == 1) = false := beq_eq_false_iff_ne.mpr c3
   have c3b1 : (a0 != 1) = true := bne_iff_ne.mpr c3
   (first | rw [c3b0] | (simp only [i64_w, i32_w]; rw [c3b0]) | skip)
   by_cases c4 : a0 = 4
   ·rw [if_pos c4] at H
    have c4b0 : (a0 == 4) = true := beq_iff_eq.mpr c4
    have c4b1 : (a0 != 4) = false := bne_eq_false_iff_eq.mpr c4
    clear c4
    have H' := Aside0.mk H
    clear H
    go_wp2
    go_meet
    case rel => exact ⟨_, ((a0 == 4)), (by first | rfl | (simp; done) | (simp [*]; done)), H', ⟨by first | omega | exact Nat.le_refl _⟩, by repeat (first | exact Drawn0.refl _ | apply Drawn0.step)⟩
   ·rw [if_neg c4] at H
    have c4b0 : (a0 == 4) = false := beq_eq_false_iff_ne.mpr c4
    have c4b1 : (a0 != 4) = true := bne_iff_ne.mpr c4
    have H' := Aside0.mk H
    clear H
    go_wp2
    go_meet
    case rel => exact ⟨_, ((a0 == 5)), (by first | rfl | (simp; done) | (simp [*]; done)), H', ⟨by first | omega | exact Nat.le_refl _⟩, by repeat (first | exact Drawn0.refl _ | apply Drawn0.step)⟩
 case rest =>
  clear HC2
  try clear p2
  try clear c3
  try clear c3b0
  try clear c3b1
  try clear c4
  try clear c4b0
  try clear c4b1
  obtain ⟨kq, x4_1, rfl, HA, HJ1, ⟨mc1, rfl⟩⟩ := hcut
  cases kq with
  | zero => exact absurd HA.out (by simp [linkhouseref3_Width.j0])
  | succ kj1 =>
   have H := HA.out
   clear HA
   simp only [linkhouseref3_Width.j0] at H
   by_cases c5 : x4_1 = true
   ·subst c5
    have H1 : (some 4) = some r := by rw [if_pos rfl] at H; exact H
    clear H
    have H := H1
    clear H1
    obtain rfl := Option.some.inj H
    go_wp2
    go_ret
    exact ⟨by first | rfl | (simp; done) | (simp [*]; done), by repeat (first | exact Drawn0.refl _ | apply Drawn0.step)⟩
   ·replace c5 := Bool.eq_false_iff.mpr c5
    subst c5
    have H1 : (if a0 = 2 then (some 2) else (if a0 = 3 then (some 1) else (some 0))) = some r := by rw [if_neg (show ¬ (false = true) by decide)] at H; exact H
    clear H
    have H := H1
    clear H1
    by_cases c6 : a0 = 2
    ·rw [if_pos c6] at H
     have c6b0 : (a0 == 2) = true := beq_iff_eq.mpr c6
     have c6b1 : (a0 != 2) = false := bne_eq_false_iff_eq.mpr c6
     clear c6
     obtain rfl := Option.some.inj H
     go_wp2
     go_ret
     exact ⟨by first | rfl | (simp; done) | (simp [*]; done), by repeat (first | exact Drawn0.refl _ | apply Drawn0.step)⟩
    ·rw [if_neg c6] at H
     have c6b0 : (a0 == 2) = false := beq_eq_false_iff_ne.mpr c6
     have c6b1 : (a0 != 2) = true := bne_iff_ne.mpr c6
     by_cases c7 : a0 = 3
     ·rw [if_pos c7] at H
      have c7b0 : (a0 == 3) = true := beq_iff_eq.mpr c7
      have c7b1 : (a0 != 3) = false := bne_eq_false_iff_eq.mpr c7
      clear c7
      obtain rfl := Option.some.inj H
      go_wp2
      go_ret
      exact ⟨by first | rfl | (simp; done) | (simp [*]; done), by repeat (first | exact Drawn0.refl _ | apply Drawn0.step)⟩
     ·rw [if_neg c7] at H
      have c7b0 : (a0 == 3) = false := beq_eq_false_iff_ne.mpr c7
      have c7b1 : (a0 != 3) = true := bne_iff_ne.mpr c7
      obtain rfl := Option.some.inj H
      go_wp2
      go_ret
      exact ⟨by first | rfl | (simp; done) | (simp [*]; done), by repeat (first | exact Drawn0.refl _ | apply Drawn0.step)⟩
end Go.Proofs.Ytogcgcjhoebooaa.PVeneerMatchesSpec
end

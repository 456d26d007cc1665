/- The law VeneerMatchesSpec: for every script, list of items and list of branches the law returns true, and the arguments read as before. No conditions. (Part 6 of 6 of the proof. Lines of the texts that print.sh printed for this seat are among it, cut to what is used.) -/
import Derived.Deep.Slices
import Derived.Deep.Fields
import Derived.ChangeSame
import Derived.Lib.SmallJoins
import Derived.Test.YtogcgcjhoebooaaRows
import Derived.WalkKit
import Derived.ProofKit
import Derived.OpenShut
import Derived.ShutString
import Derived.ChangeOld
import Derived.Below
import Derived.SizedLaws
import Derived.Test.YtogcgcjhoebooaaD5
section
set_option linter.unusedVariables false
set_option linter.unusedSimpArgs false
namespace Go.Proofs.Ytogcgcjhoebooaa
open Go.RowKit Go.Proofs.YtogcgcjhoebooaaW.PrintWords Go.Proofs.YtogcgcjhoebooaaW.PrintLast Go.Proofs.Ytogcgcjhoebooaa.PVeneerMatchesSpec
theorem ext_l1 {items : List S57} {L : List S54} (hL : L.length ≤ 400) {i : Nat} (hi : i < 1000) {out : List S57} (ho : out.length < 1000) (x0 x2 : Int) : ∀ (d j k : Nat) (x1 : Int), j + d = L.length → d < k → 0 ≤ x1 → x1 ≤ 2000000 + 5 * (j : Int) →
  linkhouseref4_extended.l1 k items L out i j x0 x1 x2 = linkhouseref4_extended.l0 (k - d - 1) items L (out ++ [⟨x0, x1 + 5 * cnt (L.drop j) i, x2⟩]) ((i + 1 : Nat) : Int)
 | 0, j, k, x1, hj, hk, h0, h1 => by
  obtain ⟨k, rfl⟩ : ∃ k', k = k' + 1 := ⟨k - 1, by omega⟩
  rw [linkhouseref4_extended.l1, if_neg (by omega), if_pos (by omega), wrap_succ (by omega), List.drop_of_length_le (by omega), Nat.sub_zero, Nat.add_sub_cancel]
  simp [cnt]
 | d + 1, j, k, x1, hj, hk, h0, h1 => by
  obtain ⟨k, rfl⟩ : ∃ k', k = k' + 1 := ⟨k - 1, by omega⟩
  have hlt : j < L.length := by omega
  rw [linkhouseref4_extended.l1, if_pos (by omega), if_pos (by omega), wrap_succ (by omega), List.drop_eq_getElem_cons hlt, show k + 1 - (d + 1) - 1 = k - d - 1 by omega]
  have hr : rd_T54 L j = L[j] := by simp [rd_T54, List.getD_eq_getElem?_getD, hlt]
  rw [hr]
  by_cases c : L[j].f0 = (i : Int)
  ·have hc : cnt (L[j] :: L.drop (j + 1)) i = cnt (L.drop (j + 1)) i + 1 := by unfold cnt; rw [List.filter_cons, if_pos (by simpa using c)]; rfl
   rw [if_pos c, show wrap64 (x1 + 5) = x1 + 5 by unfold wrap64; omega, ext_l1 hL hi ho x0 x2 d (j + 1) k (x1 + 5) (by omega) (by omega) (by omega) (by omega), hc]
   congr 4
   omega
  ·have hc : cnt (L[j] :: L.drop (j + 1)) i = cnt (L.drop (j + 1)) i := by unfold cnt; rw [List.filter_cons, if_neg (by simpa using c)]
   rw [if_neg c, ext_l1 hL hi ho x0 x2 d (j + 1) k x1 (by omega) (by omega) h0 (by omega), hc]
theorem ext_l0 {items : List S57} {L : List S54} (hL : L.length ≤ 400) (hv : OkI items) : ∀ (d i k : Nat), i + d = items.length → d * (L.length + 3) < k →
  linkhouseref4_extended.l0 k items L ((ext items L).take i) i = some (ext items L)
 | 0, i, k, hi, hk => by
  obtain ⟨k, rfl⟩ : ∃ k', k = k' + 1 := ⟨k - 1, by omega⟩
  rw [linkhouseref4_extended.l0, if_neg (by omega), List.take_of_length_le (by rw [ext_length]; omega)]
 | d + 1, i, k, hi, hk => by
  rw [Nat.succ_mul] at hk
  obtain ⟨k, rfl⟩ : ∃ k', k = k' + 1 := ⟨k - 1, by omega⟩
  have hlen := hv.len
  have hx := hv.x i (by omega)
  have hlt : i < items.length := by omega
  rw [linkhouseref4_extended.l0, if_pos (by omega), if_pos (by omega)]
  have hr : rd_T57 items i = items.getD i z57 := rfl
  have h1 := ext_l1 (items := items) hL (i := i) (by omega) (out := (ext items L).take i) (by rw [List.length_take, ext_length]; omega) (items.getD i z57).f0 (items.getD i z57).f2 L.length 0 k (items.getD i z57).f1 (by omega) (by omega) (by omega) (by omega)
  rw [show ((0 : Nat) : Int) = 0 from rfl, List.drop_zero] at h1
  rw [hr, h1]
  have e : (ext items L).take i ++ [⟨(items.getD i z57).f0, (items.getD i z57).f1 + 5 * cnt L i, (items.getD i z57).f2⟩] = (ext items L).take (i + 1) := by
   rw [take_snoc _ _ (by rw [ext_length]; exact hlt)]
   congr 2
   have := ext_getD items L i hlt
   rw [List.getD_eq_getElem?_getD, List.getElem?_eq_getElem (by rw [ext_length]; exact hlt), Option.getD_some] at this
   rw [this]; rfl
  rw [e]
  exact ext_l0 hL hv d (i + 1) _ (by omega) (by omega)
theorem ext_calls {A A1 : Option Addr} {c c1 : Nat} {items : List S57} {L : List S54} {W : World} (hL : L.length ≤ 400) (hv : OkI items) (h : Kd.C k57 W A items.length items) (hc : items.length ≤ c) (h1 : Kd.C k54 W A1 L.length L) (hc1 : L.length ≤ c1) :
  Calls Try.prog 24 #[.slice A items.length c, .slice A1 L.length c1] W fun e W' => ∃ v0 : Value, e = .returned v0 ∧ RowD k57 W.heap.size W' v0 (ext items L) ∧ Below W.heap.size W W' := by
 refine (linkhouseref4_extended.calls (items.length * (L.length + 3) + 1) A c items A1 c1 L (ext items L) W h hc h1 hc1 ?_).mono ?_
 ·unfold linkhouseref4_extended.f
  have := ext_l0 hL hv items.length 0 (items.length * (L.length + 3) + 1) (by omega) (by omega)
  rw [List.take_zero] at this
  exact this
 ·rintro e w' ⟨v0, rfl, r0, hb⟩
  obtain ⟨A', c', he, hl, hr⟩ := Kd.R_reads r0
  exact ⟨v0, rfl, ⟨A', c', he, by omega, hr, fun ad had => Kd.R_base r0 ad.block (by rw [he, had]; rfl)⟩, hb⟩
theorem ord_l1 {L : List S54} (hL : L.length ≤ 400) {n i : Nat} (hi : i < 1000) : ∀ (d j k : Nat) (out : List S54), j + d = L.length → d < k → out.length ≤ 1000000 + j →
  linkhouseref4_Ordered.l1 k L n out i j = linkhouseref4_Ordered.l0 (k - d - 1) L n (out ++ (L.drop j).filter fun s => decide (s.f0 = (i : Int))) ((i + 1 : Nat) : Int)
 | 0, j, k, out, hj, hk, ho => by
  obtain ⟨k, rfl⟩ : ∃ k', k = k' + 1 := ⟨k - 1, by omega⟩
  rw [linkhouseref4_Ordered.l1, if_neg (by omega), wrap_succ (by omega), List.drop_of_length_le (by omega), Nat.sub_zero, Nat.add_sub_cancel]
  simp
 | d + 1, j, k, out, hj, hk, ho => by
  obtain ⟨k, rfl⟩ : ∃ k', k = k' + 1 := ⟨k - 1, by omega⟩
  have hlt : j < L.length := by omega
  rw [linkhouseref4_Ordered.l1, if_pos (by omega), if_pos (by omega), wrap_succ (by omega), List.drop_eq_getElem_cons hlt, show k + 1 - (d + 1) - 1 = k - d - 1 by omega]
  have hr : rd_T54 L j = L[j] := by simp [rd_T54, List.getD_eq_getElem?_getD, hlt]
  rw [hr]
  by_cases c : L[j].f0 = (i : Int)
  ·rw [if_pos c, if_pos (by omega), ord_l1 hL hi d (j + 1) k _ (by omega) (by omega) (by simp; omega), List.filter_cons, if_pos (by simpa using c), List.append_assoc]
   rfl
  ·rw [if_neg c, ord_l1 hL hi d (j + 1) k out (by omega) (by omega) (by omega), List.filter_cons, if_neg (by simpa using c)]
theorem ordered_len (L : List S54) (n : Nat) : (ordered L n).length ≤ n * L.length := by
  induction n with
  | zero => simp [ordered]
  | succ n ih =>
    rw [ordered_succ, List.length_append, Nat.succ_mul]
    have := List.length_filter_le (fun s : S54 => decide (s.f0 = (n : Int))) L
    omega
theorem ord_l0 {L : List S54} (hL : L.length ≤ 400) {n : Nat} (hn : n ≤ 200) : ∀ (d i k : Nat), i + d = n → d * (L.length + 3) < k →
  linkhouseref4_Ordered.l0 k L n (ordered L i) i = some (ordered L n)
 | 0, i, k, hi, hk => by
  obtain ⟨k, rfl⟩ : ∃ k', k = k' + 1 := ⟨k - 1, by omega⟩
  rw [linkhouseref4_Ordered.l0, if_neg (by omega), show i = n by omega]
 | d + 1, i, k, hi, hk => by
  rw [Nat.succ_mul] at hk
  obtain ⟨k, rfl⟩ : ∃ k', k = k' + 1 := ⟨k - 1, by omega⟩
  have h1 := ordered_len L i
  have h2 := Nat.mul_le_mul (show i ≤ 200 by omega) hL
  have h3 := ord_l1 hL (n := n) (i := i) (by omega) L.length 0 k (ordered L i) (by omega) (by omega) (by omega)
  rw [show ((0 : Nat) : Int) = 0 from rfl, List.drop_zero] at h3
  rw [linkhouseref4_Ordered.l0, if_pos (by omega), h3, ← ordered_succ]
  exact ord_l0 hL hn d (i + 1) _ (by omega) (by omega)
theorem ord_calls {A : Option Addr} {c : Nat} {L : List S54} {n : Nat} {W : World} (hL : L.length ≤ 400) (hn : n ≤ 200) (h : Kd.C k54 W A L.length L) (hc : L.length ≤ c) :
  Calls Try.prog 12 #[.slice A L.length c, .int .i64 n] W fun e W' => ∃ v0 : Value, e = .returned v0 ∧ RowD k54 W.heap.size W' v0 (ordered L n) ∧ Below W.heap.size W W' := by
 refine (linkhouseref4_Ordered.calls (n * (L.length + 3) + 1) A c L n (ordered L n) W h hc ?_).mono ?_
 ·unfold linkhouseref4_Ordered.f
  have := ord_l0 hL hn n 0 (n * (L.length + 3) + 1) (by omega) (by omega)
  exact this
 ·rintro e w' ⟨v0, rfl, r0, hb⟩
  obtain ⟨A', c', he, hl, hr⟩ := Kd.R_reads r0
  exact ⟨v0, rfl, ⟨A', c', he, by omega, hr, fun ad had => Kd.R_base r0 ad.block (by rw [he, had]; rfl)⟩, hb⟩
theorem bools_self (l : List Bool) (hm : l.length ≤ 9223372036854775807) : ∀ (d i k : Nat), i + d = l.length → d < k → linkhouselaw4_sameBools.l0 k l l i = some true
 | 0, i, k, hi, hk => by
  obtain ⟨k, rfl⟩ : ∃ k', k = k' + 1 := ⟨k - 1, by omega⟩
  rw [linkhouselaw4_sameBools.l0, if_neg (by omega)]
 | d + 1, i, k, hi, hk => by
  obtain ⟨k, rfl⟩ : ∃ k', k = k' + 1 := ⟨k - 1, by omega⟩
  rw [linkhouselaw4_sameBools.l0, if_pos (by omega), if_pos (by omega), if_pos (by omega), if_neg (by simp), show wrap64 ((i : Int) + 1) = ((i + 1 : Nat) : Int) by unfold wrap64; omega]
  exact bools_self l hm d (i + 1) k (by omega) (by omega)
theorem bools_same (l : List Bool) (hm : l.length ≤ 9223372036854775807) : linkhouselaw4_sameBools.f (l.length + 1) l l = some true := by
  unfold linkhouselaw4_sameBools.f
  rw [if_pos rfl]
  exact bools_self l hm l.length 0 (l.length + 1) (by omega) (by omega)
theorem stubs_self (l : List S54) (hm : l.length ≤ 9223372036854775807) : ∀ (d i k : Nat), i + d = l.length → d < k → linkhouselaw4_sameStubs.l0 k l l i = some true
 | 0, i, k, hi, hk => by
  obtain ⟨k, rfl⟩ : ∃ k', k = k' + 1 := ⟨k - 1, by omega⟩
  rw [linkhouselaw4_sameStubs.l0, if_neg (by omega)]
 | d + 1, i, k, hi, hk => by
  obtain ⟨k, rfl⟩ : ∃ k', k = k' + 1 := ⟨k - 1, by omega⟩
  rw [linkhouselaw4_sameStubs.l0, if_pos (by omega), if_pos (by omega), if_pos (by omega), if_neg (by simp), show wrap64 ((i : Int) + 1) = ((i + 1 : Nat) : Int) by unfold wrap64; omega]
  exact stubs_self l hm d (i + 1) k (by omega) (by omega)
theorem stubs_same (l : List S54) (hm : l.length ≤ 9223372036854775807) : linkhouselaw4_sameStubs.f (l.length + 1) l l = some true := by
  unfold linkhouselaw4_sameStubs.f
  rw [if_pos rfl]
  exact stubs_self l hm l.length 0 (l.length + 1) (by omega) (by omega)
end Go.Proofs.Ytogcgcjhoebooaa
end
section
set_option linter.unusedVariables false
set_option linter.unusedSimpArgs false
namespace Go.Proofs.Ytogcgcjhoebooaa
open Go.RowKit Go.Proofs.YtogcgcjhoebooaaW.PrintWords Go.Proofs.YtogcgcjhoebooaaW.PrintLast Go.Proofs.Ytogcgcjhoebooaa.PVeneerMatchesSpec
structure FM (w W : World) (f : Nat) (v0 v1 : Value) (c x : Int) : Prop where
  b : Below w.heap.size w W
  zb : W.heap[w.heap.size]? = some (.cells #[v0, v1] 25 (0, 0))
  zr : W.heap[w.heap.size + 1]? = some (.cells #[.int .i64 0, .int .i64 0] 29 (0, 0))
  zf : W.heap[f]? = some (.cells #[.int .i64 c, .int .i64 x] 29 (0, 0))
  lt : w.heap.size + 2 ≤ f
theorem FM.step {w W W1 : World} {f : Nat} {v0 v1 : Value} {c x : Int} (h : FM w W f v0 v1 c x) (hb : Below W.heap.size W W1) : FM w W1 f v0 v1 c x :=
  ⟨h.b.trans (hb.mono h.b.size), blk_below h.zb hb, blk_below h.zr hb, blk_below h.zf hb, h.lt⟩
theorem FM.put {w W : World} {f : Nat} {v0 v1 : Value} {c x : Int} (h : FM w W f v0 v1 c x) (c' x' : Int) : FM w ((W.setCell ⟨f, 0, none⟩ (.int .i64 c')).setCell ⟨f, 1, none⟩ (.int .i64 x')) f v0 v1 c' x' := by
 have hlt := h.lt
 refine ⟨(h.b.setCell (by show w.heap.size ≤ f; omega) _).setCell (by show w.heap.size ≤ f; omega) _, blk_far (blk_far h.zb (by show w.heap.size ≠ f; omega) _) (by show w.heap.size ≠ f; omega) _, blk_far (blk_far h.zr (by show w.heap.size + 1 ≠ f; omega) _) (by show w.heap.size + 1 ≠ f; omega) _, blk_put (blk_put h.zf 0 _ rfl) 1 _ rfl, h.lt⟩
theorem FM.cells {w W : World} {f : Nat} {v0 v1 : Value} {c x : Int} (h : FM w W f v0 v1 c x) :
  W.cell? ⟨w.heap.size, 0, none⟩ = some v0 ∧ W.cell? ⟨w.heap.size, 1, none⟩ = some v1 ∧ W.cell? ⟨w.heap.size + 1, 0, none⟩ = some (.int .i64 0) ∧ W.cell? ⟨w.heap.size + 1, 1, none⟩ = some (.int .i64 0) ∧ W.cell? ⟨f, 0, none⟩ = some (.int .i64 c) ∧ W.cell? ⟨f, 1, none⟩ = some (.int .i64 x) ∧
   W.frozen? ⟨w.heap.size + 1, 0, none⟩ = false ∧ W.frozen? ⟨w.heap.size + 1, 1, none⟩ = false ∧ W.frozen? ⟨f, 0, none⟩ = false ∧ W.frozen? ⟨f, 1, none⟩ = false :=
 ⟨(blk_cell h.zb 0).trans rfl, (blk_cell h.zb 1).trans rfl, (blk_cell h.zr 0).trans rfl, (blk_cell h.zr 1).trans rfl, (blk_cell h.zf 0).trans rfl, (blk_cell h.zf 1).trans rfl, blk_frozen h.zr 0, blk_frozen h.zr 1, blk_frozen h.zf 0, blk_frozen h.zf 1⟩
set_option maxHeartbeats 4000000 in
set_option maxRecDepth 100000 in
theorem insertFault_calls {w : World} {A0 A1 A2 AB : Option Addr} {c0 c1 c2 cB : Nat} {os : List S72} {rs : List S76} {items : List S57} {bs : List S48}
  (h0 : Kd.C k72 w A0 os.length os) (hc0 : os.length ≤ c0) (h1 : Kd.C k76 w A1 rs.length rs) (hc1 : rs.length ≤ c1) (h2 : Kd.C k57 w A2 items.length items) (hc2 : items.length ≤ c2) (hB : Kd.C k48 w AB bs.length bs) (hcB : bs.length ≤ cB)
  (hs0 : ∀ j, (os.getD j z72).f0.size ≤ 9223372036854775807) (hs1 : ∀ j, (rs.getD j z76).f0.size ≤ 9223372036854775807) :
  Calls Try.prog 6 #[.agg #[.slice A0 os.length c0, .slice A1 rs.length c1], .slice A2 items.length c2, .slice AB bs.length cB] w fun e W' => e = .returned (.agg #[.int .i64 (insertFault os rs items bs).1, .int .i64 (insertFault os rs items bs).2]) ∧ Below w.heap.size w W' := by
 have hu25 := Try.underlying25
 have hu29 := Try.underlying29
 have hu48 := Try.underlying48
 have hm := hB.2.1
 have hm2 := h2.2.1
 have hSF := Aside0.mk (fun (W' : World) (hW : Below w.heap.size w W') => scriptFault_calls rname_calls rpat_calls pow_calls A0 c0 os A1 c1 rs W' (Kd.C_below h0 hW) (Kd.C_below h1 hW) hs0 hs1)
 have hlo := validO_of (os := os) (rs := rs)
 have hlos := scriptFault_zero (os := os) (rs := rs)
 have hIT := Aside0.mk (fun (W' : World) (hW : Below w.heap.size w W') (hn : os.length ≤ 8) => ritems_calls A2 c2 items os.length W' (Kd.C_below h2 hW) hc2 (by omega) (by omega))
 have hli := validI_of (items := items) (n := os.length)
 have hlis := itemsFault_zero (items := items) (n := os.length)
 have hI1 := insertFault_1 (os := os) (rs := rs) (items := items) (bs := bs)
 have hI2 := insertFault_2 (os := os) (rs := rs) (items := items) (bs := bs)
 have hI3 := insertFault_3 (os := os) (rs := rs) (items := items) (bs := bs)
 have hI4 := insertFault_4 (os := os) (rs := rs) (items := items) (bs := bs)
 generalize insertFault os rs items bs = R at *
 generalize scriptFault os rs = sf at *
 obtain ⟨code, idx⟩ := sf
 generalize itemsFault items os.length = tf at *
 obtain ⟨code', idx'⟩ := tf
 simp only at hlo hlos hli hlis hI1 hI2 hI3 hI4 hSF hIT
 replace h2 := Aside0.mk h2
 replace hB := Aside0.mk hB
 replace hlo := Aside0.mk hlo
 replace hlos := Aside0.mk hlos
 replace hli := Aside0.mk hli
 replace hlis := Aside0.mk hlis
 replace hI1 := Aside0.mk hI1
 replace hI2 := Aside0.mk hI2
 replace hI3 := Aside0.mk hI3
 replace hI4 := Aside0.mk hI4
 clear h0 h1 hs0 hs1
 go_enter Try.func6, Try.ntmps6
 go_wp2_with fail
 generalize hw0 : (w.alloc (Obj.cells #[Value.slice A0 os.length c0, Value.slice A1 rs.length c1] 25)).alloc (Obj.cells #[Value.int IntKind.i64 0, Value.int IntKind.i64 0] 29) = w0
 have hsz : w0.heap.size = w.heap.size + 2 := by rw [← hw0]; simp
 have hww : Below w.heap.size w w0 := by rw [← hw0]; exact below_alloc (below_alloc (Below.refl _ _) _) _
 have zb : w0.heap[w.heap.size]? = some (.cells #[Value.slice A0 os.length c0, Value.slice A1 rs.length c1] 25 (0, 0)) := by rw [← hw0]; exact blk_alloc (alloc_block w _) _
 have zr : w0.heap[w.heap.size + 1]? = some (.cells #[Value.int IntKind.i64 0, Value.int IntKind.i64 0] 29 (0, 0)) := by
  rw [← hw0]
  have h := alloc_block (w.alloc (Obj.cells #[Value.slice A0 os.length c0, Value.slice A1 rs.length c1] 25)) (Obj.cells #[Value.int IntKind.i64 0, Value.int IntKind.i64 0] 29)
  rw [show (w.alloc (Obj.cells #[Value.slice A0 os.length c0, Value.slice A1 rs.length c1] 25)).heap.size = w.heap.size + 1 by simp] at h
  exact h
 clear hw0
 refine (hSF.out _ hww).mono ?_
 rintro e w1 ⟨rfl, hb1⟩
 have hlt1 : w.heap.size + 2 ≤ w1.heap.size := by have := hb1.size; omega
 have fm := Aside0.mk (show FM w (w1.alloc (Obj.cells #[Value.int IntKind.i64 code, Value.int IntKind.i64 idx] 29)) w1.heap.size (.slice A0 os.length c0) (.slice A1 rs.length c1) code idx from
  ⟨below_alloc (hww.trans (hb1.mono (by omega))) _, blk_alloc (blk_below zb hb1) _, blk_alloc (blk_below zr hb1) _, alloc_block w1 _, hlt1⟩)
 clear zb zr hb1 hww hSF
 by_cases hcz : code = 0
 ·subst hcz
  obtain rfl := hlos.out (by trivial)
  obtain ⟨p0, p1, p2, p3, p4, p5, p6, p7, p8, p9⟩ := fm.out.cells
  go_wp2_with fail
  generalize w1.alloc (Obj.cells #[Value.int IntKind.i64 0, Value.int IntKind.i64 0] 29) = X at *
  generalize w1.heap.size = f7 at *
  have hvo := hlo.out (by trivial)
  refine (hIT.out _ fm.out.b hvo.len).mono ?_
  rintro e w2 ⟨rfl, hb2⟩
  have fm2 := Aside0.mk (((fm.out.step hb2).put code' idx'))
  have fm1 := Aside0.mk (fm.out.step hb2)
  clear p0 p1 p2 p3 p4 p5 p6 p7 p8 p9 hb2 hIT
  obtain ⟨p0, p1, p2, p3, p4, p5, p6, p7, p8, p9⟩ := fm1.out.cells
  obtain ⟨q0, q1, q2, q3, q4, q5, q6, q7, q8, q9⟩ := fm2.out.cells
  by_cases hcz : code' = 0
  ·subst hcz
   obtain rfl := hlis.out (by trivial)
   have hvi := hli.out (by trivial)
   have hil := hvi.len
   by_cases h400 : 400 < bs.length
   ·go_wp2_with fail
    generalize ((w2.setCell ⟨f7, 0, none⟩ (.int .i64 0)).setCell ⟨f7, 1, none⟩ (.int .i64 0)) = Y at *
    refine (linkhouseref4_At.calls 2 (-4) 2 (-4) Y rfl).mono ?_
    rintro e w3 ⟨rfl, hb3⟩
    have fm3 := Aside0.mk ((fm2.out.step hb3).put 2 (-4))
    have fm4 := Aside0.mk (fm2.out.step hb3)
    clear p0 p1 p2 p3 p4 p5 p6 p7 p8 p9 q0 q1 q2 q3 q4 q5 q6 q7 q8 q9 hb3
    obtain ⟨p0, p1, p2, p3, p4, p5, p6, p7, p8, p9⟩ := fm4.out.cells
    go_wp2_with fail
    clear p0 p1 p2 p3 p4 p5 p6 p7 p8 p9
    generalize ((w3.setCell ⟨f7, 0, none⟩ (.int .i64 2)).setCell ⟨f7, 1, none⟩ (.int .i64 (-4))) = Z at *
    go_loopg [8] 0 (fun k v8 wr => v8 = .int .i64 0 ∧ Aside0 (FM w wr f7 (.slice A0 os.length c0) (.slice A1 rs.length c1) (2) (-4)))
    case atStart => exact ⟨rfl, ⟨fm3.out⟩⟩
    case round =>
     obtain ⟨rfl, hf⟩ := hrel
     obtain ⟨p0, p1, p2, p3, p4, p5, p6, p7, p8, p9⟩ := hf.out.cells
     by_cases hlt : 0 < bs.length
     ·go_wp2
      have hR := hI3.out (by trivial) (by trivial) h400
      subst hR
      refine bodyPost_ret (v := .agg #[.int .i64 2, .int .i64 (-4)]) (by simp [results, Try.results6, go_sem, p2, p3, p6, p7]) rfl ⟨rfl, ?_⟩
      exact (hf.out.b.setCell (p := ⟨w.heap.size + 1, 0, none⟩) (Nat.le_add_right _ 1) _).setCell (p := ⟨w.heap.size + 1, 1, none⟩) (Nat.le_add_right _ 1) _
     ·exfalso; omega
   ·go_wp2_with fail
    generalize ((w2.setCell ⟨f7, 0, none⟩ (.int .i64 0)).setCell ⟨f7, 1, none⟩ (.int .i64 0)) = Y at *
    clear p0 p1 p2 p3 p4 p5 p6 p7 p8 p9 q0 q1 q2 q3 q4 q5 q6 q7 q8 q9
    have hR0 := Aside0.mk (hI4.out (by trivial) (by trivial) h400)
    go_loopg [8] bs.length (fun k v8 wr => ∃ (i : Nat) (c x : Int), i ≤ bs.length ∧ v8 = .int .i64 i ∧ Aside0 (k = bs.length - i) ∧ Aside0 (FM w wr f7 (.slice A0 os.length c0) (.slice A1 rs.length c1) c x) ∧ Aside0 ((c = 0 ∧ x = 0 ∧ scan (fun i => brCode items (bs.getD i z48)) bs.length 0 = scan (fun i => brCode items (bs.getD i z48)) (bs.length - i) i) ∨ (c ≠ 0 ∧ R = (c, x))))
    case atStart => exact ⟨0, 0, 0, Nat.zero_le _, rfl, ⟨rfl⟩, ⟨fm2.out⟩, ⟨.inl ⟨rfl, rfl, rfl⟩⟩⟩
    case round =>
     obtain ⟨i, c, x, hi, rfl, hk, hf, hc⟩ := hrel
     have hfo := Aside0.mk hf.out
     obtain ⟨p0, p1, p2, p3, p4, p5, p6, p7, p8, p9⟩ := hf.out.cells
     by_cases hcz : c = 0
     ·subst hcz
      obtain ⟨_, rfl, hsc⟩ := hc.out.resolve_right (fun h => h.1 rfl)
      replace hsc := Aside0.mk hsc
      by_cases hlt : i < bs.length
      ·obtain ⟨bk, o, e, hbk, hx⟩ := open48 (Kd.C_below hB.out hf.out.b) (by omega)
       subst e
       obtain ⟨x0, x1, x2, x3, x4, x5⟩ := hx i hlt
       have hBr := Aside0.mk (rbranch_calls A2 c2 items (bs.getD i z48) wr (Kd.C_below h2.out hf.out.b) hc2 (by omega) (fun j hj => by have := hvi.x j hj; omega))
       have hst : brCode items (bs.getD i z48) = 0 → Aside0 (scan (fun i => brCode items (bs.getD i z48)) bs.length 0 = scan (fun i => brCode items (bs.getD i z48)) (bs.length - (i + 1)) (i + 1)) := fun h => ⟨hsc.out.trans (scan_step hlt h)⟩
       have hht : brCode items (bs.getD i z48) ≠ 0 → Aside0 (R = (brCode items (bs.getD i z48), 1000 + (i : Int))) := fun h => ⟨by rw [hR0.out, hsc.out, scan_hit hlt h]⟩
       clear hx
       generalize brCode items (bs.getD i z48) = cd at *
       generalize bs.getD i z48 = b at *
       go_wp2_with (go_at_call 22; refine hBr.out.mono ?_)
       rintro e w4 rfl hb4
       have fm5 := Aside0.mk (hfo.out.step hb4)
       clear x0 x1 x2 x3 x4 x5 hBr p0 p1 p2 p3 p4 p5 p6 p7 p8 p9 hb4
       by_cases hcd : cd = 0
       ·have H := hst hcd
        subst hcd
        clear hst hht
        go_wp2
        go_roundg (bs.length - (i + 1))
        case measure => have := hk.out; omega
        case rel => exact ⟨i + 1, 0, 0, hlt, by go_num, ⟨rfl⟩, ⟨fm5.out⟩, ⟨.inl ⟨rfl, rfl, H.out⟩⟩⟩
       ·have H := hht hcd
        have hcd' : (cd != 0) = true := by simpa using hcd
        have g1 : IntKind.i64.wrap (1000 + (i : Int)) = 1000 + (i : Int) := by rw [i64_w]; unfold wrap64; omega
        clear hst hht
        go_wp2_with (go_at_call 21; refine (linkhouseref4_At.calls cd (1000 + (i : Int)) cd (1000 + (i : Int)) _ rfl).mono ?_)
        rintro e w5 ⟨rfl, hb5⟩
        have fm6 := Aside0.mk (fm5.out.step hb5)
        have fm7 := Aside0.mk (fm6.out.put cd (1000 + (i : Int)))
        obtain ⟨p0, p1, p2, p3, p4, p5, p6, p7, p8, p9⟩ := fm6.out.cells
        clear g1 hb5
        go_wp2
        go_roundg (bs.length - (i + 1))
        case measure => have := hk.out; omega
        case rel => exact ⟨i + 1, cd, 1000 + (i : Int), hlt, by go_num, ⟨rfl⟩, ⟨fm7.out⟩, ⟨.inr ⟨hcd, H.out⟩⟩⟩
      ·have hR1 : R = (0, 0) := by rw [hR0.out, hsc.out, scan_end hlt]
       go_wp2
       have hR := hR1
       subst hR
       refine bodyPost_ret (v := .agg #[.int .i64 0, .int .i64 0]) (by simp [results, Try.results6, go_sem, p2, p3, p6, p7]) rfl ⟨rfl, ?_⟩
       exact (hfo.out.b.setCell (p := ⟨w.heap.size + 1, 0, none⟩) (Nat.le_add_right _ 1) _).setCell (p := ⟨w.heap.size + 1, 1, none⟩) (Nat.le_add_right _ 1) _
     ·obtain ⟨_, hR1⟩ := hc.out.resolve_left (fun h => hcz h.1)
      have hcz' : (c == 0) = false := by simpa using hcz
      by_cases hlt : i < bs.length
      ·go_wp2
       have hR := hR1
       subst hR
       refine bodyPost_ret (v := .agg #[.int .i64 c, .int .i64 x]) (by simp [results, Try.results6, go_sem, p2, p3, p6, p7]) rfl ⟨rfl, ?_⟩
       exact (hfo.out.b.setCell (p := ⟨w.heap.size + 1, 0, none⟩) (Nat.le_add_right _ 1) _).setCell (p := ⟨w.heap.size + 1, 1, none⟩) (Nat.le_add_right _ 1) _
      ·go_wp2
       have hR := hR1
       subst hR
       refine bodyPost_ret (v := .agg #[.int .i64 c, .int .i64 x]) (by simp [results, Try.results6, go_sem, p2, p3, p6, p7]) rfl ⟨rfl, ?_⟩
       exact (hfo.out.b.setCell (p := ⟨w.heap.size + 1, 0, none⟩) (Nat.le_add_right _ 1) _).setCell (p := ⟨w.heap.size + 1, 1, none⟩) (Nat.le_add_right _ 1) _
  ·have hcz' : (code' == 0) = false := by simpa using hcz
   go_wp2_with fail
   generalize ((w2.setCell ⟨f7, 0, none⟩ (.int .i64 code')).setCell ⟨f7, 1, none⟩ (.int .i64 idx')) = Y at *
   clear p0 p1 p2 p3 p4 p5 p6 p7 p8 p9 q0 q1 q2 q3 q4 q5 q6 q7 q8 q9
   go_loopg [8] 0 (fun k v8 wr => v8 = .int .i64 0 ∧ Aside0 (FM w wr f7 (.slice A0 os.length c0) (.slice A1 rs.length c1) (code') (idx')))
   case atStart => exact ⟨rfl, ⟨fm2.out⟩⟩
   case round =>
    obtain ⟨rfl, hf⟩ := hrel
    obtain ⟨p0, p1, p2, p3, p4, p5, p6, p7, p8, p9⟩ := hf.out.cells
    by_cases hlt : 0 < bs.length
    ·go_wp2
     have hR := hI2.out (by trivial) hcz
     subst hR
     refine bodyPost_ret (v := .agg #[.int .i64 code', .int .i64 idx']) (by simp [results, Try.results6, go_sem, p2, p3, p6, p7]) rfl ⟨rfl, ?_⟩
     exact (hf.out.b.setCell (p := ⟨w.heap.size + 1, 0, none⟩) (Nat.le_add_right _ 1) _).setCell (p := ⟨w.heap.size + 1, 1, none⟩) (Nat.le_add_right _ 1) _
    ·go_wp2
     have hR := hI2.out (by trivial) hcz
     subst hR
     refine bodyPost_ret (v := .agg #[.int .i64 code', .int .i64 idx']) (by simp [results, Try.results6, go_sem, p2, p3, p6, p7]) rfl ⟨rfl, ?_⟩
     exact (hf.out.b.setCell (p := ⟨w.heap.size + 1, 0, none⟩) (Nat.le_add_right _ 1) _).setCell (p := ⟨w.heap.size + 1, 1, none⟩) (Nat.le_add_right _ 1) _
 ·have hcz' : (code == 0) = false := by simpa using hcz
  go_wp2_with fail
  generalize w1.alloc (Obj.cells #[Value.int IntKind.i64 code, Value.int IntKind.i64 idx] 29) = X at *
  generalize w1.heap.size = f7 at *
  go_loopg [8] 0 (fun k v8 wr => v8 = .int .i64 0 ∧ Aside0 (FM w wr f7 (.slice A0 os.length c0) (.slice A1 rs.length c1) (code) (idx)))
  case atStart => exact ⟨rfl, ⟨fm.out⟩⟩
  case round =>
   obtain ⟨rfl, hf⟩ := hrel
   obtain ⟨p0, p1, p2, p3, p4, p5, p6, p7, p8, p9⟩ := hf.out.cells
   by_cases hlt : 0 < bs.length
   ·go_wp2
    have hR := hI1.out hcz
    subst hR
    refine bodyPost_ret (v := .agg #[.int .i64 code, .int .i64 idx]) (by simp [results, Try.results6, go_sem, p2, p3, p6, p7]) rfl ⟨rfl, ?_⟩
    exact (hf.out.b.setCell (p := ⟨w.heap.size + 1, 0, none⟩) (Nat.le_add_right _ 1) _).setCell (p := ⟨w.heap.size + 1, 1, none⟩) (Nat.le_add_right _ 1) _
   ·go_wp2
    have hR := hI1.out hcz
    subst hR
    refine bodyPost_ret (v := .agg #[.int .i64 code, .int .i64 idx]) (by simp [results, Try.results6, go_sem, p2, p3, p6, p7]) rfl ⟨rfl, ?_⟩
    exact (hf.out.b.setCell (p := ⟨w.heap.size + 1, 0, none⟩) (Nat.le_add_right _ 1) _).setCell (p := ⟨w.heap.size + 1, 1, none⟩) (Nat.le_add_right _ 1) _
end Go.Proofs.Ytogcgcjhoebooaa
end
section
set_option linter.unusedVariables false
set_option linter.unusedSimpArgs false
namespace Go.Proofs.Ytogcgcjhoebooaa
open Go.RowKit Go.Proofs.YtogcgcjhoebooaaW.PrintWords Go.Proofs.YtogcgcjhoebooaaW.PrintLast Go.Proofs.Ytogcgcjhoebooaa.PVeneerMatchesSpec
structure SM (w W : World) (v0 v1 : Value) (n : Nat) (far : List Bool) (lv av sv : Value) : Prop where
 b : Below w.heap.size w W
 zb : W.heap[w.heap.size]? = some (.cells #[v0, v1] 25 (0, 0))
 z6 : W.heap[w.heap.size + 1]? = some (.cells #[.slice none 0 0, .slice none 0 0, .slice none 0 0, .slice none 0 0] 36 (0, 0))
 z7 : W.heap[w.heap.size + 2]? = some (.cells #[.int .i64 0, .int .i64 0] 29 (0, 0))
 zf : W.heap[w.heap.size + 3]? = some (.cells (far.map Value.bool).toArray 4 (0, 0))
 z8 : W.heap[w.heap.size + 4]? = some (.cells #[.slice (some ⟨w.heap.size + 3, 0, none⟩) n n, lv, av, sv] 36 (0, 0))
 fl : far.length = n
theorem SM.sz {w W : World} {v0 v1 : Value} {n : Nat} {far : List Bool} {lv av sv : Value} (h : SM w W v0 v1 n far lv av sv) : w.heap.size + 5 ≤ W.heap.size := blk_lt h.z8
theorem SM.step {w W W1 : World} {v0 v1 : Value} {n : Nat} {far : List Bool} {lv av sv : Value} (h : SM w W v0 v1 n far lv av sv) (hb : Below W.heap.size W W1) : SM w W1 v0 v1 n far lv av sv :=
  ⟨h.b.trans (hb.mono h.b.size), blk_below h.zb hb, blk_below h.z6 hb, blk_below h.z7 hb, blk_below h.zf hb, blk_below h.z8 hb, h.fl⟩
theorem SM.above {w W W1 : World} {v0 v1 : Value} {n : Nat} {far : List Bool} {lv av sv : Value} (h : SM w W v0 v1 n far lv av sv) (hb : Below (w.heap.size + 5) W W1) : SM w W1 v0 v1 n far lv av sv := by
 have hk := fun k (hk : k < w.heap.size + 5) => hb.block k hk
 exact ⟨h.b.trans (hb.mono (by omega)), (hk _ (by omega)).trans h.zb, (hk _ (by omega)).trans h.z6, (hk _ (by omega)).trans h.z7, (hk _ (by omega)).trans h.zf, (hk _ (by omega)).trans h.z8, h.fl⟩
theorem SM.cells {w W : World} {v0 v1 : Value} {n : Nat} {far : List Bool} {lv av sv : Value} (h : SM w W v0 v1 n far lv av sv) :
  W.cell? ⟨w.heap.size, 0, none⟩ = some v0 ∧ W.cell? ⟨w.heap.size, 1, none⟩ = some v1 ∧ W.cell? ⟨w.heap.size + 4, 0, none⟩ = some (.slice (some ⟨w.heap.size + 3, 0, none⟩) n n) ∧ W.cell? ⟨w.heap.size + 4, 1, none⟩ = some lv ∧ W.cell? ⟨w.heap.size + 4, 2, none⟩ = some av ∧ W.cell? ⟨w.heap.size + 4, 3, none⟩ = some sv :=
 ⟨(blk_cell h.zb 0).trans rfl, (blk_cell h.zb 1).trans rfl, (blk_cell h.z8 0).trans rfl, (blk_cell h.z8 1).trans rfl, (blk_cell h.z8 2).trans rfl, (blk_cell h.z8 3).trans rfl⟩
theorem SM.res {w W : World} {v0 v1 : Value} {n : Nat} {far : List Bool} {lv av sv : Value} (h : SM w W v0 v1 n far lv av sv) :
  W.cell? ⟨w.heap.size + 1, 0, none⟩ = some (.slice none 0 0) ∧ W.cell? ⟨w.heap.size + 1, 1, none⟩ = some (.slice none 0 0) ∧ W.cell? ⟨w.heap.size + 1, 2, none⟩ = some (.slice none 0 0) ∧ W.cell? ⟨w.heap.size + 1, 3, none⟩ = some (.slice none 0 0) ∧ W.cell? ⟨w.heap.size + 2, 0, none⟩ = some (.int .i64 0) ∧ W.cell? ⟨w.heap.size + 2, 1, none⟩ = some (.int .i64 0) ∧
   (∀ i, W.frozen? ⟨w.heap.size + 1, i, none⟩ = false) ∧ ∀ i, W.frozen? ⟨w.heap.size + 2, i, none⟩ = false :=
 ⟨(blk_cell h.z6 0).trans rfl, (blk_cell h.z6 1).trans rfl, (blk_cell h.z6 2).trans rfl, (blk_cell h.z6 3).trans rfl, (blk_cell h.z7 0).trans rfl, (blk_cell h.z7 1).trans rfl, fun i => blk_frozen h.z6 i, fun i => blk_frozen h.z7 i⟩
theorem SM.frz {w W : World} {v0 v1 : Value} {n : Nat} {far : List Bool} {lv av sv : Value} (h : SM w W v0 v1 n far lv av sv) (i : Nat) : W.frozen? ⟨w.heap.size + 4, i, none⟩ = false ∧ W.frozen? ⟨w.heap.size + 3, i, none⟩ = false := ⟨blk_frozen h.z8 i, blk_frozen h.zf i⟩
theorem SM.far_cell {w W : World} {v0 v1 : Value} {n : Nat} {far : List Bool} {lv av sv : Value} (h : SM w W v0 v1 n far lv av sv) (i : Nat) (hi : i < n) : W.cell? ⟨w.heap.size + 3, i, none⟩ = some (.bool (far.getD i false)) := by
  have hl := h.fl
  simp [World.cell?, h.zf, List.getD_eq_getElem?_getD, List.getElem?_eq_getElem (show i < far.length by omega)]
theorem SM.mark {w W : World} {v0 v1 : Value} {n : Nat} {far : List Bool} {lv av sv : Value} (h : SM w W v0 v1 n far lv av sv) (i : Nat) : SM w (W.setCell ⟨w.heap.size + 3, i, none⟩ (.bool true)) v0 v1 n (far.set i true) lv av sv := by
 refine ⟨h.b.setCell (by show w.heap.size ≤ w.heap.size + 3; omega) _, blk_far h.zb (by show w.heap.size ≠ w.heap.size + 3; omega) _, blk_far h.z6 (by show w.heap.size + 1 ≠ w.heap.size + 3; omega) _, blk_far h.z7 (by show w.heap.size + 2 ≠ w.heap.size + 3; omega) _, ?_, blk_far h.z8 (by show w.heap.size + 4 ≠ w.heap.size + 3; omega) _, by rw [List.length_set]; exact h.fl⟩
 have := blk_set h.zf i (.bool true)
 rw [this]
 congr 2
 simp [List.map_set]
theorem SM.put {w W : World} {v0 v1 : Value} {n : Nat} {far : List Bool} {lv av sv : Value} (h : SM w W v0 v1 n far lv av sv) (lv' av' sv' : Value) : SM w (((W.setCell ⟨w.heap.size + 4, 1, none⟩ lv').setCell ⟨w.heap.size + 4, 2, none⟩ av').setCell ⟨w.heap.size + 4, 3, none⟩ sv') v0 v1 n far lv' av' sv' := by
 have f := fun (k : Nat) (hk : k ≠ w.heap.size + 4) => hk
 refine ⟨((h.b.setCell (by show w.heap.size ≤ w.heap.size + 4; omega) _).setCell (by show w.heap.size ≤ w.heap.size + 4; omega) _).setCell (by show w.heap.size ≤ w.heap.size + 4; omega) _, blk_far (blk_far (blk_far h.zb ?_ _) ?_ _) ?_ _, blk_far (blk_far (blk_far h.z6 ?_ _) ?_ _) ?_ _, blk_far (blk_far (blk_far h.z7 ?_ _) ?_ _) ?_ _, blk_far (blk_far (blk_far h.zf ?_ _) ?_ _) ?_ _, blk_put (blk_put (blk_put h.z8 1 _ rfl) 2 _ rfl) 3 _ rfl, h.fl⟩
 all_goals first | (show w.heap.size ≠ w.heap.size + 4; omega) | (show w.heap.size + 1 ≠ w.heap.size + 4; omega) | (show w.heap.size + 2 ≠ w.heap.size + 4; omega) | (show w.heap.size + 3 ≠ w.heap.size + 4; omega)
def LV (w W : World) (lv : Value) (L : List S54) : Prop := ∃ A c, lv = .slice A L.length c ∧ L.length ≤ c ∧ Kd.C k54 W A L.length L ∧ ∀ ad, A = some ad → w.heap.size + 5 ≤ ad.block
theorem LV.step {w W W1 : World} {lv : Value} {L : List S54} (h : LV w W lv L) (hb : Below W.heap.size W W1) : LV w W1 lv L := by
  obtain ⟨A, c, e, h1, h2, h3⟩ := h
  exact ⟨A, c, e, h1, Kd.C_below h2 hb, h3⟩
theorem LV.put {w W : World} {lv : Value} {L : List S54} (h : LV w W lv L) {p : Addr} (hp : p.block < w.heap.size + 5) (u : Value) : LV w (W.setCell p u) lv L := by
  obtain ⟨A, c, e, h1, h2, h3⟩ := h
  exact ⟨A, c, e, h1, C_set (fun _ _ _ _ h => h) h2 (fun ad had => by have := h3 ad had; omega), h3⟩
theorem sm_init (w : World) (v0 v1 : Value) (n : Nat) : SM w (((((w.alloc (Obj.cells #[v0, v1] 25)).alloc (Obj.cells #[Value.slice none 0 0, Value.slice none 0 0, Value.slice none 0 0, Value.slice none 0 0] 36)).alloc (Obj.cells #[Value.int IntKind.i64 0, Value.int IntKind.i64 0] 29)).alloc (Obj.cells (madeCells #[Value.bool false] n) 4)).alloc (Obj.cells #[Value.slice (some ⟨w.heap.size + 3, 0, none⟩) n n, Value.slice none 0 0, Value.slice none 0 0, Value.slice none 0 0] 36)) v0 v1 n (List.replicate n false) (.slice none 0 0) (.slice none 0 0) (.slice none 0 0) := by
 generalize hw1 : w.alloc (Obj.cells #[v0, v1] 25) = w1
 have b1 : Below w.heap.size w w1 := by rw [← hw1]; exact below_alloc (Below.refl _ _) _
 have s1 : w1.heap.size = w.heap.size + 1 := by rw [← hw1]; simp
 have z1 : w1.heap[w.heap.size]? = some (.cells #[v0, v1] 25 (0, 0)) := by rw [← hw1]; exact alloc_block w _
 generalize hw2 : w1.alloc (Obj.cells #[Value.slice none 0 0, Value.slice none 0 0, Value.slice none 0 0, Value.slice none 0 0] 36) = w2
 have b2 : Below w.heap.size w w2 := by rw [← hw2]; exact below_alloc b1 _
 have s2 : w2.heap.size = w.heap.size + 2 := by rw [← hw2]; simp [s1]
 have z2 : w2.heap[w.heap.size + 1]? = some (.cells #[Value.slice none 0 0, Value.slice none 0 0, Value.slice none 0 0, Value.slice none 0 0] 36 (0, 0)) := by rw [← hw2, ← s1]; exact alloc_block w1 _
 have y1 : w2.heap[w.heap.size]? = some (.cells #[v0, v1] 25 (0, 0)) := by rw [← hw2]; exact blk_alloc z1 _
 generalize hw3 : w2.alloc (Obj.cells #[Value.int IntKind.i64 0, Value.int IntKind.i64 0] 29) = w3
 have b3 : Below w.heap.size w w3 := by rw [← hw3]; exact below_alloc b2 _
 have s3 : w3.heap.size = w.heap.size + 3 := by rw [← hw3]; simp [s2]
 have z3 : w3.heap[w.heap.size + 2]? = some (.cells #[Value.int IntKind.i64 0, Value.int IntKind.i64 0] 29 (0, 0)) := by rw [← hw3, ← s2]; exact alloc_block w2 _
 have x1 : w3.heap[w.heap.size]? = some (.cells #[v0, v1] 25 (0, 0)) := by rw [← hw3]; exact blk_alloc y1 _
 have x2 : w3.heap[w.heap.size + 1]? = some (.cells #[Value.slice none 0 0, Value.slice none 0 0, Value.slice none 0 0, Value.slice none 0 0] 36 (0, 0)) := by rw [← hw3]; exact blk_alloc z2 _
 generalize hw4 : w3.alloc (Obj.cells (madeCells #[Value.bool false] n) 4) = w4
 have b4 : Below w.heap.size w w4 := by rw [← hw4]; exact below_alloc b3 _
 have s4 : w4.heap.size = w.heap.size + 4 := by rw [← hw4]; simp [s3]
 have z4 : w4.heap[w.heap.size + 3]? = some (.cells ((List.replicate n false).map Value.bool).toArray 4 (0, 0)) := by
  have h := alloc_block w3 (Obj.cells (madeCells #[Value.bool false] n) 4)
  rw [← hw4, ← s3, h, made_list (.bool false), show (List.replicate n (Value.bool false)) = (List.replicate n false).map Value.bool by simp]
 have u1 : w4.heap[w.heap.size]? = some (.cells #[v0, v1] 25 (0, 0)) := by rw [← hw4]; exact blk_alloc x1 _
 have u2 : w4.heap[w.heap.size + 1]? = some (.cells #[Value.slice none 0 0, Value.slice none 0 0, Value.slice none 0 0, Value.slice none 0 0] 36 (0, 0)) := by rw [← hw4]; exact blk_alloc x2 _
 have u3 : w4.heap[w.heap.size + 2]? = some (.cells #[Value.int IntKind.i64 0, Value.int IntKind.i64 0] 29 (0, 0)) := by rw [← hw4]; exact blk_alloc z3 _
 refine ⟨below_alloc b4 _, blk_alloc u1 _, blk_alloc u2 _, blk_alloc u3 _, blk_alloc z4 _, ?_, by simp⟩
 rw [← s4]
 exact alloc_block w4 _
theorem C_nil54 (W : World) : Kd.C k54 W none 0 [] := ⟨rfl, Nat.zero_le _, fun hp => absurd hp (Nat.lt_irrefl 0)⟩
theorem LV.nil (w W : World) : LV w W (.slice none 0 0) [] := ⟨none, 0, rfl, Nat.le_refl _, C_nil54 W, fun ad h => by cases h⟩
theorem LV.cell {w W : World} {lv : Value} {L : List S54} (h : LV w W lv L) : ∃ A c, lv = .slice A L.length c ∧ L.length ≤ c ∧ Kd.C k54 W A L.length L := by
  obtain ⟨A, c, e, h1, h2, _⟩ := h
  exact ⟨A, c, e, h1, h2⟩
theorem C_move {α : Type} {d : Kd α} (hd : ∀ (W W' : World) (x : α) (cs : List Value), d.K W x cs → d.K W' x cs) {w W' : World} {A : Option Addr} {n : Nat} {xs : List α} (h : d.C w A n xs) (hm : ∀ ad, A = some ad → W'.heap[ad.block]? = w.heap[ad.block]?) : d.C W' A n xs := by
 obtain ⟨hl, hm', hr⟩ := h
 refine ⟨hl, hm', fun h0 => ?_⟩
 obtain ⟨ad, e, hc⟩ := hr h0
 refine ⟨ad, e, fun j x hx => ?_⟩
 obtain ⟨c, h1, h2, h3⟩ := hc j x hx
 refine ⟨c, h1, hd _ _ _ _ h2, fun i v hv => ?_⟩
 rw [World.cell?_of_block (w := w)]
 ·exact h3 i v hv
 ·have e2 : ∀ k, (ad.add k).block = ad.block := fun k => by unfold Addr.add; split <;> rfl
  rw [e2]
  exact hm ad e
structure CM (w wr wx : World) (f : Nat) (s9 s10 : Value) (a : Asg) : Prop where
  b : Below wr.heap.size wr wx
  row : RowI (w.heap.size + 5) wx s9 a.ad
  sl : IsSl s10
  blk : wx.heap[f]? = some (.cells #[.int .i64 a.code, .int .i64 a.idx] 29 (0, 0))
  ge : wr.heap.size ≤ f
theorem row_set {b0 : Nat} {X : World} {v : Value} {xs : List Int} (h : RowI b0 X v xs) {p : Addr} (u : Value) (hp : ∀ A c, v = .slice A xs.length c → 0 < xs.length → ∀ ad, A = some ad → ad.block ≠ p.block) : RowI b0 (X.setCell p u) v xs := by
 obtain ⟨A, c, e, h1, h2, h3⟩ := h
 refine ⟨A, c, e, h1, ?_, h3⟩
 by_cases hn : 0 < xs.length
 ·exact C_set (fun _ _ _ _ h => h) h2 (fun ad had => hp A c e hn ad had)
 ·obtain ⟨a1, a2, a3⟩ := h2
  exact ⟨a1, a2, fun hh => absurd hh hn⟩
theorem cm_end {w wr X : World} {f b0 : Nat} {va vs : Value} {a : Asg} (hb : Below wr.heap.size wr X) (hr : RowI b0 X va a.ad) (hs : IsSl vs) (hf : X.heap[f]? = some (.cells #[.int .i64 0, .int .i64 0] 29 (0, 0))) (hge : wr.heap.size ≤ f) (hb0 : w.heap.size + 5 ≤ b0)
  (hne : ∀ A c, va = .slice A a.ad.length c → 0 < a.ad.length → ∀ ad, A = some ad → ad.block ≠ f) :
  CM w wr ((X.setCell ⟨f, 0, none⟩ (.int .i64 a.code)).setCell ⟨f, 1, none⟩ (.int .i64 a.idx)) f va vs a := by
 refine ⟨(hb.setCell (p := ⟨f, 0, none⟩) hge _).setCell (p := ⟨f, 1, none⟩) hge _, ?_, hs, blk_put (blk_put hf 0 _ rfl) 1 _ rfl, hge⟩
 have h1 := row_set (row_set hr (p := ⟨f, 0, none⟩) (.int .i64 a.code) hne) (p := ⟨f, 1, none⟩) (.int .i64 a.idx) hne
 obtain ⟨A, c, e, h1, h2, h3⟩ := h1
 exact ⟨A, c, e, h1, h2, fun ad had => Nat.le_trans hb0 (h3 ad had)⟩
theorem cm_new {w wr X : World} {f b0 : Nat} {va vs : Value} {a : Asg} (hb : Below wr.heap.size wr X) (hr : RowI b0 X va a.ad) (hs : IsSl vs) (hf : X.heap[f]? = some (.cells #[.int .i64 0, .int .i64 0] 29 (0, 0))) (hge : wr.heap.size ≤ f) (hb0 : w.heap.size + 5 ≤ b0) (hlt : f < b0) :
  CM w wr ((X.setCell ⟨f, 0, none⟩ (.int .i64 a.code)).setCell ⟨f, 1, none⟩ (.int .i64 a.idx)) f va vs a := by
 refine cm_end hb hr hs hf hge hb0 (fun A c e hn ad had => ?_)
 obtain ⟨A', c', e', h1, h2, h3⟩ := hr
 rw [e'] at e
 cases e
 have := h3 ad had
 omega
theorem cm_old {w wr X : World} {b0 : Nat} {va vs : Value} {a : Asg} (hb : Below wr.heap.size wr X) (hr : RowI b0 X va a.ad) (hs : IsSl vs) (hb0 : w.heap.size + 5 ≤ b0) :
  CM w wr (((X.alloc (Obj.cells #[Value.int IntKind.i64 0, Value.int IntKind.i64 0] 29)).setCell ⟨X.heap.size, 0, none⟩ (.int .i64 a.code)).setCell ⟨X.heap.size, 1, none⟩ (.int .i64 a.idx)) X.heap.size va vs a := by
 have hbl : Below X.heap.size X (X.alloc (Obj.cells #[Value.int IntKind.i64 0, Value.int IntKind.i64 0] 29)) := below_alloc (Below.refl _ _) _
 obtain ⟨A, c, e, h1, h2, h3⟩ := hr
 refine cm_end (hb.trans (hbl.mono hb.size)) ⟨A, c, e, h1, Kd.C_below h2 hbl, h3⟩ hs (alloc_block X _) hb.size hb0 (fun A' c' e' hn ad had => ?_)
 rw [e] at e'
 cases e'
 obtain ⟨b, o, e2, hb2, _⟩ := openI h2 hn
 rw [e2] at had
 cases had
 show b ≠ X.heap.size
 omega
theorem own_bel {W W1 : World} {base e size n : Nat} {v : Value} {xs : List Value} (h : W.ownsRow base e size v n xs) (hb : Below W.heap.size W W1) : W1.ownsRow base e size v n xs :=
  own_move h (fun k hk => hb.block k (h.lt k hk).2)
theorem Fr.above {W W1 W2 : World} {gf gs : Nat} (h : Fr W W1 gf gs) (hb : Below W.heap.size W1 W2) : Fr W W2 gf gs :=
  ⟨Nat.le_trans h.size hb.size, hb.os.trans h.os, hb.tape.trans h.tape, hb.output.trans h.output, fun k hk h1 h2 => (hb.block k hk).trans (h.block k hk h1 h2)⟩
theorem row_fr {b0 g : Nat} {W W1 : World} {v : Value} {xs : List Int} (h : RowI b0 W v xs) (hf : Fr W W1 g g) (hg : g < b0) : RowI b0 W1 v xs := by
 obtain ⟨A, c, e, h1, h2, h3⟩ := h
 refine ⟨A, c, e, h1, ?_, h3⟩
 by_cases hn : 0 < xs.length
 ·obtain ⟨b, o, eA, hb, _⟩ := openI h2 hn
  refine C_move k1_any h2 (fun ad had => ?_)
  have h4 := h3 ad had
  rw [eA] at had
  cases had
  simp only at h4
  exact hf.block b hb (by omega) (by omega)
 ·exact ⟨h2.1, h2.2.1, fun hh => absurd hh hn⟩
theorem row_put {b0 : Nat} {X : World} {v : Value} {xs : List Int} (h : RowI b0 X v xs) {p : Addr} (u : Value) (hp : p.block < b0) : RowI b0 (X.setCell p u) v xs :=
  row_set h u (fun A c e hn ad had => by
    obtain ⟨A', c', e', h1, h2, h3⟩ := h
    rw [e'] at e
    cases e
    have := h3 ad had
    omega)
theorem SM.bools {w W : World} {v0 v1 : Value} {n : Nat} {far : List Bool} {lv av sv : Value} (h : SM w W v0 v1 n far lv av sv) (hn : n ≤ 400) : RowD Kd.bool (w.heap.size + 3) W (.slice (some ⟨w.heap.size + 3, 0, none⟩) n n) far := by
 have hl := h.fl
 refine ⟨some ⟨w.heap.size + 3, 0, none⟩, n, by rw [hl], by omega, ⟨rfl, by omega, fun h0 => ⟨⟨w.heap.size + 3, 0, none⟩, rfl, fun j p hj => ?_⟩⟩, fun ad had => by cases had; exact Nat.le_refl _⟩
 have hjl : j < far.length := (List.getElem?_eq_some_iff.1 hj).1
 have hc := h.far_cell j (by omega)
 rw [List.getD_eq_getElem?_getD, hj, Option.getD_some] at hc
 refine ⟨[.bool p], rfl, rfl, fun i u hu => ?_⟩
 match i, hu with
 | 0, hu =>
  injection hu with hu
  subst hu
  have e : ((⟨w.heap.size + 3, 0, none⟩ : Addr).add (j * Kd.bool.sz + 0)) = ⟨w.heap.size + 3, j, none⟩ := by
   have h1 : Kd.bool.sz = 1 := rfl
   rw [h1, Nat.mul_one, Nat.add_zero]
   unfold Addr.add
   split <;> simp_all
  rw [e]
  exact hc
 | i + 1, hu => cases hu
theorem cells54_one (l : List S54) : ∀ u ∈ cells54 l, u.oneCell' = true := by
  intro u hu
  simp only [cells54, List.mem_flatMap] at hu
  obtain ⟨x, _, hu⟩ := hu
  simp at hu
  rcases hu with rfl | rfl | rfl | rfl | rfl <;> rfl
theorem cells54_read {w : World} {b o n : Nat} {l : List S54} (hl : l.length = n) (h : ∀ i, i < n → w.cell? ⟨b, o + i * 5, none⟩ = some (.int .i64 (l.getD i z54).f0) ∧ w.cell? ⟨b, o + i * 5 + 1, none⟩ = some (.int .i64 (l.getD i z54).f1) ∧ w.cell? ⟨b, o + i * 5 + 2, none⟩ = some (.int .i64 (l.getD i z54).f2) ∧ w.cell? ⟨b, o + i * 5 + 3, none⟩ = some (.int .i64 (l.getD i z54).f3) ∧ w.cell? ⟨b, o + i * 5 + 4, none⟩ = some (.int .i64 (l.getD i z54).f4)) :
  ∀ j u, (cells54 l)[j]? = some u → w.cell? ((⟨b, o, none⟩ : Addr).add j) = some u := by
 intro j u hu
 have hj : j < (cells54 l).length := (List.getElem?_eq_some_iff.1 hu).1
 rw [cells54_length] at hj
 have ha : (⟨b, o, none⟩ : Addr).add j = ⟨b, o + j, none⟩ := by unfold Addr.add; split <;> simp_all
 rw [ha]
 have hq : j / 5 < l.length := by omega
 obtain ⟨a0, a1, a2, a3, a4⟩ := cells54_at l (j / 5) hq
 obtain ⟨b0, b1, b2, b3, b4⟩ := h (j / 5) (by omega)
 have : j % 5 = 0 ∨ j % 5 = 1 ∨ j % 5 = 2 ∨ j % 5 = 3 ∨ j % 5 = 4 := by omega
 rcases this with h0 | h0 | h0 | h0 | h0
 ·rw [show j / 5 * 5 = j by omega] at a0 b0; rw [b0, ← a0, hu]
 ·rw [show j / 5 * 5 + 1 = j by omega] at a1; rw [show o + j / 5 * 5 + 1 = o + j by omega] at b1; rw [b1, ← a1, hu]
 ·rw [show j / 5 * 5 + 2 = j by omega] at a2; rw [show o + j / 5 * 5 + 2 = o + j by omega] at b2; rw [b2, ← a2, hu]
 ·rw [show j / 5 * 5 + 3 = j by omega] at a3; rw [show o + j / 5 * 5 + 3 = o + j by omega] at b3; rw [b3, ← a3, hu]
 ·rw [show j / 5 * 5 + 4 = j by omega] at a4; rw [show o + j / 5 * 5 + 4 = o + j by omega] at b4; rw [b4, ← a4, hu]
theorem append54 {ops : Array Oper} {rest : List Oper} {o : Oper} {a : Act} {Q : Exit → Act → World → Prop} {W : World} (hgd : o.guard = none) (s x : Operand) (ho : o.op = .call { callee := .builtin .append, args := #[s, x], argTypes := #[32, 32] })
  (A : Option Addr) (c : Nat) (l : List S54) (hs : a.eval s = .slice none 0 0) (hx : a.eval x = .slice A l.length c) (hC : Kd.C k54 W A l.length l) (hm : l.length ≤ 1000)
  (h : ∀ v1 w1, w1.ownsRow W.heap.size 54 5 v1 l.length (cells54 l) → Below W.heap.size W w1 → wpList Try.prog ops Q rest (a.put o.dst v1) w1) : wpList Try.prog ops Q (o :: rest) a W := by
 obtain ⟨i0, hi, hzz⟩ := Option.map_eq_some_iff.1 info54
 simp only [Prod.mk.injEq] at hzz
 obtain ⟨hz0, hz1, hz2⟩ := hzz
 cases A with
 | none =>
  have h0 : l = [] := by
   cases l with
   | nil => rfl
   | cons x l => obtain ⟨ad, e, _⟩ := hC.2.2 (by simp); cases e
  subst h0
  have hr : (Builtin.append_ #[32, 32] o.type #[.slice none 0 0, .slice none 0 c]).run Try.prog W = .ok (.slice none 0 0) W := by
   simp [Builtin.append_, run_underlying Try.underlying32, sizeOf, typeInfo, hi, Builtin.lenOf, Builtin.firstCells]
  refine wpList_plain hgd fun K hK => ?_
  unfold Oper.wp execOp
  simp only [ho, resolve, invoke, builtin, Sem.run_bind, Sem.run_pure, Result.andThen_ok, List.map_toArray, List.map_cons, List.map_nil, hs, hx, List.length_nil, hr]
  exact hK _ _ (h _ _ (World.ownsRow_nil W _ _ _) (Below.refl _ _))
 | some ad =>
  refine wpList_append_own_at W hgd s x 32 ho W.heap.size 54 i0 _ 5 40 Try.underlying32 hi hz0 hz1 hz2 rfl (by decide) _ 0 [] hs (World.ownsRow_nil W _ _ _) ad l.length c (cells54 l) hx (cells54_length l) ?c1 (cells54_one l) (by simp only [maxLen]; omega) (by omega) (Nat.le_refl _) ?_
  case c1 =>
   intro j u hu
   have hj : j < (cells54 l).length := (List.getElem?_eq_some_iff.1 hu).1
   rw [cells54_length] at hj
   obtain ⟨b, o, e, hb, hx'⟩ := open54 hC (by omega)
   cases e
   exact cells54_read rfl hx' j u hu
  ·intro v' w' hown hg _ _
   refine h v' w' (by simpa using hown) ?_
   exact (Below.refl W.heap.size W).grown hg (Nat.le_refl _) (fun k hk => by simp [Value.ownBlock] at hk)
theorem pass_step {items : List S57} {bs : List S48} {a : List Int} {i : Nat} (hi : i < bs.length) (far : List Bool) (L : List S54) (ag : Bool) :
  pass items bs a (bs.length - i) i far L ag = if far.getD i false || reach a (bs.getD i z48) then pass items bs a (bs.length - (i + 1)) (i + 1) far L ag else pass items bs a (bs.length - (i + 1)) (i + 1) (far.set i true) (addStub items L (bs.getD i z48)) true := by
 obtain ⟨d, hd⟩ : ∃ d, bs.length - i = d + 1 := ⟨bs.length - i - 1, by omega⟩
 rw [hd, pass, show bs.length - (i + 1) = d by omega]
end Go.Proofs.Ytogcgcjhoebooaa
end
section
set_option linter.unusedVariables false
set_option linter.unusedSimpArgs false
namespace Go.Proofs.Ytogcgcjhoebooaa
open Go.RowKit Go.Proofs.YtogcgcjhoebooaaW.PrintWords Go.Proofs.YtogcgcjhoebooaaW.PrintLast Go.Proofs.Ytogcgcjhoebooaa.PVeneerMatchesSpec
set_option maxHeartbeats 8000000 in
set_option maxRecDepth 100000 in
theorem settled_calls {w : World} {A0 A1 A2 AB : Option Addr} {c0 c1 c2 cB : Nat} {os : List S72} {rs : List S76} {items : List S57} {bs : List S48}
    (h0 : Kd.C k72 w A0 os.length os) (hc0 : os.length ≤ c0) (h1 : Kd.C k76 w A1 rs.length rs) (hc1 : rs.length ≤ c1) (h2 : Kd.C k57 w A2 items.length items) (hc2 : items.length ≤ c2) (hB : Kd.C k48 w AB bs.length bs) (hcB : bs.length ≤ cB)
    (hvo : ValidO os) {m : Nat} (hvi : ValidI items m) (hbl : bs.length ≤ 400) (hob : ∀ i, i < bs.length → OkB items.length (bs.getD i z48)) :
    Calls Try.prog 7 #[.agg #[.slice A0 os.length c0, .slice A1 rs.length c1], .slice A2 items.length c2, .slice AB bs.length cB] w fun e W' => ∃ vf vl va vs : Value, e = .returned (.tuple #[.agg #[vf, vl, va, vs], .agg #[.int .i64 (settled os items bs).code, .int .i64 (settled os items bs).idx]]) ∧
      Below w.heap.size w W' ∧ (IsSl vf ∧ IsSl vl ∧ IsSl va ∧ IsSl vs) ∧ ((settled os items bs).code = 0 → (settled os items bs).idx = 0 ∧ RowD Kd.bool w.heap.size W' vf (settled os items bs).far ∧ RowD k54 w.heap.size W' vl (settled os items bs).L ∧ RowD (Kd.int .i64) w.heap.size W' va (settled os items bs).ad) := by
  have hu25 := Try.underlying25
  have hu29 := Try.underlying29
  have hu36 := Try.underlying36
  have hu48 := Try.underlying48
  have hu54 := Try.underlying54
  have hu57 := Try.underlying57
  have hil := hvi.len
  have hmk31 := print_make_of (P := Try.prog) 31 4 (.bool false) 1 Try.underlying31 info4 rfl (by decide) bs.length (by omega)
  have HS : settled os items bs = settleFrom os items bs (bs.length + 1) (List.replicate bs.length false) [] := rfl
  generalize settled os items bs = R at *
  replace HS := Aside0.mk HS
  replace h0 := Aside0.mk h0
  replace h1 := Aside0.mk h1
  replace h2 := Aside0.mk h2
  replace hB := Aside0.mk hB
  go_enter Try.func7, Try.ntmps7
  go_wp2_with fail
  have hSM0 := Aside0.mk (sm_init w (.slice A0 os.length c0) (.slice A1 rs.length c1) bs.length)
  simp only [Nat.add_assoc, Nat.reduceAdd]
  generalize (((((w.alloc (Obj.cells #[Value.slice A0 os.length c0, Value.slice A1 rs.length c1] 25)).alloc (Obj.cells #[Value.slice none 0 0, Value.slice none 0 0, Value.slice none 0 0, Value.slice none 0 0] 36)).alloc (Obj.cells #[Value.int IntKind.i64 0, Value.int IntKind.i64 0] 29)).alloc (Obj.cells (madeCells #[Value.bool false] bs.length) 4)).alloc (Obj.cells #[Value.slice (some ⟨w.heap.size + 3, 0, none⟩) bs.length bs.length, Value.slice none 0 0, Value.slice none 0 0, Value.slice none 0 0] 36)) = w0 at *
  clear hmk31
  go_loopg [] (bs.length + 1) (fun k wr => ∃ (far : List Bool) (L : List S54) (lv av sv : Value), Aside0 (SM w wr (.slice A0 os.length c0) (.slice A1 rs.length c1) bs.length far lv av sv) ∧ Aside0 (LV w wr lv L) ∧ Aside0 (J items bs far L ∧ R = settleFrom os items bs k far L ∧ bs.length - far.count true < k))
  case atStart => exact ⟨List.replicate bs.length false, [], _, _, _, hSM0, ⟨LV.nil _ _⟩, ⟨J.init items bs, HS.out, by omega⟩⟩
  case round =>
    clear hSM0 HS
    obtain ⟨wo, rfl⟩ : ∃ wo : World, wo = wr := ⟨_, rfl⟩
    obtain ⟨far, L, lv, av, sv, hSM, hLV, hJ⟩ := hrel
    obtain ⟨hj, hR, hk⟩ := hJ.out
    obtain ⟨ng, rfl⟩ : ∃ g', gk = g' + 1 := ⟨gk - 1, by omega⟩
    have hL := hj.le hbl
    have hoi := okI_ext hvi hL
    have hin := Aside0.mk (assign_in hvo hoi)
    rw [settleFrom] at hR
    obtain ⟨Al, cl, rfl, hcl, hCl, hAl⟩ := hLV.out
    have hoi0 : OkI items := ⟨hil, fun i hi => by have := hvi.x i hi; omega⟩
    have hE : Aside0 (∀ W, Below wo.heap.size wo W → Calls Try.prog 24 #[.slice A2 items.length c2, .slice Al L.length cl] W fun e W' => ∃ v0 : Value, e = .returned v0 ∧ RowD k57 W.heap.size W' v0 (ext items L) ∧ Below W.heap.size W W') :=
      ⟨fun W hW => ext_calls hL hoi0 (Kd.C_below h2.out (hSM.out.b.trans (hW.mono hSM.out.b.size))) hc2 (Kd.C_below hCl hW) hcl⟩
    have hP : Aside0 (∀ W Ax cx, Below wo.heap.size wo W → (ext items L).length ≤ cx → Kd.C k57 W Ax (ext items L).length (ext items L) → Calls Try.prog 23 #[.agg #[.slice A0 os.length c0, .slice A1 rs.length c1], .slice Ax (ext items L).length cx] W fun e W' => ∃ v0 v1 : Value, e = .returned (.tuple #[v0, v1, .agg #[.int .i64 (assign os (ext items L)).code, .int .i64 (assign os (ext items L)).idx]]) ∧ RowI W.heap.size W' v0 (assign os (ext items L)).ad ∧ IsSl v1 ∧ Below W.heap.size W W') :=
      ⟨fun W Ax cx hW hcx hCx => placed_calls hvo hoi (Kd.C_below h0.out (hSM.out.b.trans (hW.mono hSM.out.b.size))) hc0 (Kd.C_below h1.out (hSM.out.b.trans (hW.mono hSM.out.b.size))) hc1 hCx hcx⟩
    generalize assign os (ext items L) = ga at *
    have hsm5 := Aside0.mk hSM.out.sz
    obtain ⟨p0, p1, p2, p3, p4, p5⟩ := hSM.out.cells
    have hb0 : Aside0 (Below wo.heap.size wo wo.drew) := ⟨below_drew (Below.refl _ _)⟩
    go_wp2_with fail
    go_cut [9, 10, 11] from 28 to 37 (fun s9 s10 s11 wx => ∃ f : Nat, s11 = .pointer (some ⟨f, 0, none⟩) ∧ Aside0 (CM w wo wx f s9 s10 ga))
    case first =>
        refine start_ (n := 14) (S := (fun w' => w'.cell? ⟨w.heap.size, 0, none⟩ = some (.slice A0 os.length c0) ∧ w'.cell? ⟨w.heap.size, 1, none⟩ = some (.slice A1 rs.length c1) ∧ w'.cell? ⟨w.heap.size + 4, 1, none⟩ = some (.slice Al L.length cl))) (ds := [13]) #[false, false, false, false, false, false, false, false, false, false, false, false, false, false] (by kernel_rfl) rfl rfl ⟨p0, p1, p3⟩ (fun hHeld => ?_)
        refine take_ (i := 0) (N := (some 29)) (v := ?_) (a' := ?_) #[true, false, false, false, false, false, false, false, false, false, false, false, false, false] rfl rfl (by kernel_rfl) (fun _ _ _ h => h) (Or.inl ⟨by rfl, ?_⟩) hHeld ?_ ?_
        rotate_left
        · rintro w' ⟨s0, s1, s2⟩
          go_simp
          with_reducible rfl
        rotate_left
        · simp only [Act.put, List.setIfInBounds_toArray, List.set_cons_zero, List.set_cons_succ, i64_w, i32_w]
          rfl
        refine take_ (i := 1) (N := (some 30)) (v := ?_) (a' := ?_) #[true, true, false, false, false, false, false, false, false, false, false, false, false, false] rfl rfl (by kernel_rfl) (fun _ _ _ h => h) (Or.inl ⟨by rfl, ?_⟩) hHeld ?_ ?_
        rotate_left
        · rintro w' ⟨s0, s1, s2⟩
          go_simp
          with_reducible rfl
        rotate_left
        · simp only [Act.put, List.setIfInBounds_toArray, List.set_cons_zero, List.set_cons_succ, i64_w, i32_w]
          rfl
        refine take_ (i := 2) (N := (some 31)) (v := ?_) (a' := ?_) #[true, true, true, false, false, false, false, false, false, false, false, false, false, false] rfl rfl (by kernel_rfl) (fun _ _ _ h => h) (Or.inl ⟨by rfl, ?_⟩) hHeld ?_ ?_
        rotate_left
        · rintro w' ⟨s0, s1, s2⟩
          go_simp
          with_reducible rfl
        rotate_left
        · simp only [Act.put, List.setIfInBounds_toArray, List.set_cons_zero, List.set_cons_succ, i64_w, i32_w]
          rfl
        refine take_ (i := 3) (N := (some 32)) (v := ?_) (a' := ?_) #[true, true, true, true, false, false, false, false, false, false, false, false, false, false] rfl rfl (by kernel_rfl) (fun _ _ _ h => h) (Or.inl ⟨by rfl, ?_⟩) hHeld ?_ ?_
        rotate_left
        · rintro w' ⟨s0, s1, s2⟩
          go_simp
          with_reducible rfl
        rotate_left
        · simp only [Act.put, List.setIfInBounds_toArray, List.set_cons_zero, List.set_cons_succ, i64_w, i32_w]
          rfl
        refine two_ (i := 4) (j := 10) (Ni := (some 33)) (Nj := (some 11)) #[true, true, true, true, true, false, false, false, false, false, false, false, false, false] #[true, true, true, true, false, false, false, false, false, false, true, false, false, false] rfl rfl rfl rfl (by kernel_rfl) (by decide) (by decide) (fun K hK => ?_) (fun K hK => ?_)
        · -- extended first
          refine goes_ Try.func24 (by kernel_rfl) rfl #[.slice A2 items.length c2, .slice Al L.length cl] (by rfl) rfl rfl (by (try simp only [List.map_toArray, List.map_cons, List.map_nil]); first | done | rfl) ((hE.out _ hb0.out).mono ?_)
          rintro e w1 ⟨vx, rfl, ⟨Ax, cx, rfl, hcx, hCx, _⟩, hbx⟩
          refine ⟨_, rfl, ?_⟩
          have hb1 := Aside0.mk (hb0.out.trans (hbx.mono hb0.out.size))
          replace hCx := Aside0.mk hCx
          obtain ⟨t0, t1, _, t3, _, _⟩ := (hSM.out.step hb1.out).cells
          refine hK.out _ _ ⟨t0, t1, t3⟩ (fun hHeld => ?_)
          clear hK K t0 t1 t3
          refine norm_ (a' := ?_) ?_ ?_
          rotate_left
          · simp only [Act.put, List.setIfInBounds_toArray, List.set_cons_zero, List.set_cons_succ, i64_w, i32_w]
            rfl
          refine two_ (i := 5) (j := 10) (Ni := (some 34)) (Nj := (some 11)) #[true, true, true, true, true, true, false, false, false, false, false, false, false, false] #[true, true, true, true, true, false, false, false, false, false, true, false, false, false] rfl rfl rfl rfl (by kernel_rfl) (by decide) (by decide) (fun K hK => ?_) (fun K hK => ?_)
          · refine goes_ Try.func23 (by kernel_rfl) rfl #[.agg #[.slice A0 os.length c0, .slice A1 rs.length c1], .slice Ax (ext items L).length cx] (by rfl) rfl rfl (by (try simp only [List.map_toArray, List.map_cons, List.map_nil]); first | done | rfl) ((hP.out _ Ax cx hb1.out hcx (hCx.out)).mono ?_)
            rintro e w2 ⟨va, vs, rfl, hra, hrs, hbp⟩
            refine ⟨_, rfl, ?_⟩
            have hb2 := Aside0.mk (hb1.out.trans (hbp.mono hb1.out.size))
            replace hra := Aside0.mk hra
            obtain ⟨t0, t1, _, t3, _, _⟩ := (hSM.out.step hb2.out).cells
            refine hK.out _ _ ⟨t0, t1, t3⟩ (fun hHeld => ?_)
            clear hK K t0 t1 t3
            refine norm_ (a' := ?_) ?_ ?_
            rotate_left
            · simp only [Act.put, List.setIfInBounds_toArray, List.set_cons_zero, List.set_cons_succ, i64_w, i32_w]
              rfl
            refine take_ (i := 6) (N := (some 28)) (v := ?_) (a' := ?_) #[true, true, true, true, true, true, true, false, false, false, false, false, false, false] rfl rfl (by kernel_rfl) (fun _ _ _ h => h) (Or.inl ⟨by rfl, ?_⟩) hHeld ?_ ?_
            rotate_left
            · rintro w' ⟨s0, s1, s2⟩
              go_simp
              with_reducible rfl
            rotate_left
            · simp only [Act.put, List.setIfInBounds_toArray, List.set_cons_zero, List.set_cons_succ, i64_w, i32_w]
              rfl
            refine take_ (i := 7) (N := (some 35)) (v := ?_) (a' := ?_) #[true, true, true, true, true, true, true, true, false, false, false, false, false, false] rfl rfl (by kernel_rfl) (fun _ _ _ h => h) (Or.inl ⟨by rfl, ?_⟩) hHeld ?_ ?_
            rotate_left
            · rintro w' ⟨s0, s1, s2⟩
              go_simp
              with_reducible rfl
            rotate_left
            · simp only [Act.put, List.setIfInBounds_toArray, List.set_cons_zero, List.set_cons_succ, i64_w, i32_w]
              rfl
            refine take_ (i := 8) (N := (some 36)) (v := ?_) (a' := ?_) #[true, true, true, true, true, true, true, true, true, false, false, false, false, false] rfl rfl (by kernel_rfl) (fun _ _ _ h => h) (Or.inl ⟨by rfl, ?_⟩) hHeld ?_ ?_
            rotate_left
            · rintro w' ⟨s0, s1, s2⟩
              go_simp
              with_reducible rfl
            rotate_left
            · simp only [Act.put, List.setIfInBounds_toArray, List.set_cons_zero, List.set_cons_succ, i64_w, i32_w]
              rfl
            refine take_ (i := 9) (N := (some 37)) (v := ?_) (a' := ?_) #[true, true, true, true, true, true, true, true, true, true, false, false, false, false] rfl rfl (by kernel_rfl) (fun _ _ _ h => h) (Or.inl ⟨by rfl, ?_⟩) hHeld ?_ ?_
            rotate_left
            · rintro w' ⟨s0, s1, s2⟩
              go_simp
              with_reducible rfl
            rotate_left
            · simp only [Act.put, List.setIfInBounds_toArray, List.set_cons_zero, List.set_cons_succ, i64_w, i32_w]
              rfl
            refine one_ (i := 10) (N := (some 11)) #[true, true, true, true, true, true, true, true, true, true, true, false, false, false] rfl rfl (by kernel_rfl) (by decide) (fun K hK => ?_)
            refine value_ (v := .pointer (some ⟨(w2).heap.size, 0, none⟩)) (w1 := (w2).alloc (Obj.cells #[Value.int IntKind.i64 0, Value.int IntKind.i64 0] 29)) (by rfl) rfl ?_ ?_
            · go_simp
            have hb3 := Aside0.mk (hb2.out.trans ((below_alloc (Below.refl (w2).heap.size _) (Obj.cells #[Value.int IntKind.i64 0, Value.int IntKind.i64 0] 29)).mono hb2.out.size))
            obtain ⟨t0, t1, _, t3, _, _⟩ := (hSM.out.step hb3.out).cells
            refine hK.out _ _ ⟨t0, t1, t3⟩ (fun hHeld => ?_)
            clear hK K t0 t1 t3
            refine norm_ (a' := ?_) ?_ ?_
            rotate_left
            · simp only [Act.put, List.setIfInBounds_toArray, List.set_cons_zero, List.set_cons_succ, i64_w, i32_w]
              rfl
            refine take_ (i := 11) (N := (some 9)) (v := ?_) (a' := ?_) #[true, true, true, true, true, true, true, true, true, true, true, true, false, false] rfl rfl (by kernel_rfl) (fun _ _ _ h => h) (Or.inl ⟨by rfl, ?_⟩) hHeld ?_ ?_
            rotate_left
            · rintro w' ⟨s0, s1, s2⟩
              go_simp
              with_reducible rfl
            rotate_left
            · simp only [Act.put, List.setIfInBounds_toArray, List.set_cons_zero, List.set_cons_succ, i64_w, i32_w]
              rfl
            refine take_ (i := 12) (N := (some 10)) (v := ?_) (a' := ?_) #[true, true, true, true, true, true, true, true, true, true, true, true, true, false] rfl rfl (by kernel_rfl) (fun _ _ _ h => h) (Or.inl ⟨by rfl, ?_⟩) hHeld ?_ ?_
            rotate_left
            · rintro w' ⟨s0, s1, s2⟩
              go_simp
              with_reducible rfl
            rotate_left
            · simp only [Act.put, List.setIfInBounds_toArray, List.set_cons_zero, List.set_cons_succ, i64_w, i32_w]
              rfl
            refine last_ (i := 13) (N := none) #[true, true, true, true, true, true, true, true, true, true, true, true, true, true] rfl rfl (by kernel_rfl) (by decide) (fun K hK => ?_)
            refine skip_ (w1 := ((w2.alloc (Obj.cells #[Value.int IntKind.i64 0, Value.int IntKind.i64 0] 29)).setCell ⟨w2.heap.size, 0, none⟩ (.int .i64 ga.code)).setCell ⟨w2.heap.size, 1, none⟩ (.int .i64 ga.idx)) (by rfl) rfl ?_ ?_
            · go_simp
            refine hK.out _ _ ?_
            clear hK K
            refine done_ (by kernel_rfl) ?_
            go_wp2_with fail
            go_meet
            exact ⟨w2.heap.size, rfl, ⟨cm_old hb2.out hra.out hrs (by have := hb1.out.size; have := hsm5.out; omega)⟩⟩
          · refine value_ (v := .pointer (some ⟨(w1).heap.size, 0, none⟩)) (w1 := (w1).alloc (Obj.cells #[Value.int IntKind.i64 0, Value.int IntKind.i64 0] 29)) (by rfl) rfl ?_ ?_
            · go_simp
            have hb2 := Aside0.mk (hb1.out.trans ((below_alloc (Below.refl (w1).heap.size _) (Obj.cells #[Value.int IntKind.i64 0, Value.int IntKind.i64 0] 29)).mono hb1.out.size))
            obtain ⟨t0, t1, _, t3, _, _⟩ := (hSM.out.step hb2.out).cells
            refine hK.out _ _ ⟨t0, t1, t3⟩ (fun hHeld => ?_)
            clear hK K t0 t1 t3
            refine norm_ (a' := ?_) ?_ ?_
            rotate_left
            · simp only [Act.put, List.setIfInBounds_toArray, List.set_cons_zero, List.set_cons_succ, i64_w, i32_w]
              rfl
            refine one_ (i := 5) (N := (some 34)) #[true, true, true, true, true, true, false, false, false, false, true, false, false, false] rfl rfl (by kernel_rfl) (by decide) (fun K hK => ?_)
            refine goes_ Try.func23 (by kernel_rfl) rfl #[.agg #[.slice A0 os.length c0, .slice A1 rs.length c1], .slice Ax (ext items L).length cx] (by rfl) rfl rfl (by (try simp only [List.map_toArray, List.map_cons, List.map_nil]); first | done | rfl) ((hP.out _ Ax cx hb2.out hcx (Kd.C_below hCx.out (below_alloc (Below.refl _ _) _))).mono ?_)
            rintro e w2 ⟨va, vs, rfl, hra, hrs, hbp⟩
            refine ⟨_, rfl, ?_⟩
            have hb3 := Aside0.mk (hb2.out.trans (hbp.mono hb2.out.size))
            replace hra := Aside0.mk hra
            obtain ⟨t0, t1, _, t3, _, _⟩ := (hSM.out.step hb3.out).cells
            refine hK.out _ _ ⟨t0, t1, t3⟩ (fun hHeld => ?_)
            clear hK K t0 t1 t3
            refine norm_ (a' := ?_) ?_ ?_
            rotate_left
            · simp only [Act.put, List.setIfInBounds_toArray, List.set_cons_zero, List.set_cons_succ, i64_w, i32_w]
              rfl
            refine take_ (i := 6) (N := (some 28)) (v := ?_) (a' := ?_) #[true, true, true, true, true, true, true, false, false, false, true, false, false, false] rfl rfl (by kernel_rfl) (fun _ _ _ h => h) (Or.inl ⟨by rfl, ?_⟩) hHeld ?_ ?_
            rotate_left
            · rintro w' ⟨s0, s1, s2⟩
              go_simp
              with_reducible rfl
            rotate_left
            · simp only [Act.put, List.setIfInBounds_toArray, List.set_cons_zero, List.set_cons_succ, i64_w, i32_w]
              rfl
            refine take_ (i := 7) (N := (some 35)) (v := ?_) (a' := ?_) #[true, true, true, true, true, true, true, true, false, false, true, false, false, false] rfl rfl (by kernel_rfl) (fun _ _ _ h => h) (Or.inl ⟨by rfl, ?_⟩) hHeld ?_ ?_
            rotate_left
            · rintro w' ⟨s0, s1, s2⟩
              go_simp
              with_reducible rfl
            rotate_left
            · simp only [Act.put, List.setIfInBounds_toArray, List.set_cons_zero, List.set_cons_succ, i64_w, i32_w]
              rfl
            refine take_ (i := 8) (N := (some 36)) (v := ?_) (a' := ?_) #[true, true, true, true, true, true, true, true, true, false, true, false, false, false] rfl rfl (by kernel_rfl) (fun _ _ _ h => h) (Or.inl ⟨by rfl, ?_⟩) hHeld ?_ ?_
            rotate_left
            · rintro w' ⟨s0, s1, s2⟩
              go_simp
              with_reducible rfl
            rotate_left
            · simp only [Act.put, List.setIfInBounds_toArray, List.set_cons_zero, List.set_cons_succ, i64_w, i32_w]
              rfl
            refine take_ (i := 9) (N := (some 37)) (v := ?_) (a' := ?_) #[true, true, true, true, true, true, true, true, true, true, true, false, false, false] rfl rfl (by kernel_rfl) (fun _ _ _ h => h) (Or.inl ⟨by rfl, ?_⟩) hHeld ?_ ?_
            rotate_left
            · rintro w' ⟨s0, s1, s2⟩
              go_simp
              with_reducible rfl
            rotate_left
            · simp only [Act.put, List.setIfInBounds_toArray, List.set_cons_zero, List.set_cons_succ, i64_w, i32_w]
              rfl
            refine take_ (i := 11) (N := (some 9)) (v := ?_) (a' := ?_) #[true, true, true, true, true, true, true, true, true, true, true, true, false, false] rfl rfl (by kernel_rfl) (fun _ _ _ h => h) (Or.inl ⟨by rfl, ?_⟩) hHeld ?_ ?_
            rotate_left
            · rintro w' ⟨s0, s1, s2⟩
              go_simp
              with_reducible rfl
            rotate_left
            · simp only [Act.put, List.setIfInBounds_toArray, List.set_cons_zero, List.set_cons_succ, i64_w, i32_w]
              rfl
            refine take_ (i := 12) (N := (some 10)) (v := ?_) (a' := ?_) #[true, true, true, true, true, true, true, true, true, true, true, true, true, false] rfl rfl (by kernel_rfl) (fun _ _ _ h => h) (Or.inl ⟨by rfl, ?_⟩) hHeld ?_ ?_
            rotate_left
            · rintro w' ⟨s0, s1, s2⟩
              go_simp
              with_reducible rfl
            rotate_left
            · simp only [Act.put, List.setIfInBounds_toArray, List.set_cons_zero, List.set_cons_succ, i64_w, i32_w]
              rfl
            have hfb : w2.heap[w1.heap.size]? = some (.cells #[.int .i64 0, .int .i64 0] 29 (0, 0)) := blk_below (alloc_block w1 _) hbp
            have e0 := (blk_cell hfb 0).trans rfl
            have e1 := (blk_cell hfb 1).trans rfl
            have e2 := blk_frozen hfb 0
            have e3 := blk_frozen hfb 1
            refine last_ (i := 13) (N := none) #[true, true, true, true, true, true, true, true, true, true, true, true, true, true] rfl rfl (by kernel_rfl) (by decide) (fun K hK => ?_)
            refine skip_ (w1 := ((w2).setCell ⟨w1.heap.size, 0, none⟩ (.int .i64 ga.code)).setCell ⟨w1.heap.size, 1, none⟩ (.int .i64 ga.idx)) (by rfl) rfl ?_ ?_
            · go_simp
            refine hK.out _ _ ?_
            clear hK K
            refine done_ (by kernel_rfl) ?_
            go_wp2_with fail
            go_meet
            exact ⟨w1.heap.size, rfl, ⟨cm_new hb3.out hra.out hrs (blk_below (alloc_block w1 _) hbp) hb1.out.size (by have := hb1.out.size; have := hsm5.out; simp; omega) (by simp)⟩⟩
        · -- the box first
          refine value_ (v := .pointer (some ⟨(wo.drew).heap.size, 0, none⟩)) (w1 := (wo.drew).alloc (Obj.cells #[Value.int IntKind.i64 0, Value.int IntKind.i64 0] 29)) (by rfl) rfl ?_ ?_
          · go_simp
          have hb1 := Aside0.mk (hb0.out.trans ((below_alloc (Below.refl (wo.drew).heap.size _) (Obj.cells #[Value.int IntKind.i64 0, Value.int IntKind.i64 0] 29)).mono hb0.out.size))
          obtain ⟨t0, t1, _, t3, _, _⟩ := (hSM.out.step hb1.out).cells
          refine hK.out _ _ ⟨t0, t1, t3⟩ (fun hHeld => ?_)
          clear hK K t0 t1 t3
          refine norm_ (a' := ?_) ?_ ?_
          rotate_left
          · simp only [Act.put, List.setIfInBounds_toArray, List.set_cons_zero, List.set_cons_succ, i64_w, i32_w]
            rfl
          refine one_ (i := 4) (N := (some 33)) #[true, true, true, true, true, false, false, false, false, false, true, false, false, false] rfl rfl (by kernel_rfl) (by decide) (fun K hK => ?_)
          refine goes_ Try.func24 (by kernel_rfl) rfl #[.slice A2 items.length c2, .slice Al L.length cl] (by rfl) rfl rfl (by (try simp only [List.map_toArray, List.map_cons, List.map_nil]); first | done | rfl) ((hE.out _ hb1.out).mono ?_)
          rintro e w1 ⟨vx, rfl, ⟨Ax, cx, rfl, hcx, hCx, _⟩, hbx⟩
          refine ⟨_, rfl, ?_⟩
          have hb2 := Aside0.mk (hb1.out.trans (hbx.mono hb1.out.size))
          replace hCx := Aside0.mk hCx
          obtain ⟨t0, t1, _, t3, _, _⟩ := (hSM.out.step hb2.out).cells
          refine hK.out _ _ ⟨t0, t1, t3⟩ (fun hHeld => ?_)
          clear hK K t0 t1 t3
          refine norm_ (a' := ?_) ?_ ?_
          rotate_left
          · simp only [Act.put, List.setIfInBounds_toArray, List.set_cons_zero, List.set_cons_succ, i64_w, i32_w]
            rfl
          refine one_ (i := 5) (N := (some 34)) #[true, true, true, true, true, true, false, false, false, false, true, false, false, false] rfl rfl (by kernel_rfl) (by decide) (fun K hK => ?_)
          refine goes_ Try.func23 (by kernel_rfl) rfl #[.agg #[.slice A0 os.length c0, .slice A1 rs.length c1], .slice Ax (ext items L).length cx] (by rfl) rfl rfl (by (try simp only [List.map_toArray, List.map_cons, List.map_nil]); first | done | rfl) ((hP.out _ Ax cx hb2.out hcx (hCx.out)).mono ?_)
          rintro e w2 ⟨va, vs, rfl, hra, hrs, hbp⟩
          refine ⟨_, rfl, ?_⟩
          have hb3 := Aside0.mk (hb2.out.trans (hbp.mono hb2.out.size))
          replace hra := Aside0.mk hra
          obtain ⟨t0, t1, _, t3, _, _⟩ := (hSM.out.step hb3.out).cells
          refine hK.out _ _ ⟨t0, t1, t3⟩ (fun hHeld => ?_)
          clear hK K t0 t1 t3
          refine norm_ (a' := ?_) ?_ ?_
          rotate_left
          · simp only [Act.put, List.setIfInBounds_toArray, List.set_cons_zero, List.set_cons_succ, i64_w, i32_w]
            rfl
          refine take_ (i := 6) (N := (some 28)) (v := ?_) (a' := ?_) #[true, true, true, true, true, true, true, false, false, false, true, false, false, false] rfl rfl (by kernel_rfl) (fun _ _ _ h => h) (Or.inl ⟨by rfl, ?_⟩) hHeld ?_ ?_
          rotate_left
          · rintro w' ⟨s0, s1, s2⟩
            go_simp
            with_reducible rfl
          rotate_left
          · simp only [Act.put, List.setIfInBounds_toArray, List.set_cons_zero, List.set_cons_succ, i64_w, i32_w]
            rfl
          refine take_ (i := 7) (N := (some 35)) (v := ?_) (a' := ?_) #[true, true, true, true, true, true, true, true, false, false, true, false, false, false] rfl rfl (by kernel_rfl) (fun _ _ _ h => h) (Or.inl ⟨by rfl, ?_⟩) hHeld ?_ ?_
          rotate_left
          · rintro w' ⟨s0, s1, s2⟩
            go_simp
            with_reducible rfl
          rotate_left
          · simp only [Act.put, List.setIfInBounds_toArray, List.set_cons_zero, List.set_cons_succ, i64_w, i32_w]
            rfl
          refine take_ (i := 8) (N := (some 36)) (v := ?_) (a' := ?_) #[true, true, true, true, true, true, true, true, true, false, true, false, false, false] rfl rfl (by kernel_rfl) (fun _ _ _ h => h) (Or.inl ⟨by rfl, ?_⟩) hHeld ?_ ?_
          rotate_left
          · rintro w' ⟨s0, s1, s2⟩
            go_simp
            with_reducible rfl
          rotate_left
          · simp only [Act.put, List.setIfInBounds_toArray, List.set_cons_zero, List.set_cons_succ, i64_w, i32_w]
            rfl
          refine take_ (i := 9) (N := (some 37)) (v := ?_) (a' := ?_) #[true, true, true, true, true, true, true, true, true, true, true, false, false, false] rfl rfl (by kernel_rfl) (fun _ _ _ h => h) (Or.inl ⟨by rfl, ?_⟩) hHeld ?_ ?_
          rotate_left
          · rintro w' ⟨s0, s1, s2⟩
            go_simp
            with_reducible rfl
          rotate_left
          · simp only [Act.put, List.setIfInBounds_toArray, List.set_cons_zero, List.set_cons_succ, i64_w, i32_w]
            rfl
          refine take_ (i := 11) (N := (some 9)) (v := ?_) (a' := ?_) #[true, true, true, true, true, true, true, true, true, true, true, true, false, false] rfl rfl (by kernel_rfl) (fun _ _ _ h => h) (Or.inl ⟨by rfl, ?_⟩) hHeld ?_ ?_
          rotate_left
          · rintro w' ⟨s0, s1, s2⟩
            go_simp
            with_reducible rfl
          rotate_left
          · simp only [Act.put, List.setIfInBounds_toArray, List.set_cons_zero, List.set_cons_succ, i64_w, i32_w]
            rfl
          refine take_ (i := 12) (N := (some 10)) (v := ?_) (a' := ?_) #[true, true, true, true, true, true, true, true, true, true, true, true, true, false] rfl rfl (by kernel_rfl) (fun _ _ _ h => h) (Or.inl ⟨by rfl, ?_⟩) hHeld ?_ ?_
          rotate_left
          · rintro w' ⟨s0, s1, s2⟩
            go_simp
            with_reducible rfl
          rotate_left
          · simp only [Act.put, List.setIfInBounds_toArray, List.set_cons_zero, List.set_cons_succ, i64_w, i32_w]
            rfl
          have hfb : w2.heap[wo.heap.size]? = some (.cells #[.int .i64 0, .int .i64 0] 29 (0, 0)) := blk_below (blk_below (alloc_block wo.drew _) hbx) hbp
          have e0 := (blk_cell hfb 0).trans rfl
          have e1 := (blk_cell hfb 1).trans rfl
          have e2 := blk_frozen hfb 0
          have e3 := blk_frozen hfb 1
          refine last_ (i := 13) (N := none) #[true, true, true, true, true, true, true, true, true, true, true, true, true, true] rfl rfl (by kernel_rfl) (by decide) (fun K hK => ?_)
          refine skip_ (w1 := ((w2).setCell ⟨wo.heap.size, 0, none⟩ (.int .i64 ga.code)).setCell ⟨wo.heap.size, 1, none⟩ (.int .i64 ga.idx)) (by rfl) rfl ?_ ?_
          · go_simp
          refine hK.out _ _ ?_
          clear hK K
          refine done_ (by kernel_rfl) ?_
          go_wp2_with fail
          go_meet
          exact ⟨wo.heap.size, rfl, ⟨cm_new hb3.out hra.out hrs (blk_below (blk_below (alloc_block wo.drew _) hbx) hbp) (Nat.le_refl _) (by have := hb2.out.size; have := hsm5.out; omega) (by have := hbx.size; simp at this; omega)⟩⟩
    case rest =>
      obtain ⟨f, rfl, hCM⟩ := hcut
      have hwc := Aside0.mk hCM.out.b
      have hSMc := Aside0.mk (hSM.out.step hwc.out)
      obtain ⟨Aa, ca, rfl, hca, hCa, hga⟩ := hCM.out.row
      obtain ⟨As9, ns9, cs9, rfl⟩ := hCM.out.sl
      have e0 := (blk_cell hCM.out.blk 0).trans rfl
      have e1 := (blk_cell hCM.out.blk 1).trans rfl
      clear p0 p1 p2 p3 p4 p5 hE hP hb0
      obtain ⟨p0, p1, p2, p3, p4, p5⟩ := hSMc.out.cells
      have hfge := hCM.out.ge
      have hs5 := hsm5.out
      have hf1 : ¬ f = w.heap.size + 1 := by omega
      have hf1' : ¬ w.heap.size + 1 = f := by omega
      have hf2 : ¬ f = w.heap.size + 2 := by omega
      have hf2' : ¬ w.heap.size + 2 = f := by omega
      by_cases hcz : ga.code = 0
      · obtain ⟨hoa, hz⟩ := hin.out hcz
        rw [ext_length] at hoa
        rw [if_neg (by simpa using hcz)] at hR
        have hil2 := hoa.len
        obtain ⟨ad, spn, code, idx⟩ := ga
        simp only at hcz hz hR hoa hil2 hca hCa hga e0 e1
        subst hcz hz
        simp only [hil2]
        rw [hil2] at hca
        clear hf1 hf1' hf2 hf2' hin hCM e1
        have hCa' := Aside0.mk hCa
        have hoa' := Aside0.mk hoa
        replace hR := Aside0.mk hR
        replace hj := Aside0.mk hj
        have hga' := Aside0.mk hga
        clear hCa hoa hga
        go_wp2_with (at_builtin; refine append54 rfl (.tmp 43) (.tmp 45) rfl Al cl L rfl rfl (Kd.C_below hCl hwc.out) (by omega) ?_)
        intro v4 w4 hown hb4
        have hSM4 := Aside0.mk (hSMc.out.step hb4)
        have hFr4 := Aside0.mk ((Fr.refl wc (w.heap.size + 3) (w.heap.size + 3)).step hb4)
        have hsc5 := Aside0.mk hSMc.out.sz
        replace hown := Aside0.mk hown
        clear p0 p1 p2 p3 p4 p5 hb4 e0
        go_wp2_with fail
        generalize hPP : pass items bs ad bs.length 0 far L false = PP at *
        replace hPP := Aside0.mk hPP
        go_loopg [12, 13, 14] bs.length (fun k s12 s13 s14 wr => ∃ (i : Nat) (far' : List Bool) (Lc : List S54) (ag : Bool), i ≤ bs.length ∧ s12 = .bool ag ∧ s14 = .int .i64 i ∧ Aside0 (k = bs.length - i) ∧ Aside0 (SM w wr (.slice A0 os.length c0) (.slice A1 rs.length c1) bs.length far' (.slice Al L.length cl) av sv) ∧ Aside0 (wr.ownsRow wc.heap.size 54 5 s13 Lc.length (cells54 Lc)) ∧ Aside0 (Fr wc wr (w.heap.size + 3) (w.heap.size + 3)) ∧ Aside0 (J items bs far' Lc ∧ PP = pass items bs ad (bs.length - i) i far' Lc ag))
        case atStart => exact ⟨0, far, L, false, Nat.zero_le _, rfl, rfl, ⟨rfl⟩, hSM4, hown, hFr4, ⟨hj.out, hPP.out.symm⟩⟩
        case round =>
          clear hSM4 hFr4 hown
          obtain ⟨i, far', Lc, ag, hi, rfl, rfl, hki, hSi, hown, hFi, hji⟩ := hrel
          obtain ⟨hji1, hPi⟩ := hji.out
          have hLc := hji1.le hbl
          obtain ⟨Ac, cc, e, hcc, hCc, _⟩ := C54_of_own hown.out (by omega)
          subst e
          obtain ⟨p0, p1, p2, p3, p4, p5⟩ := hSi.out.cells
          by_cases hlt : i < bs.length
          · obtain ⟨bk, o, e, hbk, hx⟩ := open48 (Kd.C_below hB.out hSi.out.b) (by omega)
            subst e
            obtain ⟨x0, x1, x2, x3, x4, x5⟩ := hx i hlt
            have y0 := hSi.out.far_cell i hlt
            have y1 := (hSi.out.frz i).2
            have hok := hob i hlt
            obtain ⟨q1, q2⟩ := hok.f0
            obtain ⟨q3, q4⟩ := hok.f1
            obtain ⟨q5, q6⟩ := hok.f3
            obtain ⟨q7, q8⟩ := hok.f4
            obtain ⟨q9, q10⟩ := hok.f5
            obtain ⟨ba, oa, e, hba, hxa⟩ := openI hCa'.out (by rw [hil2]; omega)
            subst e
            have hba3 : ba ≠ w.heap.size + 3 := by have := hga'.out ⟨ba, oa, none⟩ rfl; simp only at this; omega
            have xa : wr.cell? ⟨ba, oa + (bs.getD i z48).f0.toNat, none⟩ = some (.int .i64 (rd ad (bs.getD i z48).f0)) := (hFi.out.cell (p := ⟨ba, oa + (bs.getD i z48).f0.toNat, none⟩) hba hba3 hba3).trans (hxa _ (by rw [hil2]; omega))
            have hbaw : ba < wr.heap.size := Nat.lt_of_lt_of_le hba hFi.out.size
            have hCar : Kd.C (Kd.int .i64) wr (some ⟨ba, oa, none⟩) ad.length ad := C_move k1_any hCa'.out (fun x hx => by cases hx; exact hFi.out.block ba hba hba3 hba3)
            have hrd := hoa'.out.bd (bs.getD i z48).f0 q1 q2
            have hab := addr_bd hoa'.out hok
            have HA : Aside0 (∀ W', Below wr.heap.size wr W' → Calls Try.prog 15 #[.slice (some ⟨ba, oa, none⟩) items.length ca, .int .i64 (bs.getD i z48).f4, .int .i64 (bs.getD i z48).f5] W' fun e W'' => e = .returned (.int .i64 (addrOf ad (bs.getD i z48).f4 (bs.getD i z48).f5)) ∧ Drawn0 W' W'') :=
              ⟨fun W' hW => by
                have := linkhouseref4_Address.calls (some ⟨ba, oa, none⟩) ca ad (bs.getD i z48).f4 (bs.getD i z48).f5 _ W' (Kd.C_below hCar hW) (by rw [hil2]; exact hca) (refAddr_plain hoa'.out q7 q8 q9 q10)
                rw [hil2] at this
                exact this⟩
            have HN : Aside0 (∀ W', Calls Try.prog 14 #[.int .i64 (bs.getD i z48).f2, .int .i64 (addrOf ad (bs.getD i z48).f4 (bs.getD i z48).f5), .int .i64 (bs.getD i z48).f3, .int .i64 (rd ad (bs.getD i z48).f0 + (bs.getD i z48).f1)] W' fun e W'' => e = .returned (.tuple #[.int .i64 (numV (bs.getD i z48).f2 (addrOf ad (bs.getD i z48).f4 (bs.getD i z48).f5) (bs.getD i z48).f3 (rd ad (bs.getD i z48).f0 + (bs.getD i z48).f1)), .bool (reach ad (bs.getD i z48))]) ∧ Drawn0 W' W'') :=
              ⟨fun W' => linkhouseref3_Number.calls _ _ _ _ _ _ W' (rnum_plain (by omega) (by omega) (by omega) (by omega) (by omega) (by omega))⟩
            rw [pass_step hlt] at hPi
            have hbit := hvi.x (bs.getD i z48).f0.toNat (by omega)
            have hnew : Aside0 (newStub items Lc (bs.getD i z48) = ⟨(bs.getD i z48).f0, (rd_T57 items (bs.getD i z48).f0).f1 + 5 * cnt Lc (bs.getD i z48).f0, (bs.getD i z48).f4, (bs.getD i z48).f5, (bs.getD i z48).f3⟩) := ⟨rfl⟩
            have hadd : Aside0 (far'.getD i false = false → J items bs (far'.set i true) (addStub items Lc (bs.getD i z48))) := ⟨fun hf => hji1.add hlt hf q1⟩
            clear hx hxa hCar hok hCc hji
            replace hPi := Aside0.mk hPi
            generalize bs.getD i z48 = b at *
            generalize hav : addrOf ad b.f4 b.f5 = av at *
            generalize hrv : rd ad b.f0 = rv at *
            generalize hfv : reach ad b = fv at *
            generalize hnv : numV b.f2 av b.f3 (rv + b.f1) = nv at *
            replace hav := Aside0.mk hav
            replace hrv := Aside0.mk hrv
            replace hfv := Aside0.mk hfv
            replace hnv := Aside0.mk hnv
            have hss := hSi.out.sz
            go_wp2_with fail
            have c0 : (wr.alloc (Obj.cells #[Value.int IntKind.i64 b.f0, Value.int IntKind.i64 b.f1, Value.int IntKind.i64 b.f2, Value.int IntKind.i64 b.f3, Value.int IntKind.i64 b.f4, Value.int IntKind.i64 b.f5] 48)).cell? ⟨wr.heap.size, 0, none⟩ = some (.int .i64 b.f0) := by simp
            have c1 : (wr.alloc (Obj.cells #[Value.int IntKind.i64 b.f0, Value.int IntKind.i64 b.f1, Value.int IntKind.i64 b.f2, Value.int IntKind.i64 b.f3, Value.int IntKind.i64 b.f4, Value.int IntKind.i64 b.f5] 48)).cell? ⟨wr.heap.size, 1, none⟩ = some (.int .i64 b.f1) := by simp
            have c2 : (wr.alloc (Obj.cells #[Value.int IntKind.i64 b.f0, Value.int IntKind.i64 b.f1, Value.int IntKind.i64 b.f2, Value.int IntKind.i64 b.f3, Value.int IntKind.i64 b.f4, Value.int IntKind.i64 b.f5] 48)).cell? ⟨wr.heap.size, 2, none⟩ = some (.int .i64 b.f2) := by simp
            have c3 : (wr.alloc (Obj.cells #[Value.int IntKind.i64 b.f0, Value.int IntKind.i64 b.f1, Value.int IntKind.i64 b.f2, Value.int IntKind.i64 b.f3, Value.int IntKind.i64 b.f4, Value.int IntKind.i64 b.f5] 48)).cell? ⟨wr.heap.size, 3, none⟩ = some (.int .i64 b.f3) := by simp
            have c4 : (wr.alloc (Obj.cells #[Value.int IntKind.i64 b.f0, Value.int IntKind.i64 b.f1, Value.int IntKind.i64 b.f2, Value.int IntKind.i64 b.f3, Value.int IntKind.i64 b.f4, Value.int IntKind.i64 b.f5] 48)).cell? ⟨wr.heap.size, 4, none⟩ = some (.int .i64 b.f4) := by simp
            have c5 : (wr.alloc (Obj.cells #[Value.int IntKind.i64 b.f0, Value.int IntKind.i64 b.f1, Value.int IntKind.i64 b.f2, Value.int IntKind.i64 b.f3, Value.int IntKind.i64 b.f4, Value.int IntKind.i64 b.f5] 48)).cell? ⟨wr.heap.size, 5, none⟩ = some (.int .i64 b.f5) := by simp
            have hx1 : Aside0 (Below wr.heap.size wr (wr.alloc (Obj.cells #[Value.int IntKind.i64 b.f0, Value.int IntKind.i64 b.f1, Value.int IntKind.i64 b.f2, Value.int IntKind.i64 b.f3, Value.int IntKind.i64 b.f4, Value.int IntKind.i64 b.f5] 48))) := ⟨below_alloc (Below.refl _ _) _⟩
            have hx2 : wr.heap.size < (wr.alloc (Obj.cells #[Value.int IntKind.i64 b.f0, Value.int IntKind.i64 b.f1, Value.int IntKind.i64 b.f2, Value.int IntKind.i64 b.f3, Value.int IntKind.i64 b.f4, Value.int IntKind.i64 b.f5] 48)).heap.size := by simp
            generalize (wr.alloc (Obj.cells #[Value.int IntKind.i64 b.f0, Value.int IntKind.i64 b.f1, Value.int IntKind.i64 b.f2, Value.int IntKind.i64 b.f3, Value.int IntKind.i64 b.f4, Value.int IntKind.i64 b.f5] 48)) = X at *
            have ya := (hx1.out.cell (p := ⟨ba, oa + b.f0.toNat, none⟩) hbaw).trans xa
            have yf := (hx1.out.cell (p := ⟨w.heap.size + 3, i, none⟩) (by simp only; omega)).trans y0
            have yz := (hx1.out.frozen (p := ⟨w.heap.size + 3, i, none⟩) (by simp only; omega)).trans y1
            have yp := (hx1.out.cell (p := ⟨w.heap.size + 4, 0, none⟩) (by simp only; omega)).trans p2
            clear x0 x1 x2 x3 x4 x5 xa y0 y1 hbk p0 p1 p2 p3 p4 p5
            have g0 : IntKind.i64.wrap (rv + b.f1) = rv + b.f1 := by rw [i64_w]; unfold wrap64; omega
            go_quiet (first | (go_at_call 15; exact quiet_drawn (HA.out _ (by repeat (first | exact hx1.out | apply pw_below_drewN)))) | (go_at_call 14; exact quiet_drawn (HN.out _)))
            clear g0
            change (X.drewN nq).cell? _ = _ at c0
            change (X.drewN nq).cell? _ = _ at c1
            change (X.drewN nq).cell? _ = _ at c2
            change (X.drewN nq).cell? _ = _ at c3
            change (X.drewN nq).cell? _ = _ at c4
            change (X.drewN nq).cell? _ = _ at c5
            change (X.drewN nq).cell? _ = _ at yf
            change (X.drewN nq).cell? _ = _ at yp
            change (X.drewN nq).frozen? _ = _ at yz
            replace hx1 := Aside0.mk (pw_below_drewN hx1.out nq)
            change wr.heap.size < (X.drewN nq).heap.size at hx2
            clear ya
            generalize X.drewN nq = Y at *
            have hSY := Aside0.mk (hSi.out.step hx1.out)
            have hFY := Aside0.mk (hFi.out.step hx1.out)
            have hOY := Aside0.mk (own_bel hown.out hx1.out)
            by_cases hgo : (far'.getD i false || fv) = true
            · have hPi' := hPi.out
              rw [if_pos hgo] at hPi'
              replace hPi' := Aside0.mk hPi'
              have hgo' := Aside0.mk hgo
              cases hfar : far'.getD i false with
              | true =>
                rw [hfar] at yf
                clear hgo
                go_wp2
                go_roundg (bs.length - (i + 1))
                case measure => have := hki.out; omega
                case rel => exact ⟨i + 1, far', Lc, ag, hlt, rfl, by go_num, ⟨rfl⟩, hSY, hOY, hFY, ⟨hji1, hPi'.out⟩⟩
              | false =>
                rw [hfar] at yf hgo
                simp only [Bool.false_or] at hgo
                subst hgo
                go_wp2
                go_roundg (bs.length - (i + 1))
                case measure => have := hki.out; omega
                case rel => exact ⟨i + 1, far', Lc, ag, hlt, rfl, by go_num, ⟨rfl⟩, hSY, hOY, hFY, ⟨hji1, hPi'.out⟩⟩
            · have hPi' := hPi.out
              rw [if_neg hgo] at hPi'
              simp only [Bool.or_eq_true, not_or, Bool.not_eq_true] at hgo
              obtain ⟨hgo1, hgo2⟩ := hgo
              subst hgo2
              rw [hgo1] at yf
              have hJ2 := Aside0.mk (hadd.out hgo1)
              replace hPi' := Aside0.mk hPi'
              replace hji1 := Aside0.mk hji1
              clear hadd hgo1
              have hne1 : ¬ wr.heap.size = w.heap.size + 3 := by omega
              have hne2 : ¬ w.heap.size + 3 = wr.heap.size := by omega
              go_wp2_with fail
              have hwc5 := hsc5.out
              have hSZ := hSY.out.mark i
              have hFZ := hFY.out.set_gf i (.bool true)
              have hOZ : (Y.setCell ⟨w.heap.size + 3, i, none⟩ (.bool true)).ownsRow wc.heap.size 54 5 (.slice Ac Lc.length cc) Lc.length (cells54 Lc) := own_move hOY.out (fun k hk => Below.heap_setCell Y ⟨w.heap.size + 3, i, none⟩ (.bool true) k (by have := (hOY.out.lt k hk).1; show k ≠ w.heap.size + 3; omega))
              have dz := Below.heap_setCell Y ⟨w.heap.size + 3, i, none⟩ (.bool true) wr.heap.size hne1
              have d0 := (World.cell?_of_block (a := ⟨wr.heap.size, 0, none⟩) dz).trans c0
              have d3 := (World.cell?_of_block (a := ⟨wr.heap.size, 3, none⟩) dz).trans c3
              have d4 := (World.cell?_of_block (a := ⟨wr.heap.size, 4, none⟩) dz).trans c4
              have d5 := (World.cell?_of_block (a := ⟨wr.heap.size, 5, none⟩) dz).trans c5
              have hzs : wr.heap.size < (Y.setCell ⟨w.heap.size + 3, i, none⟩ (.bool true)).heap.size := by simpa [World.setCell] using hx2
              generalize (Y.setCell ⟨w.heap.size + 3, i, none⟩ (.bool true)) = Z at *
              clear dz c0 c1 c2 c3 c4 c5 yf yp yz hSY hFY hOY hx1 hx2 hSi hown hFi
              obtain ⟨Ac', cc', e', _, hCZ, _⟩ := C54_of_own hOZ (by omega)
              cases e'
              have hplain := stubFor_plain Lc b (by omega) Lc.length 0 (Lc.length + 1) (by omega) (by omega)
              rw [List.drop_zero] at hplain
              replace hSZ := Aside0.mk hSZ
              replace hFZ := Aside0.mk hFZ
              replace hOZ := Aside0.mk hOZ
              by_cases hany : Lc.any (serve · b) = true
              · have hadd : addStub items Lc b = Lc := by unfold addStub; rw [if_pos hany]
                have HS : Calls Try.prog 16 #[.slice Ac Lc.length cc, .agg #[.int .i64 b.f0, .int .i64 b.f1, .int .i64 b.f2, .int .i64 b.f3, .int .i64 b.f4, .int .i64 b.f5]] Z fun e W'' => e = .returned (.int .i64 (Lc.findIdx (serve · b) : Nat)) ∧ Below Z.heap.size Z W'' :=
                  linkhouseref4_StubFor.calls (Lc.length + 1) Ac cc Lc b.f0 b.f1 b.f2 b.f3 b.f4 b.f5 _ Z hCZ hcc (by
                    unfold linkhouseref4_StubFor.f
                    rw [if_pos hany] at hplain
                    simpa using hplain)
                rw [hadd] at hJ2 hPi'
                generalize Lc.findIdx (serve · b) = fi at *
                have hn0 : ¬ ((fi : Int) < 0) := by omega
                clear hplain hany hadd hnew
                refine HS.mono ?_
                rintro e w6 ⟨rfl, hb6⟩
                have hS6 := Aside0.mk (hSZ.out.step hb6)
                have hF6 := Aside0.mk (hFZ.out.step hb6)
                have hO6 := Aside0.mk (own_bel hOZ.out hb6)
                clear hb6 HS d0 d3 d4 d5
                go_wp2
                go_roundg (bs.length - (i + 1))
                case measure => have := hki.out; omega
                case rel => exact ⟨i + 1, far'.set i true, Lc, true, hlt, rfl, by go_num, ⟨rfl⟩, hS6, hO6, hF6, ⟨hJ2.out, hPi'.out⟩⟩
              · have hadd : addStub items Lc b = Lc ++ [newStub items Lc b] := by unfold addStub; rw [if_neg hany]
                have HS : Calls Try.prog 16 #[.slice Ac Lc.length cc, .agg #[.int .i64 b.f0, .int .i64 b.f1, .int .i64 b.f2, .int .i64 b.f3, .int .i64 b.f4, .int .i64 b.f5]] Z fun e W'' => e = .returned (.int .i64 (-1)) ∧ Below Z.heap.size Z W'' :=
                  linkhouseref4_StubFor.calls (Lc.length + 1) Ac cc Lc b.f0 b.f1 b.f2 b.f3 b.f4 b.f5 _ Z hCZ hcc (by
                    unfold linkhouseref4_StubFor.f
                    rw [if_neg hany] at hplain
                    exact hplain)
                rw [hadd, hnew.out] at hJ2 hPi'
                have hcn := cnt_le Lc b.f0
                have hsz : Aside0 (((ext items Lc).getD b.f0.toNat z57).f1 = (rd_T57 items b.f0).f1 + 5 * cnt Lc b.f0) := ⟨by
                  rw [ext_getD _ _ _ (by omega)]
                  simp only [extItem]
                  rw [show ((b.f0.toNat : Nat) : Int) = b.f0 by omega]
                  rfl⟩
                have hszb : 0 ≤ (rd_T57 items b.f0).f1 ∧ (rd_T57 items b.f0).f1 ≤ 1048576 := ⟨hbit.2.2.1, hbit.2.2.2.1⟩
                clear hnew hadd hplain hany
                have HE : Aside0 (∀ W', Below Z.heap.size Z W' → Calls Try.prog 24 #[.slice A2 items.length c2, .slice Ac Lc.length cc] W' fun e W'' => ∃ (bx ox cx : Nat), e = .returned (.slice (some ⟨bx, ox, none⟩) items.length cx) ∧ W''.cell? ⟨bx, ox + b.f0.toNat * 3 + 1, none⟩ = some (.int .i64 ((rd_T57 items b.f0).f1 + 5 * cnt Lc b.f0)) ∧ Below W'.heap.size W' W'') := ⟨fun W' hW => by
                  refine (ext_calls hLc hoi0 (Kd.C_below h2.out (hSZ.out.b.trans (hW.mono hSZ.out.b.size))) hc2 (Kd.C_below hCZ hW) hcc).mono ?_
                  rintro e w7 ⟨vx, rfl, ⟨Ax, cx, rfl, hcx, hCx, _⟩, hbx⟩
                  obtain ⟨bx, ox, ex, hbx', hyx⟩ := open57 hCx (by rw [ext_length]; omega)
                  subst ex
                  refine ⟨bx, ox, cx, by rw [ext_length], ?_, hbx⟩
                  rw [← hsz.out]
                  exact (hyx b.f0.toNat (by rw [ext_length]; omega)).2.1⟩
                replace hCZ := Aside0.mk hCZ
                generalize (rd_T57 items b.f0).f1 + 5 * cnt Lc b.f0 = sz at *
                clear hsz
                refine HS.mono ?_
                rintro e w6 ⟨rfl, hb6⟩
                have hS6 := Aside0.mk (hSZ.out.step hb6)
                have hF6 := Aside0.mk (hFZ.out.step hb6)
                have hO6 := Aside0.mk (own_bel hOZ.out hb6)
                have k0 := (hb6.cell (p := ⟨wr.heap.size, 0, none⟩) hzs).trans d0
                have k3 := (hb6.cell (p := ⟨wr.heap.size, 3, none⟩) hzs).trans d3
                have k4 := (hb6.cell (p := ⟨wr.heap.size, 4, none⟩) hzs).trans d4
                have k5 := (hb6.cell (p := ⟨wr.heap.size, 5, none⟩) hzs).trans d5
                have hx6 : wr.heap.size < w6.heap.size := Nat.lt_of_lt_of_le hzs hb6.size
                replace hb6 := Aside0.mk hb6
                clear HS d0 d3 d4 d5
                go_wp2_with fail
                refine start_ (n := 9) (S := (fun w' => w'.cell? ⟨wr.heap.size, 0, none⟩ = some (.int .i64 b.f0))) (ds := []) #[false, false, false, false, false, false, false, false, false] (by kernel_rfl) rfl rfl k0 (fun hHeld => ?_)
                refine take_ (i := 0) (N := (some 95)) (v := ?_) (a' := ?_) #[true, false, false, false, false, false, false, false, false] rfl rfl (by kernel_rfl) (fun _ _ _ h => h) (Or.inl ⟨by rfl, ?_⟩) hHeld ?_ ?_
                rotate_left
                · rintro w' s0
                  go_simp
                  with_reducible rfl
                rotate_left
                · simp only [Act.put, List.setIfInBounds_toArray, List.set_cons_zero, List.set_cons_succ, i64_w, i32_w]
                  rfl
                refine take_ (i := 1) (N := (some 96)) (v := ?_) (a' := ?_) #[true, true, false, false, false, false, false, false, false] rfl rfl (by kernel_rfl) (fun _ _ _ h => h) (Or.inl ⟨by rfl, ?_⟩) hHeld ?_ ?_
                rotate_left
                · rintro w' s0
                  go_simp
                  with_reducible rfl
                rotate_left
                · simp only [Act.put, List.setIfInBounds_toArray, List.set_cons_zero, List.set_cons_succ, i64_w, i32_w]
                  rfl
                refine take_ (i := 3) (N := (some 98)) (v := ?_) (a' := ?_) #[true, true, false, true, false, false, false, false, false] rfl rfl (by kernel_rfl) (fun _ _ _ h => h) (Or.inl ⟨by rfl, ?_⟩) hHeld ?_ ?_
                rotate_left
                · rintro w' s0
                  go_simp
                  with_reducible rfl
                rotate_left
                · simp only [Act.put, List.setIfInBounds_toArray, List.set_cons_zero, List.set_cons_succ, i64_w, i32_w]
                  rfl
                refine take_ (i := 4) (N := (some 99)) (v := ?_) (a' := ?_) #[true, true, false, true, true, false, false, false, false] rfl rfl (by kernel_rfl) (fun _ _ _ h => h) (Or.inl ⟨by rfl, ?_⟩) hHeld ?_ ?_
                rotate_left
                · rintro w' s0
                  go_simp
                  with_reducible rfl
                rotate_left
                · simp only [Act.put, List.setIfInBounds_toArray, List.set_cons_zero, List.set_cons_succ, i64_w, i32_w]
                  rfl
                refine one_ (i := 2) (N := (some 97)) #[true, true, true, true, true, false, false, false, false] rfl rfl (by kernel_rfl) (by decide) (fun K hK => ?_)
                refine goes_ Try.func24 (by kernel_rfl) rfl #[.slice A2 items.length c2, .slice Ac Lc.length cc] (by rfl) rfl rfl (by (try simp only [List.map_toArray, List.map_cons, List.map_nil]); first | done | rfl) ((HE.out _ (hb6.out.trans ((below_drew (Below.refl _ _)).mono hb6.out.size))).mono ?_)
                rintro e w7 ⟨bx, ox, cx, rfl, hxk, hc0⟩
                refine ⟨_, rfl, ?_⟩
                have hc1 : Below w6.heap.size w6 w7 := (below_drew (Below.refl _ _)).trans hc0
                refine hK.out _ _ ((hc1.cell hx6).trans k0) (fun hHeld => ?_)
                clear hK K
                refine norm_ (a' := ?_) ?_ ?_
                rotate_left
                · simp only [Act.put, List.setIfInBounds_toArray, List.set_cons_zero, List.set_cons_succ, i64_w, i32_w]
                  rfl
                refine take_ (i := 5) (N := (some 100)) (v := ?_) (a' := ?_) #[true, true, true, true, true, true, false, false, false] rfl rfl (by kernel_rfl) (fun _ _ _ h => h) (Or.inl ⟨by rfl, ?_⟩) hHeld ?_ ?_
                rotate_left
                · rintro w' s0
                  go_simp
                  with_reducible rfl
                rotate_left
                · simp only [Act.put, List.setIfInBounds_toArray, List.set_cons_zero, List.set_cons_succ, i64_w, i32_w]
                  rfl
                refine take_ (i := 6) (N := (some 101)) (v := ?_) (a' := ?_) #[true, true, true, true, true, true, true, false, false] rfl rfl (by kernel_rfl) (fun _ _ _ h => h) (Or.inl ⟨by rfl, ?_⟩) hHeld ?_ ?_
                rotate_left
                · rintro w' s0
                  go_simp
                  with_reducible rfl
                rotate_left
                · simp only [Act.put, List.setIfInBounds_toArray, List.set_cons_zero, List.set_cons_succ, i64_w, i32_w]
                  rfl
                refine one_ (i := 7) (N := (some 102)) #[true, true, true, true, true, true, true, true, false] rfl rfl (by kernel_rfl) (by decide) (fun K hK => ?_)
                refine value_ (v := .int .i64 sz) (w1 := w7) (by rfl) rfl ?_ ?_
                · go_simp
                refine hK.out _ _ hHeld (fun hHeld => ?_)
                clear hK K
                refine norm_ (a' := ?_) ?_ ?_
                rotate_left
                · simp only [Act.put, List.setIfInBounds_toArray, List.set_cons_zero, List.set_cons_succ, i64_w, i32_w]
                  rfl
                refine take_ (i := 8) (N := (some 18)) (v := ?_) (a' := ?_) #[true, true, true, true, true, true, true, true, true] rfl rfl (by kernel_rfl) (fun _ _ _ h => h) (Or.inl ⟨by rfl, ?_⟩) hHeld ?_ ?_
                rotate_left
                · rintro w' s0
                  go_simp
                  with_reducible rfl
                rotate_left
                · simp only [Act.put, List.setIfInBounds_toArray, List.set_cons_zero, List.set_cons_succ, i64_w, i32_w]
                  rfl
                refine done_ (by kernel_rfl) ?_
                have hS7 := Aside0.mk (hS6.out.step hc1)
                have hF7 := Aside0.mk (hF6.out.step hc1)
                have hO7 := Aside0.mk (own_bel hO6.out hc1)
                have j0 := (hc1.cell (p := ⟨wr.heap.size, 0, none⟩) hx6).trans k0
                have j3 := (hc1.cell (p := ⟨wr.heap.size, 3, none⟩) hx6).trans k3
                have j4 := (hc1.cell (p := ⟨wr.heap.size, 4, none⟩) hx6).trans k4
                have j5 := (hc1.cell (p := ⟨wr.heap.size, 5, none⟩) hx6).trans k5
                have hw7 : wc.heap.size ≤ w7.heap.size := hF7.out.size
                clear k0 k3 k4 k5 hxk hc0 hc1
                go_wp2_with (at_builtin; refine print_append_cells (P := Try.prog) (w0 := w7) wc.heap.size rfl (.tmp 103) (.tmp 114) 32 54 (.agg #[(.int .i64 0), (.int .i64 0), (.int .i64 0), (.int .i64 0), (.int .i64 0)]) 5 40 rfl Try.underlying32 info54 rfl (by decide) (by decide) (.slice Ac Lc.length cc) Lc.length (cells54 Lc) [.int .i64 b.f0, .int .i64 sz, .int .i64 b.f4, .int .i64 b.f5, .int .i64 b.f3] rfl rfl rfl (by intro u hu; simp at hu; rcases hu with rfl | rfl | rfl | rfl | rfl <;> rfl) hO7.out (Below.refl _ _) hw7 (by omega) ?_)
                intro v8 w8 hown8 hb8 _ _
                have hS8 := Aside0.mk (SM.above hS7.out (hb8.mono hwc5))
                have hF8 := Aside0.mk (hF7.out.above hb8)
                have hO8 : Aside0 (w8.ownsRow wc.heap.size 54 5 v8 (Lc ++ [(⟨b.f0, sz, b.f4, b.f5, b.f3⟩ : S54)]).length (cells54 (Lc ++ [(⟨b.f0, sz, b.f4, b.f5, b.f3⟩ : S54)]))) := ⟨by
                  rw [cells54_append, List.length_append]
                  exact hown8⟩
                clear hown8 hb8 j0 j3 j4 j5
                go_wp2
                go_roundg (bs.length - (i + 1))
                case measure => have := hki.out; omega
                case rel => exact ⟨i + 1, far'.set i true, Lc ++ [(⟨b.f0, sz, b.f4, b.f5, b.f3⟩ : S54)], true, hlt, rfl, by go_num, ⟨rfl⟩, hS8, hO8, hF8, ⟨hJ2.out, hPi'.out⟩⟩
          · have hie : i = bs.length := by omega
            subst hie
            rw [Nat.sub_self] at hPi
            simp only [pass] at hPi
            obtain ⟨u0, u1, u2, u3⟩ := And.intro (hSi.out.frz 1).1 (And.intro (hSi.out.frz 2).1 (And.intro (hSi.out.frz 3).1 trivial))
            have hOA := hown.out
            have hcb : ∀ x, Ac = some x → w.heap.size + 5 ≤ x.block := by
              obtain ⟨A', c', e', _, _, h3⟩ := C54_of_own hown.out (by omega)
              cases e'
              intro x hx
              have := h3 x hx
              have := hsc5.out
              omega
            have hLr : LV w wr (.slice Ac Lc.length cc) Lc := ⟨Ac, cc, rfl, hcc, hCc, hcb⟩
            have hRr : RowI (w.heap.size + 5) wr (.slice Aa ad.length ca) ad := row_fr ⟨Aa, ca, rfl, by rw [hil2]; exact hca, hCa'.out, hga'.out⟩ hFi.out (by omega)
            have hSz := Aside0.mk (hSi.out.put (.slice Ac Lc.length cc) (.slice Aa items.length ca) (.slice As9 ns9 cs9))
            have hLz := Aside0.mk (((hLr.put (p := ⟨w.heap.size + 4, 1, none⟩) (by simp) (.slice Ac Lc.length cc)).put (p := ⟨w.heap.size + 4, 2, none⟩) (by simp) (.slice Aa items.length ca)).put (p := ⟨w.heap.size + 4, 3, none⟩) (by simp) (.slice As9 ns9 cs9))
            have hRz := Aside0.mk (row_put (row_put (row_put hRr (p := ⟨w.heap.size + 4, 1, none⟩) (.slice Ac Lc.length cc) (by simp)) (p := ⟨w.heap.size + 4, 2, none⟩) (.slice Aa items.length ca) (by simp)) (p := ⟨w.heap.size + 4, 3, none⟩) (.slice As9 ns9 cs9) (by simp))
            have hR' := hR.out
            rw [hPi] at hR' hPP
            clear hLr hRr hCc hOA hown hFi hSi hji p0 p1 p2 hR hcb
            cases ag with
            | true =>
              have hR2 : R = settleFrom os items bs ng far' Lc := by simpa using hR'
              have hpj := pass_J (a := ad) hob bs.length 0 far L false (by omega) hj.out
              rw [hPP.out] at hpj
              obtain ⟨g1, g2, g3⟩ := hpj
              have g4 : far.count true < far'.count true := (g3 rfl).resolve_left (by simp)
              have g5 := List.count_le_length (a := true) (l := far')
              have g6 := g1.fl
              replace hR' := Aside0.mk hR2
              clear hR2 g3
              go_wp2_with fail
              go_roundg ng
              case measure => omega
              case rel => exact ⟨far', Lc, _, _, _, hSz, hLz, ⟨g1, hR'.out, by omega⟩⟩
            | false =>
              simp only [Bool.false_eq_true, if_false] at hR'
              have hRs : Aside0 (∀ i e, scan (checkCode bs ad far' Lc) bs.length 0 = some (i, e) → R = ⟨[], [], [], [], e, 1000 + i⟩) := ⟨fun i e h => by rw [h] at hR'; exact hR'⟩
              have hRn : Aside0 (scan (checkCode bs ad far' Lc) bs.length 0 = none → R = ⟨far', Lc, ad, spn, 0, 0⟩) := ⟨fun h => by rw [h] at hR'; exact hR'⟩
              clear hR'
              go_wp2_with fail
              generalize (((wr.setCell ⟨w.heap.size + 4, 1, none⟩ (.slice Ac Lc.length cc)).setCell ⟨w.heap.size + 4, 2, none⟩ (.slice Aa items.length ca)).setCell ⟨w.heap.size + 4, 3, none⟩ (.slice As9 ns9 cs9)) = wz at *
              obtain ⟨wi, rfl⟩ : ∃ wi : World, wi = wr := ⟨_, rfl⟩
              go_loopg [19] bs.length (fun k s19 wr => ∃ i : Nat, i ≤ bs.length ∧ s19 = .int .i64 i ∧ Aside0 (k = bs.length - i) ∧ Aside0 (Below wz.heap.size wz wr) ∧ Aside0 (scan (checkCode bs ad far' Lc) bs.length 0 = scan (checkCode bs ad far' Lc) (bs.length - i) i))
              case atStart => exact ⟨0, Nat.zero_le _, rfl, ⟨rfl⟩, ⟨Below.refl _ _⟩, ⟨rfl⟩⟩
              case round =>
                obtain ⟨i, hi, rfl, hki, hbz, hsc⟩ := hrel
                have hSr := Aside0.mk (hSz.out.step hbz.out)
                obtain ⟨Al2, cl2, e, hcl2, hCl2, hAl2⟩ := hLz.out
                cases e
                obtain ⟨Aa2, ca2, e, hca2, hCa2, hga2⟩ := hRz.out
                obtain ⟨p0, p1, p2, p3, p4, p5⟩ := hSr.out.cells
                by_cases hlt : i < bs.length
                · obtain ⟨bk, o, eb, hbk, hx⟩ := open48 (Kd.C_below hB.out hSr.out.b) (by omega)
                  subst eb
                  obtain ⟨x0, x1, x2, x3, x4, x5⟩ := hx i hlt
                  have y0 := hSr.out.far_cell i hlt
                  have hgc : checkCode bs ad far' Lc i = (if far'.getD i false = false then 0 else if fits (bs.getD i z48).f2 (rd ad (bs.getD i z48).f0 + (Lc.getD (stubAt Lc (bs.getD i z48)) z54).f1) 0 (rd ad (bs.getD i z48).f0 + (bs.getD i z48).f1) = false then 16 else if 0 ≤ addrOf ad (bs.getD i z48).f4 (bs.getD i z48).f5 + (bs.getD i z48).f3 ∧ addrOf ad (bs.getD i z48).f4 (bs.getD i z48).f5 + (bs.getD i z48).f3 ≤ 4294967295 then 0 else 16) := rfl
                  have go_on : checkCode bs ad far' Lc i = 0 → Aside0 (scan (checkCode bs ad far' Lc) bs.length 0 = scan (checkCode bs ad far' Lc) (bs.length - (i + 1)) (i + 1)) := fun h => ⟨hsc.out.trans (scan_step hlt h)⟩
                  have go_out : checkCode bs ad far' Lc i = 16 → Aside0 (R = ⟨[], [], [], [], 16, 1000 + (i : Int)⟩) := fun h => ⟨by
                    have h2 := scan_hit (f := checkCode bs ad far' Lc) hlt (by rw [h]; decide)
                    rw [h] at h2
                    exact hRs.out i 16 (hsc.out.trans h2)⟩
                  replace go_on := Aside0.mk go_on
                  replace go_out := Aside0.mk go_out
                  have hss := hSr.out.sz
                  have hq3 : w.heap.size + 3 < wr.heap.size := by omega
                  have hq4 : w.heap.size + 4 < wr.heap.size := by omega
                  cases hfar : far'.getD i false with
                  | false =>
                    rw [hfar] at y0
                    have H := go_on.out (by rw [hgc, hfar]; rfl)
                    clear hgc hx
                    generalize bs.getD i z48 = b at *
                    have hbt := Aside0.mk hbz.out
                    go_wp2_with fail
                    go_roundg (bs.length - (i + 1))
                    case measure => have := hki.out; omega
                    case rel => exact ⟨i + 1, hlt, by go_num, ⟨rfl⟩, ⟨hbt.out.alloc hbt.out.size _⟩, H⟩
                  | true =>
                    rw [hfar] at y0
                    rw [hfar, if_neg (by simp)] at hgc
                    have hok := hob i hlt
                    have hsv := hji1.s i hlt hfar
                    have hq := hji1.q (bs.getD i z48) hok.f0.1 hsv
                    have hstlt : stubAt Lc (bs.getD i z48) < Lc.length := List.findIdx_lt_length.2 (by simpa using hsv)
                    have hstb : 0 - 5 ≤ (Lc.getD (stubAt Lc (bs.getD i z48)) z54).f1 ∧ (Lc.getD (stubAt Lc (bs.getD i z48)) z54).f1 ≤ 2000000 := by
                      rw [← hq]
                      have h1 := idxOf_bd (goals Lc (bs.getD i z48).f0.toNat) ⟨(bs.getD i z48).f4, (bs.getD i z48).f5, (bs.getD i z48).f3⟩ (by rw [goals_length]; exact Nat.le_trans (cnt_le Lc _) hLc)
                      have h2 := hvi.x (bs.getD i z48).f0.toNat (by have := hok.f0; omega)
                      have h3 : (rd_T57 items (bs.getD i z48).f0).f1 = (items.getD (bs.getD i z48).f0.toNat z57).f1 := rfl
                      unfold stubOff; omega
                    obtain ⟨bl, ol, e2, hbl2, hxl⟩ := open54 hCl2 (by omega)
                    subst e2
                    have v1 := (hbz.out.cell (p := ⟨bl, ol + stubAt Lc (bs.getD i z48) * 5 + 1, none⟩) hbl2).trans (hxl _ hstlt).2.1
                    obtain ⟨q1, q2⟩ := hok.f0
                    obtain ⟨q3, q4⟩ := hok.f1
                    obtain ⟨q5, q6⟩ := hok.f3
                    obtain ⟨q7, q8⟩ := hok.f4
                    obtain ⟨q9, q10⟩ := hok.f5
                    rw [hil2] at e
                    cases e
                    obtain ⟨ba, oa, e3, hba, hxa⟩ := openI hCa2 (by rw [hil2]; omega)
                    subst e3
                    have xa : wr.cell? ⟨ba, oa + (bs.getD i z48).f0.toNat, none⟩ = some (.int .i64 (rd ad (bs.getD i z48).f0)) := (hbz.out.cell (p := ⟨ba, _, none⟩) hba).trans (hxa _ (by rw [hil2]; omega))
                    have hbaw : ba < wr.heap.size := Nat.lt_of_lt_of_le hba hbz.out.size
                    have hblw : bl < wr.heap.size := Nat.lt_of_lt_of_le hbl2 hbz.out.size
                    have hrd := hoa'.out.bd (bs.getD i z48).f0 q1 q2
                    have hab := addr_bd hoa'.out hok
                    have HA : Aside0 (∀ W', Below wz.heap.size wz W' → Calls Try.prog 15 #[.slice (some ⟨ba, oa, none⟩) items.length ca, .int .i64 (bs.getD i z48).f4, .int .i64 (bs.getD i z48).f5] W' fun e W'' => e = .returned (.int .i64 (addrOf ad (bs.getD i z48).f4 (bs.getD i z48).f5)) ∧ Drawn0 W' W'') :=
                      ⟨fun W' hW => by
                        have := linkhouseref4_Address.calls (some ⟨ba, oa, none⟩) ca ad (bs.getD i z48).f4 (bs.getD i z48).f5 _ W' (Kd.C_below hCa2 hW) hca2 (refAddr_plain hoa'.out q7 q8 q9 q10)
                        rw [hil2] at this
                        exact this⟩
                    have HS : Aside0 (∀ W', Below wz.heap.size wz W' → Calls Try.prog 16 #[.slice (some ⟨bl, ol, none⟩) Lc.length cc, .agg #[.int .i64 (bs.getD i z48).f0, .int .i64 (bs.getD i z48).f1, .int .i64 (bs.getD i z48).f2, .int .i64 (bs.getD i z48).f3, .int .i64 (bs.getD i z48).f4, .int .i64 (bs.getD i z48).f5]] W' fun e W'' => e = .returned (.int .i64 (stubAt Lc (bs.getD i z48) : Nat)) ∧ Below W'.heap.size W' W'') :=
                      ⟨fun W' hW => linkhouseref4_StubFor.calls (Lc.length + 1) (some ⟨bl, ol, none⟩) cc Lc _ _ _ _ _ _ _ W' (Kd.C_below hCl2 hW) hcl2 (by
                        unfold linkhouseref4_StubFor.f
                        have := stubFor_plain Lc (bs.getD i z48) (by omega) Lc.length 0 (Lc.length + 1) (by omega) (by omega)
                        rw [List.drop_zero, if_pos hsv] at this
                        simpa [stubAt] using this)⟩
                    have HN : Aside0 (∀ W', Calls Try.prog 14 #[.int .i64 (bs.getD i z48).f2, .int .i64 (rd ad (bs.getD i z48).f0 + (Lc.getD (stubAt Lc (bs.getD i z48)) z54).f1), .int .i64 0, .int .i64 (rd ad (bs.getD i z48).f0 + (bs.getD i z48).f1)] W' fun e W'' => e = .returned (.tuple #[.int .i64 (numV (bs.getD i z48).f2 (rd ad (bs.getD i z48).f0 + (Lc.getD (stubAt Lc (bs.getD i z48)) z54).f1) 0 (rd ad (bs.getD i z48).f0 + (bs.getD i z48).f1)), .bool (fits (bs.getD i z48).f2 (rd ad (bs.getD i z48).f0 + (Lc.getD (stubAt Lc (bs.getD i z48)) z54).f1) 0 (rd ad (bs.getD i z48).f0 + (bs.getD i z48).f1))]) ∧ Drawn0 W' W'') :=
                      ⟨fun W' => linkhouseref3_Number.calls _ _ _ _ _ _ W' (rnum_plain (by omega) (by omega) (by omega) (by omega) (by omega) (by omega))⟩
                    have HI : Aside0 (∀ W', Calls Try.prog 17 #[.int .i64 (addrOf ad (bs.getD i z48).f4 (bs.getD i z48).f5 + (bs.getD i z48).f3), .int .i64 0, .int .i64 4294967295] W' fun e W'' => e = .returned (.bool (decide (0 ≤ addrOf ad (bs.getD i z48).f4 (bs.getD i z48).f5 + (bs.getD i z48).f3 ∧ addrOf ad (bs.getD i z48).f4 (bs.getD i z48).f5 + (bs.getD i z48).f3 ≤ 4294967295))) ∧ Drawn0 W' W'') :=
                      ⟨fun W' => linkhouseref4_In.calls _ _ _ _ W' (in4_plain _ _ _)⟩
                    clear hx hxa hxl hok hsv hq hCl2 hCa2 hsc
                    generalize stubAt Lc (bs.getD i z48) = sa at *
                    generalize (Lc.getD sa z54).f1 = so at *
                    generalize bs.getD i z48 = b at *
                    generalize addrOf ad b.f4 b.f5 = av at *
                    generalize rd ad b.f0 = rv at *
                    generalize fits b.f2 (rv + so) 0 (rv + b.f1) = fv at *
                    generalize numV b.f2 (rv + so) 0 (rv + b.f1) = nv at *
                    go_wp2_with fail
                    have c0 : (wr.alloc (Obj.cells #[Value.int IntKind.i64 b.f0, Value.int IntKind.i64 b.f1, Value.int IntKind.i64 b.f2, Value.int IntKind.i64 b.f3, Value.int IntKind.i64 b.f4, Value.int IntKind.i64 b.f5] 48)).cell? ⟨wr.heap.size, 0, none⟩ = some (.int .i64 b.f0) := by simp
                    have c1 : (wr.alloc (Obj.cells #[Value.int IntKind.i64 b.f0, Value.int IntKind.i64 b.f1, Value.int IntKind.i64 b.f2, Value.int IntKind.i64 b.f3, Value.int IntKind.i64 b.f4, Value.int IntKind.i64 b.f5] 48)).cell? ⟨wr.heap.size, 1, none⟩ = some (.int .i64 b.f1) := by simp
                    have c2 : (wr.alloc (Obj.cells #[Value.int IntKind.i64 b.f0, Value.int IntKind.i64 b.f1, Value.int IntKind.i64 b.f2, Value.int IntKind.i64 b.f3, Value.int IntKind.i64 b.f4, Value.int IntKind.i64 b.f5] 48)).cell? ⟨wr.heap.size, 2, none⟩ = some (.int .i64 b.f2) := by simp
                    have c3 : (wr.alloc (Obj.cells #[Value.int IntKind.i64 b.f0, Value.int IntKind.i64 b.f1, Value.int IntKind.i64 b.f2, Value.int IntKind.i64 b.f3, Value.int IntKind.i64 b.f4, Value.int IntKind.i64 b.f5] 48)).cell? ⟨wr.heap.size, 3, none⟩ = some (.int .i64 b.f3) := by simp
                    have c4 : (wr.alloc (Obj.cells #[Value.int IntKind.i64 b.f0, Value.int IntKind.i64 b.f1, Value.int IntKind.i64 b.f2, Value.int IntKind.i64 b.f3, Value.int IntKind.i64 b.f4, Value.int IntKind.i64 b.f5] 48)).cell? ⟨wr.heap.size, 4, none⟩ = some (.int .i64 b.f4) := by simp
                    have c5 : (wr.alloc (Obj.cells #[Value.int IntKind.i64 b.f0, Value.int IntKind.i64 b.f1, Value.int IntKind.i64 b.f2, Value.int IntKind.i64 b.f3, Value.int IntKind.i64 b.f4, Value.int IntKind.i64 b.f5] 48)).cell? ⟨wr.heap.size, 5, none⟩ = some (.int .i64 b.f5) := by simp
                    have hx1 : Aside0 (Below wr.heap.size wr (wr.alloc (Obj.cells #[Value.int IntKind.i64 b.f0, Value.int IntKind.i64 b.f1, Value.int IntKind.i64 b.f2, Value.int IntKind.i64 b.f3, Value.int IntKind.i64 b.f4, Value.int IntKind.i64 b.f5] 48))) := ⟨below_alloc (Below.refl _ _) _⟩
                    have hx2 : wr.heap.size < (wr.alloc (Obj.cells #[Value.int IntKind.i64 b.f0, Value.int IntKind.i64 b.f1, Value.int IntKind.i64 b.f2, Value.int IntKind.i64 b.f3, Value.int IntKind.i64 b.f4, Value.int IntKind.i64 b.f5] 48)).heap.size := by simp
                    generalize (wr.alloc (Obj.cells #[Value.int IntKind.i64 b.f0, Value.int IntKind.i64 b.f1, Value.int IntKind.i64 b.f2, Value.int IntKind.i64 b.f3, Value.int IntKind.i64 b.f4, Value.int IntKind.i64 b.f5] 48)) = X at *
                    have vX := (hx1.out.cell (p := ⟨bl, ol + sa * 5 + 1, none⟩) hblw).trans v1
                    have pX := (hx1.out.cell (p := ⟨w.heap.size + 4, 1, none⟩) hq4).trans p3
                    have hblX : bl < X.heap.size := Nat.lt_trans hblw hx2
                    have hq4X : w.heap.size + 4 < X.heap.size := Nat.lt_trans hq4 hx2
                    have hSX := Aside0.mk (hSr.out.step hx1.out)
                    have hzX := Aside0.mk (hbz.out.trans (hx1.out.mono hbz.out.size))
                    clear x0 x1 x2 x3 x4 x5 y0 xa v1 p0 p1 p2 p3 p4 p5 hbk hSr hx1
                    have g1 : IntKind.i64.wrap (rv + so) = rv + so := by rw [i64_w]; unfold wrap64; omega
                    have g2 : IntKind.i64.wrap (rv + b.f1) = rv + b.f1 := by rw [i64_w]; unfold wrap64; omega
                    go_region_held3 (fun w' => w'.cell? ⟨wr.heap.size, 0, none⟩ = some (.int .i64 b.f0) ∧ w'.cell? ⟨wr.heap.size, 1, none⟩ = some (.int .i64 b.f1) ∧ w'.cell? ⟨wr.heap.size, 2, none⟩ = some (.int .i64 b.f2) ∧ w'.cell? ⟨wr.heap.size, 3, none⟩ = some (.int .i64 b.f3) ∧ w'.cell? ⟨wr.heap.size, 4, none⟩ = some (.int .i64 b.f4) ∧ w'.cell? ⟨wr.heap.size, 5, none⟩ = some (.int .i64 b.f5) ∧ w'.cell? ⟨w.heap.size + 4, 1, none⟩ = some (.slice (some ⟨bl, ol, none⟩) Lc.length cc) ∧ w'.cell? ⟨bl, ol + sa * 5 + 1, none⟩ = some (.int .i64 so))
                      (first
                        | go_keep
                        | (go_split_ands
                           refine ⟨(hc1.cell hx2).trans c0, (hc1.cell hx2).trans c1, (hc1.cell hx2).trans c2, (hc1.cell hx2).trans c3, (hc1.cell hx2).trans c4, (hc1.cell hx2).trans c5, (hc1.cell hq4X).trans pX, (hc1.cell hblX).trans vX⟩))
                      (first
                        | (go_at_call 16; refine (HS.out _ (hzX.out.drew)).mono ?_; rintro e w5 ⟨rfl, hc0⟩; have hc1 : Below X.heap.size X w5 := (below_drew (Below.refl _ _)).trans hc0)
                        | (go_at_call 14; refine (HN.out _).mono ?_; rintro e w6 ⟨rfl, ⟨n2, rfl⟩⟩))
                    clear g1 g2
                    have k3 := (hc1.cell (p := ⟨wr.heap.size, 3, none⟩) hx2).trans c3
                    have k4 := (hc1.cell (p := ⟨wr.heap.size, 4, none⟩) hx2).trans c4
                    have k5 := (hc1.cell (p := ⟨wr.heap.size, 5, none⟩) hx2).trans c5
                    have hSq := Aside0.mk (hSX.out.step (pw_below_drewN hc1 n2))
                    have hzq := Aside0.mk (hzX.out.trans ((pw_below_drewN hc1 n2).mono hzX.out.size))
                    clear c0 c1 c2 c3 c4 c5 vX pX hc0 hc1 hSX HS HN
                    change (w5.drewN n2).cell? _ = _ at k3
                    change (w5.drewN n2).cell? _ = _ at k4
                    change (w5.drewN n2).cell? _ = _ at k5
                    generalize w5.drewN n2 = wq at *
                    have p4 := (hSq.out.cells).2.2.2.2.1
                    cases fv with
                    | false =>
                      go_wp2_with fail
                      go_quiet (fail)
                      have H := go_out.out (by rw [hgc]; simp)
                      clear hgc go_on go_out
                      have g2 : IntKind.i64.wrap (1000 + (i : Int)) = 1000 + (i : Int) := by rw [i64_w]; unfold wrap64; omega
                      go_wp2_with (go_at_call 21; refine (linkhouseref4_At.calls 16 (1000 + (i : Int)) 16 (1000 + (i : Int)) _ rfl).mono ?_)
                      rintro e w8 ⟨rfl, hb8⟩
                      have hS8 := Aside0.mk ((hSq.out.step (pw_below_drewN (Below.refl _ _) nq)).step hb8)
                      obtain ⟨r0, r1, r2, r3, r4, r5, r6, r7⟩ := hS8.out.res
                      have r60 := r6 0
                      have r61 := r6 1
                      have r62 := r6 2
                      have r63 := r6 3
                      have r70 := r7 0
                      have r71 := r7 1
                      clear r6 r7 g2 hb8
                      go_wp2
                      refine bodyPost_ret (v := .tuple #[.agg #[.slice none 0 0, .slice none 0 0, .slice none 0 0, .slice none 0 0], .agg #[.int .i64 16, .int .i64 (1000 + (i : Int))]]) (by simp [results, Try.results7, go_sem, r0, r1, r2, r3, r4, r5]) rfl ?_
                      have H' := H.out
                      subst H'
                      refine ⟨_, _, _, _, rfl, ?_, ⟨⟨_, _, _, rfl⟩, ⟨_, _, _, rfl⟩, ⟨_, _, _, rfl⟩, ⟨_, _, _, rfl⟩⟩, fun h => absurd (show (16 : Int) = 0 from h) (by decide)⟩
                      with_reducible repeat (first | apply below_drew | apply pw_below_drewN | refine Below.setCell ?_ (Nat.le_add_right _ 1) _ | refine Below.setCell ?_ (Nat.le_add_right _ 2) _ | apply below_alloc)
                      exact hS8.out.b
                    | true =>
                      have g1 : IntKind.i64.wrap (av + b.f3) = av + b.f3 := by rw [i64_w]; unfold wrap64; omega
                      by_cases hio : 0 ≤ av + b.f3 ∧ av + b.f3 ≤ 4294967295
                      · rw [decide_eq_true hio] at HI
                        have H := go_on.out (by rw [hgc, if_neg (by simp), if_pos hio])
                        clear hgc go_on go_out
                        go_wp2_with fail
                        go_quiet (first | (go_at_call 15; exact quiet_drawn (HA.out _ (by repeat (first | exact hzq.out | apply pw_below_drewN)))) | (go_at_call 17; exact quiet_drawn (HI.out _)))
                        clear g1
                        go_wp2
                        go_roundg (bs.length - (i + 1))
                        case measure => have := hki.out; omega
                        case rel => exact ⟨i + 1, hlt, by go_num, ⟨rfl⟩, ⟨by repeat (first | exact hzq.out | apply pw_below_drewN)⟩, H⟩
                      · rw [decide_eq_false hio] at HI
                        go_wp2_with fail
                        go_quiet (first | (go_at_call 15; exact quiet_drawn (HA.out _ (by repeat (first | exact hzq.out | apply pw_below_drewN)))) | (go_at_call 17; exact quiet_drawn (HI.out _)))
                        clear g1
                        have H := go_out.out (by rw [hgc]; rw [if_neg (by simp), if_neg hio])
                        clear hgc go_on go_out
                        have g2 : IntKind.i64.wrap (1000 + (i : Int)) = 1000 + (i : Int) := by rw [i64_w]; unfold wrap64; omega
                        go_wp2_with (go_at_call 21; refine (linkhouseref4_At.calls 16 (1000 + (i : Int)) 16 (1000 + (i : Int)) _ rfl).mono ?_)
                        rintro e w8 ⟨rfl, hb8⟩
                        have hS8 := Aside0.mk ((hSq.out.step (pw_below_drewN (Below.refl _ _) nq)).step hb8)
                        obtain ⟨r0, r1, r2, r3, r4, r5, r6, r7⟩ := hS8.out.res
                        have r60 := r6 0
                        have r61 := r6 1
                        have r62 := r6 2
                        have r63 := r6 3
                        have r70 := r7 0
                        have r71 := r7 1
                        clear r6 r7 g2 hb8
                        go_wp2
                        refine bodyPost_ret (v := .tuple #[.agg #[.slice none 0 0, .slice none 0 0, .slice none 0 0, .slice none 0 0], .agg #[.int .i64 16, .int .i64 (1000 + (i : Int))]]) (by simp [results, Try.results7, go_sem, r0, r1, r2, r3, r4, r5]) rfl ?_
                        have H' := H.out
                        subst H'
                        refine ⟨_, _, _, _, rfl, ?_, ⟨⟨_, _, _, rfl⟩, ⟨_, _, _, rfl⟩, ⟨_, _, _, rfl⟩, ⟨_, _, _, rfl⟩⟩, fun h => absurd (show (16 : Int) = 0 from h) (by decide)⟩
                        with_reducible repeat (first | apply below_drew | apply pw_below_drewN | refine Below.setCell ?_ (Nat.le_add_right _ 1) _ | refine Below.setCell ?_ (Nat.le_add_right _ 2) _ | apply below_alloc)
                        exact hS8.out.b
                · have hie : i = bs.length := by omega
                  subst hie
                  have hsn := hsc.out
                  rw [Nat.sub_self] at hsn
                  have hR1 := Aside0.mk (hRn.out hsn)
                  obtain ⟨r0, r1, r2, r3, r4, r5, r6, r7⟩ := hSr.out.res
                  have r60 := r6 0
                  have r61 := r6 1
                  have r62 := r6 2
                  have r63 := r6 3
                  have r70 := r7 0
                  have r71 := r7 1
                  have hbo := Aside0.mk (hSr.out.bools hbl)
                  have hlo : Aside0 (RowD k54 (w.heap.size + 5) wr (.slice Ac Lc.length cc) Lc) := ⟨Ac, cc, rfl, hcl2, Kd.C_below hCl2 hbz.out, hAl2⟩
                  have hao : Aside0 (RowD (Kd.int .i64) (w.heap.size + 5) wr (.slice Aa items.length ca) ad) := by
                    cases e
                    exact ⟨⟨Aa, ca, by rw [hil2], hca2, Kd.C_below hCa2 hbz.out, hga2⟩⟩
                  clear r6 r7 hsn hsc hCl2 hCa2
                  go_wp2
                  refine bodyPost_ret (v := .tuple #[.agg #[.slice (some ⟨w.heap.size + 3, 0, none⟩) bs.length bs.length, .slice Ac Lc.length cc, .slice Aa items.length ca, .slice As9 ns9 cs9], .agg #[.int .i64 0, .int .i64 0]]) (by simp [results, Try.results7, go_sem, r0, r1, r2, r3, r4, r5]) rfl ?_
                  have hR1' := hR1.out
                  subst hR1'
                  have l1 : w.heap.size + 1 < w.heap.size + 3 := by omega
                  have l2 : w.heap.size + 2 < w.heap.size + 3 := by omega
                  have l3 : w.heap.size + 1 < w.heap.size + 5 := by omega
                  have l4 : w.heap.size + 2 < w.heap.size + 5 := by omega
                  refine ⟨_, _, _, _, rfl, ?_, ⟨⟨_, _, _, rfl⟩, ⟨_, _, _, rfl⟩, ⟨_, _, _, rfl⟩, ⟨_, _, _, rfl⟩⟩, fun _ => ⟨rfl, ?_, ?_, ?_⟩⟩
                  · with_reducible repeat (first | apply below_drew | apply pw_below_drewN | refine Below.setCell ?_ (Nat.le_add_right _ 1) _ | refine Below.setCell ?_ (Nat.le_add_right _ 2) _ | apply below_alloc)
                    exact hSr.out.b
                  · refine RowD.weak (base := w.heap.size + 3) ?_ (Nat.le_add_right _ 3)
                    with_reducible repeat (first | apply RowD.drew | apply RowD.alloc | refine RowD.set k0_any ?_ l1 | refine RowD.set k0_any ?_ l2)
                    exact hbo.out
                  · refine RowD.weak (base := w.heap.size + 5) ?_ (Nat.le_add_right _ 5)
                    with_reducible repeat (first | apply RowD.drew | apply RowD.alloc | refine RowD.set k54_any ?_ l3 | refine RowD.set k54_any ?_ l4)
                    exact hlo.out
                  · refine RowD.weak (base := w.heap.size + 5) ?_ (Nat.le_add_right _ 5)
                    with_reducible repeat (first | apply RowD.drew | apply RowD.alloc | refine RowD.set k1_any ?_ l3 | refine RowD.set k1_any ?_ l4)
                    exact hao.out
      · have hcz' : (ga.code != 0) = true := by simpa using hcz
        rw [if_pos hcz] at hR
        obtain ⟨r0, r1, r2, r3, r4, r5, r6, r7⟩ := hSMc.out.res
        have r60 := r6 0
        have r61 := r6 1
        have r62 := r6 2
        have r63 := r6 3
        have r70 := r7 0
        have r71 := r7 1
        replace hR := Aside0.mk hR
        clear r6 r7 hin
        go_wp2_with fail
        go_region
        go_wp2
        refine bodyPost_ret (v := .tuple #[.agg #[.slice none 0 0, .slice none 0 0, .slice none 0 0, .slice none 0 0], .agg #[.int .i64 ga.code, .int .i64 ga.idx]]) (by simp [results, Try.results7, go_sem, r0, r1, r2, r3, r4, r5]) rfl ?_
        have hR' := hR.out
        subst hR'
        refine ⟨_, _, _, _, rfl, ?_, ⟨⟨_, _, _, rfl⟩, ⟨_, _, _, rfl⟩, ⟨_, _, _, rfl⟩, ⟨_, _, _, rfl⟩⟩, fun h => absurd h hcz⟩
        with_reducible repeat (first | apply below_drew | apply pw_below_drewN | refine Below.setCell ?_ (Nat.le_add_right _ 1) _ | refine Below.setCell ?_ (Nat.le_add_right _ 2) _ | apply below_alloc)
        exact hSMc.out.b
end Go.Proofs.Ytogcgcjhoebooaa
end
section
set_option linter.unusedVariables false
set_option linter.unusedSimpArgs false
namespace Go.Proofs.Ytogcgcjhoebooaa
open Go.RowKit Go.Proofs.YtogcgcjhoebooaaW.PrintWords Go.Proofs.YtogcgcjhoebooaaW.PrintLast Go.Proofs.Ytogcgcjhoebooaa.PVeneerMatchesSpec
structure LM (w W : World) (f : Nat) (v0 v1 : Value) (c x : Int) (a b d e : Value) : Prop where
  bel : Below w.heap.size w W
  zb : W.heap[w.heap.size]? = some (.cells #[v0, v1] 25 (0, 0))
  z7 : W.heap[f]? = some (.cells #[.int .i64 c, .int .i64 x] 29 (0, 0))
  z8 : W.heap[f + 1]? = some (.cells #[a, b, d, e] 36 (0, 0))
  lt : w.heap.size + 1 ≤ f
theorem LM.step {w W W1 : World} {f : Nat} {v0 v1 : Value} {c x : Int} {a b d e : Value} (h : LM w W f v0 v1 c x a b d e) (hb : Below W.heap.size W W1) : LM w W1 f v0 v1 c x a b d e :=
  ⟨h.bel.trans (hb.mono h.bel.size), blk_below h.zb hb, blk_below h.z7 hb, blk_below h.z8 hb, h.lt⟩
theorem LM.cells {w W : World} {f : Nat} {v0 v1 : Value} {c x : Int} {a b d e : Value} (h : LM w W f v0 v1 c x a b d e) :
  W.cell? ⟨w.heap.size, 0, none⟩ = some v0 ∧ W.cell? ⟨w.heap.size, 1, none⟩ = some v1 ∧ W.cell? ⟨f, 0, none⟩ = some (.int .i64 c) ∧ W.cell? ⟨f, 1, none⟩ = some (.int .i64 x) ∧
   W.cell? ⟨f + 1, 0, none⟩ = some a ∧ W.cell? ⟨f + 1, 1, none⟩ = some b ∧ W.cell? ⟨f + 1, 2, none⟩ = some d ∧ W.cell? ⟨f + 1, 3, none⟩ = some e :=
 ⟨(blk_cell h.zb 0).trans rfl, (blk_cell h.zb 1).trans rfl, (blk_cell h.z7 0).trans rfl, (blk_cell h.z7 1).trans rfl, (blk_cell h.z8 0).trans rfl, (blk_cell h.z8 1).trans rfl, (blk_cell h.z8 2).trans rfl, (blk_cell h.z8 3).trans rfl⟩
theorem LM.frz {w W : World} {f : Nat} {v0 v1 : Value} {c x : Int} {a b d e : Value} (h : LM w W f v0 v1 c x a b d e) :
  W.frozen? ⟨f, 0, none⟩ = false ∧ W.frozen? ⟨f, 1, none⟩ = false ∧ W.frozen? ⟨f + 1, 0, none⟩ = false ∧ W.frozen? ⟨f + 1, 1, none⟩ = false ∧ W.frozen? ⟨f + 1, 2, none⟩ = false ∧ W.frozen? ⟨f + 1, 3, none⟩ = false :=
 ⟨blk_frozen h.z7 0, blk_frozen h.z7 1, blk_frozen h.z8 0, blk_frozen h.z8 1, blk_frozen h.z8 2, blk_frozen h.z8 3⟩
def put6 (W : World) (f : Nat) (a b d e : Value) (c x : Int) : World :=
  (((((W.setCell ⟨f + 1, 0, none⟩ a).setCell ⟨f + 1, 1, none⟩ b).setCell ⟨f + 1, 2, none⟩ d).setCell ⟨f + 1, 3, none⟩ e).setCell ⟨f, 0, none⟩ (.int .i64 c)).setCell ⟨f, 1, none⟩ (.int .i64 x)
theorem LM.put {w W : World} {f : Nat} {v0 v1 : Value} {c x : Int} {a b d e : Value} (h : LM w W f v0 v1 c x a b d e) (a' b' d' e' : Value) (c' x' : Int) : LM w (put6 W f a' b' d' e' c' x') f v0 v1 c' x' a' b' d' e' := by
 have hlt := h.lt
 have n1 : w.heap.size ≠ f + 1 := by omega
 have n2 : w.heap.size ≠ f := by omega
 have n3 : f ≠ f + 1 := by omega
 have n4 : f + 1 ≠ f := by omega
 have l1 : w.heap.size ≤ f + 1 := by omega
 have l2 : w.heap.size ≤ f := by omega
 unfold put6
 refine ⟨(((((h.bel.setCell (p := ⟨f + 1, 0, none⟩) l1 _).setCell (p := ⟨f + 1, 1, none⟩) l1 _).setCell (p := ⟨f + 1, 2, none⟩) l1 _).setCell (p := ⟨f + 1, 3, none⟩) l1 _).setCell (p := ⟨f, 0, none⟩) l2 _).setCell (p := ⟨f, 1, none⟩) l2 _, ?_, ?_, ?_, hlt⟩
 ·exact blk_far (p := ⟨f, 1, none⟩) (blk_far (p := ⟨f, 0, none⟩) (blk_far (p := ⟨f + 1, 3, none⟩) (blk_far (p := ⟨f + 1, 2, none⟩) (blk_far (p := ⟨f + 1, 1, none⟩) (blk_far (p := ⟨f + 1, 0, none⟩) h.zb n1 _) n1 _) n1 _) n1 _) n2 _) n2 _
 ·exact blk_put (blk_put (blk_far (p := ⟨f + 1, 3, none⟩) (blk_far (p := ⟨f + 1, 2, none⟩) (blk_far (p := ⟨f + 1, 1, none⟩) (blk_far (p := ⟨f + 1, 0, none⟩) h.z7 n3 _) n3 _) n3 _) n3 _) 0 _ rfl) 1 _ rfl
 ·exact blk_far (p := ⟨f, 1, none⟩) (blk_far (p := ⟨f, 0, none⟩) (blk_put (blk_put (blk_put (blk_put h.z8 0 _ rfl) 1 _ rfl) 2 _ rfl) 3 _ rfl) n4 _) n4 _
theorem RowD.put6 {α : Type} {d : Kd α} (hd : ∀ (W W' : World) (x : α) (cs : List Value), d.K W x cs → d.K W' x cs) {base : Nat} {W : World} {v : Value} {xs : List α} (h : RowD d base W v xs) {f : Nat} (hf : f + 1 < base) (a b e g : Value) (c x : Int) : RowD d base (put6 W f a b e g c x) v xs := by
 have h2 : f < base := by omega
 unfold Proofs.Ytogcgcjhoebooaa.put6
 exact RowD.set hd (RowD.set hd (RowD.set hd (RowD.set hd (RowD.set hd (RowD.set hd h hf) hf) hf) hf) h2) h2
theorem RowD.step {α : Type} {d : Kd α} {base : Nat} {W W1 : World} {v : Value} {xs : List α} (h : RowD d base W v xs) (hb : Below W.heap.size W W1) : RowD d base W1 v xs := by
  obtain ⟨A, c, e, h1, h2, h3⟩ := h
  exact ⟨A, c, e, h1, Kd.C_below h2 hb, h3⟩
theorem ints_l0 (l : List Int) (hm : l.length ≤ 9223372036854775807) : ∀ (d i k : Nat), i + d = l.length → d < k → linkhouseref4_Ints.l0 k l l i = some true
 | 0, i, k, hi, hk => by
  obtain ⟨k, rfl⟩ : ∃ k', k = k' + 1 := ⟨k - 1, by omega⟩
  rw [linkhouseref4_Ints.l0, if_neg (by omega)]
 | d + 1, i, k, hi, hk => by
  obtain ⟨k, rfl⟩ : ∃ k', k = k' + 1 := ⟨k - 1, by omega⟩
  rw [linkhouseref4_Ints.l0, if_pos (by omega), if_pos (by omega), if_pos (by omega), if_pos rfl, show wrap64 ((i : Int) + 1) = ((i + 1 : Nat) : Int) by unfold wrap64; omega]
  exact ints_l0 l hm d (i + 1) k (by omega) (by omega)
theorem ints_eq (l : List Int) (hm : l.length ≤ 9223372036854775807) : linkhouseref4_Ints.f (l.length + 1) l l = some true := by
  unfold linkhouseref4_Ints.f
  rw [if_pos rfl]
  exact ints_l0 l hm l.length 0 (l.length + 1) (by omega) (by omega)
set_option maxHeartbeats 4000000 in
set_option maxRecDepth 100000 in
theorem matchesSpec_calls {w : World} {A0 A1 A2 AB : Option Addr} {c0 c1 c2 cB : Nat} {os : List S72} {rs : List S76} {items : List S57} {bs : List S48}
  (h0 : Kd.C k72 w A0 os.length os) (hc0 : os.length ≤ c0) (h1 : Kd.C k76 w A1 rs.length rs) (hc1 : rs.length ≤ c1) (h2 : Kd.C k57 w A2 items.length items) (hc2 : items.length ≤ c2) (hB : Kd.C k48 w AB bs.length bs) (hcB : bs.length ≤ cB)
  (hs0 : ∀ j, (os.getD j z72).f0.size ≤ 9223372036854775807) (hs1 : ∀ j, (rs.getD j z76).f0.size ≤ 9223372036854775807) :
  Calls Try.prog 3 #[.agg #[.slice A0 os.length c0, .slice A1 rs.length c1], .slice A2 items.length c2, .slice AB bs.length cB] w fun e W' => e = .returned (.bool true) ∧ Below w.heap.size w W' := by
 have hu25 := Try.underlying25
 have hu29 := Try.underlying29
 have hu36 := Try.underlying36
 have hIF := Aside0.mk (fun (W' : World) (hW : Below w.heap.size w W') => insertFault_calls (Kd.C_below h0 hW) hc0 (Kd.C_below h1 hW) hc1 (Kd.C_below h2 hW) hc2 (Kd.C_below hB hW) hcB hs0 hs1)
 have hIN := Aside0.mk (fun (W' : World) (hW : Below w.heap.size w W') => insert_done (Kd.C_below h0 hW) hc0 (Kd.C_below h1 hW) hc1 (Kd.C_below h2 hW) hc2 (Kd.C_below hB hW) hcB hs0 hs1)
 have hST : Aside0 ((insertFault os rs items bs).1 = 0 → ∀ (W' : World), Below w.heap.size w W' → _) := ⟨fun hf W' hW => by
  obtain ⟨a1, a2, a3, a4⟩ := insertFault_ok hf
  exact settled_calls (Kd.C_below h0 hW) hc0 (Kd.C_below h1 hW) hc1 (Kd.C_below h2 hW) hc2 (Kd.C_below hB hW) hcB (validO_of a1) (validI_of a2) a3 (fun i hi => okB_of (validI_of a2) (a4 i hi))⟩
 have hIS : inserted os rs items bs = (if (insertFault os rs items bs).1 ≠ 0 then ⟨[], [], [], (insertFault os rs items bs).1, (insertFault os rs items bs).2⟩ else if (settled os items bs).code ≠ 0 then ⟨[], [], [], (settled os items bs).code, (settled os items bs).idx⟩ else ⟨(settled os items bs).far, ordered (settled os items bs).L items.length, (settled os items bs).ad, 0, 0⟩) := rfl
 have hSL : (insertFault os rs items bs).1 = 0 → (settled os items bs).code = 0 → (settled os items bs).L.length ≤ 400 ∧ items.length ≤ 200 := fun hf hs => by
  obtain ⟨a1, a2, a3, a4⟩ := insertFault_ok hf
  have hg : Good os items bs (settled os items bs) := settleFrom_ok (fun i hi => okB_of (validI_of a2) (a4 i hi)) (bs.length + 1) _ _ (J.init items bs) (by omega) hs
  exact ⟨hg.j.le a3, (validI_of a2).len⟩
 generalize inserted os rs items bs = R at *
 generalize settled os items bs = S at *
 generalize insertFault os rs items bs = F at *
 obtain ⟨fc, fx⟩ := F
 simp only at hIF hST hIS hSL
 replace hIS := Aside0.mk hIS
 replace hSL := Aside0.mk hSL
 clear h0 h1 h2 hB hs0 hs1
 have hbx : Below w.heap.size w (w.alloc (Obj.cells #[.slice A0 os.length c0, .slice A1 rs.length c1] 25)) := below_alloc (Below.refl _ _) _
 have zb := alloc_block w (Obj.cells #[.slice A0 os.length c0, .slice A1 rs.length c1] 25)
 go_enter Try.func3, Try.ntmps3
 go_wp2_with (go_at_call 6; refine (hIF.out _ hbx).mono ?_)
 rintro e w1 ⟨rfl, hb1⟩
 have hs1 : w.heap.size + 1 ≤ w1.heap.size := by have := hb1.size; simp at this; omega
 have lm := Aside0.mk (show LM w ((w1.alloc (Obj.cells #[Value.int IntKind.i64 fc, Value.int IntKind.i64 fx] 29)).alloc (Obj.cells #[Value.slice none 0 0, Value.slice none 0 0, Value.slice none 0 0, Value.slice none 0 0] 36)) w1.heap.size (.slice A0 os.length c0) (.slice A1 rs.length c1) fc fx (.slice none 0 0) (.slice none 0 0) (.slice none 0 0) (.slice none 0 0) from
  ⟨below_alloc (below_alloc (hbx.trans (hb1.mono (by simp))) _) _, blk_alloc (blk_alloc (blk_below zb hb1) _) _, blk_alloc (alloc_block w1 _) _, by
   have h := alloc_block (w1.alloc (Obj.cells #[Value.int IntKind.i64 fc, Value.int IntKind.i64 fx] 29)) (Obj.cells #[Value.slice none 0 0, Value.slice none 0 0, Value.slice none 0 0, Value.slice none 0 0] 36)
   rw [show (w1.alloc (Obj.cells #[Value.int IntKind.i64 fc, Value.int IntKind.i64 fx] 29)).heap.size = w1.heap.size + 1 by simp] at h
   exact h, hs1⟩)
 clear zb hb1 hbx hIF
 obtain ⟨p0, p1, p2, p3, p4, p5, p6, p7⟩ := lm.out.cells
 by_cases hfz : fc = 0
 ·subst hfz
  go_wp2_with fail
  generalize ((w1.alloc (Obj.cells #[Value.int IntKind.i64 0, Value.int IntKind.i64 fx] 29)).alloc (Obj.cells #[Value.slice none 0 0, Value.slice none 0 0, Value.slice none 0 0, Value.slice none 0 0] 36)) = X at *
  generalize w1.heap.size = f7 at *
  refine (hST.out (by trivial) X lm.out.bel).mono ?_
  rintro e w2 ⟨vf, vl, va, vs, rfl, hb2, ⟨⟨B1, n1, d1, hv1⟩, ⟨B2, n2, d2, hv2⟩, ⟨B3, n3, d3, hv3⟩, ⟨B4, n4, d4, hv4⟩⟩, him⟩
  subst hv1 hv2 hv3 hv4
  have lm2 := Aside0.mk (lm.out.step hb2)
  have lm3 := Aside0.mk (lm2.out.put (.slice B1 n1 d1) (.slice B2 n2 d2) (.slice B3 n3 d3) (.slice B4 n4 d4) S.code S.idx)
  have hf7 : f7 + 1 < X.heap.size := blk_lt lm.out.z8
  clear p0 p1 p2 p3 p4 p5 p6 p7 hb2
  obtain ⟨p0, p1, p2, p3, p4, p5, p6, p7⟩ := lm2.out.cells
  obtain ⟨y2, y3, y4, y5, y6, y7⟩ := lm2.out.frz
  by_cases hsz : S.code = 0
  ·obtain ⟨hsi, hrf, hrl, hra⟩ := him hsz
   obtain ⟨Sfar, SL, Sad, Ssp, Scode, Sidx⟩ := S
   simp only at hsi hsz hrf hrl hra hIS hSL lm3
   subst hsi hsz
   simp only
   replace hrf := Aside0.mk (hrf.put6 k0_any hf7 (.slice B1 n1 d1) (.slice B2 n2 d2) (.slice B3 n3 d3) (.slice B4 n4 d4) 0 0)
   replace hrl := Aside0.mk (hrl.put6 k54_any hf7 (.slice B1 n1 d1) (.slice B2 n2 d2) (.slice B3 n3 d3) (.slice B4 n4 d4) 0 0)
   replace hra := Aside0.mk (hra.put6 k1_any hf7 (.slice B1 n1 d1) (.slice B2 n2 d2) (.slice B3 n3 d3) (.slice B4 n4 d4) 0 0)
   clear him
   have hW := show put6 w2 f7 (.slice B1 n1 d1) (.slice B2 n2 d2) (.slice B3 n3 d3) (.slice B4 n4 d4) 0 0 = (((((w2.setCell ⟨f7 + 1, 0, none⟩ (.slice B1 n1 d1)).setCell ⟨f7 + 1, 1, none⟩ (.slice B2 n2 d2)).setCell ⟨f7 + 1, 2, none⟩ (.slice B3 n3 d3)).setCell ⟨f7 + 1, 3, none⟩ (.slice B4 n4 d4)).setCell ⟨f7, 0, none⟩ (.int .i64 0)).setCell ⟨f7, 1, none⟩ (.int .i64 0) from rfl
   obtain ⟨q0, q1, q2, q3, q4, q5, q6, q7⟩ := lm3.out.cells
   rw [hW] at lm3 hrf hrl hra q0 q1 q2 q3 q4 q5 q6 q7
   clear hW
   have hR : R = ⟨Sfar, ordered SL items.length, Sad, 0, 0⟩ := by rw [hIS.out, if_neg (by simp), if_neg (by simp)]
   subst hR
   obtain ⟨hl4, hi2⟩ := hSL.out (by trivial) (by trivial)
   go_wp2_with fail
   refine (hIN.out _ lm3.out.bel).mono ?_
   rintro e w5 ⟨yf, ys, ya, rfl, hb5, hf, hs, ha⟩
   have lm5 := Aside0.mk (lm3.out.step hb5)
   obtain ⟨Af, cf, rfl, hcf, hCf, _⟩ := hf
   obtain ⟨As, cs, rfl, hcs, hCs, _⟩ := hs
   obtain ⟨Aa, ca, rfl, hca, hCa, _⟩ := ha
   simp only
   have hrf5 := Aside0.mk (hrf.out.step hb5)
   have hrl5 := Aside0.mk (hrl.out.step hb5)
   have hra5 := Aside0.mk (hra.out.step hb5)
   have z12 := alloc_block w5 (Obj.cells #[Value.int IntKind.i64 0, Value.int IntKind.i64 0] 29)
   have hbY : Below w5.heap.size w5 (w5.alloc (Obj.cells #[Value.int IntKind.i64 0, Value.int IntKind.i64 0] 29)) := below_alloc (Below.refl _ _) _
   replace hCf := Aside0.mk hCf
   replace hCs := Aside0.mk hCs
   replace hCa := Aside0.mk hCa
   clear p0 p1 p2 p3 p4 p5 p6 p7 hb5
   go_wp2_with fail
   refine (inserts_calls _).mono ?_
   rintro e w6 ⟨rfl, hb6⟩
   have hb56 := Aside0.mk (hbY.trans (hb6.mono hbY.size))
   have lm6 := Aside0.mk (lm5.out.step hb56.out)
   have z6 := blk_below z12 hb6
   obtain ⟨_, _, p2, p3, p4, p5, p6, _⟩ := lm6.out.cells
   have t0 := (blk_cell z6 0).trans rfl
   have t1 := (blk_cell z6 1).trans rfl
   obtain ⟨Bf, df, ef, hdf, hDf, _⟩ := hrf5.out.step hb56.out
   obtain ⟨Bl, dl, el, hdl, hDl, _⟩ := hrl5.out.step hb56.out
   obtain ⟨Ba, da, ea, hda, hDa, _⟩ := hra5.out.step hb56.out
   cases ef
   cases el
   cases ea
   replace hDl := Aside0.mk hDl
   replace hDa := Aside0.mk hDa
   clear hbY hb6 z12
   have k10 := linkhouselaw4_sameBools.calls (Sfar.length + 1) Af cf Sfar B1 d1 Sfar true w6 (Kd.C_below hCf.out hb56.out) hcf hDf hdf (bools_same Sfar hDf.2.1)
   go_wp2_with fail
   refine k10.mono ?_
   rintro e w7 ⟨rfl, hd7⟩
   obtain ⟨n7, rfl⟩ := hd7.out
   have hb67 : Below w6.heap.size w6 (w6.drewN n7) := pw_below_drewN (Below.refl _ _) _
   have j5 := (hb67.cell (p := ⟨f7 + 1, 1, none⟩) (blk_lt lm6.out.z8)).trans p5
   have k12 := ord_calls hl4 hi2 (Kd.C_below hDl.out hb67) hdl
   clear k10 p2 p3 p4 t0 t1 z6
   go_wp2_with fail
   refine k12.mono ?_
   rintro e w8 ⟨vo, rfl, ⟨Ao, co, rfl, hco, hCo, _⟩, hb8⟩
   have hb68 := Aside0.mk (hb67.trans (hb8.mono hb67.size))
   have k11 := linkhouselaw4_sameStubs.calls ((ordered SL items.length).length + 1) As cs (ordered SL items.length) Ao co (ordered SL items.length) true w8 (Kd.C_below hCs.out (hb56.out.trans (hb68.out.mono hb56.out.size))) hcs hCo hco (stubs_same _ hCo.2.1)
   clear k12 j5 p5 hb8
   go_wp2_with fail
   refine k11.mono ?_
   rintro e w9 ⟨rfl, hd9⟩
   obtain ⟨n9, rfl⟩ := hd9.out
   have hb69 := Aside0.mk (pw_below_drewN hb68.out n9)
   have j6 := (hb69.out.cell (p := ⟨f7 + 1, 2, none⟩) (blk_lt lm6.out.z8)).trans p6
   have k13 := linkhouseref4_Ints.calls (Sad.length + 1) Aa ca Sad B3 d3 Sad true (w8.drewN n9) (Kd.C_below hCa.out (hb56.out.trans (hb69.out.mono hb56.out.size))) hca (Kd.C_below hDa.out hb69.out) hda (ints_eq Sad hDa.out.2.1)
   clear k11 p6
   go_wp2_with fail
   refine k13.mono ?_
   rintro e w10 ⟨rfl, hd10⟩
   obtain ⟨n10, rfl⟩ := hd10.out
   go_wp2
   go_ret
   exact ⟨rfl, by
    have h := lm6.out.bel.trans (hb68.out.mono lm6.out.bel.size)
    repeat (first | exact h | apply pw_below_drewN)⟩
  ·have hW := show put6 w2 f7 (.slice B1 n1 d1) (.slice B2 n2 d2) (.slice B3 n3 d3) (.slice B4 n4 d4) S.code S.idx = (((((w2.setCell ⟨f7 + 1, 0, none⟩ (.slice B1 n1 d1)).setCell ⟨f7 + 1, 1, none⟩ (.slice B2 n2 d2)).setCell ⟨f7 + 1, 2, none⟩ (.slice B3 n3 d3)).setCell ⟨f7 + 1, 3, none⟩ (.slice B4 n4 d4)).setCell ⟨f7, 0, none⟩ (.int .i64 S.code)).setCell ⟨f7, 1, none⟩ (.int .i64 S.idx) from rfl
   obtain ⟨q0, q1, q2, q3, q4, q5, q6, q7⟩ := lm3.out.cells
   rw [hW] at lm3 q0 q1 q2 q3 q4 q5 q6 q7
   clear hW him
   have hR := (show R = ⟨[], [], [], S.code, S.idx⟩ by rw [hIS.out, if_neg (by simp), if_pos hsz])
   subst hR
   go_wp2_with (go_at_call 8; refine (hIN.out _ lm3.out.bel).mono ?_)
   rintro e w5 ⟨yf, ys, ya, rfl, hb5, hf, hs, ha⟩
   obtain ⟨Af, cf, rfl, _, _, _⟩ := hf
   obtain ⟨As, cs, rfl, _, _, _⟩ := hs
   obtain ⟨Aa, ca, rfl, _, _, _⟩ := ha
   simp only [List.length_nil]
   have lm5 := Aside0.mk (lm3.out.step hb5)
   have z12 := alloc_block w5 (Obj.cells #[Value.int IntKind.i64 (S.code), Value.int IntKind.i64 (S.idx)] 29)
   have hbY : Below w5.heap.size w5 (w5.alloc (Obj.cells #[Value.int IntKind.i64 (S.code), Value.int IntKind.i64 (S.idx)] 29)) := below_alloc (Below.refl _ _) _
   clear p0 p1 p2 p3 p4 p5 p6 p7 hb5
   go_wp2_with fail
   refine (inserts_calls _).mono ?_
   rintro e w6 ⟨rfl, hb6⟩
   have lm6 := Aside0.mk (lm5.out.step (hbY.trans (hb6.mono hbY.size)))
   have z6 := blk_below z12 hb6
   obtain ⟨_, _, p2, p3, _, _, _, _⟩ := lm6.out.cells
   have t0 := (blk_cell z6 0).trans rfl
   have t1 := (blk_cell z6 1).trans rfl
   have hcz' : (S.code != 0) = true := by simpa using hsz
   clear hbY hb6 z12
   go_wp2_with fail
   refine (inserts_calls _).mono ?_
   rintro e w7 ⟨rfl, hb7⟩
   have lm7 := Aside0.mk (lm6.out.step hb7)
   have z7 := blk_below z6 hb7
   clear p2 p3 t0 t1
   obtain ⟨_, _, p2, p3, _, _, _, _⟩ := lm7.out.cells
   have t0 := (blk_cell z7 0).trans rfl
   have t1 := (blk_cell z7 1).trans rfl
   go_wp2
   go_ret
   exact ⟨rfl, lm7.out.bel⟩
 ·have hfz0 : (fc == 0) = false := by simpa using hfz
  have hR := (show R = ⟨[], [], [], fc, fx⟩ by rw [hIS.out, if_pos hfz])
  subst hR
  go_wp2_with (go_at_call 8; refine (hIN.out _ lm.out.bel).mono ?_)
  rintro e w5 ⟨yf, ys, ya, rfl, hb5, hf, hs, ha⟩
  obtain ⟨Af, cf, rfl, _, _, _⟩ := hf
  obtain ⟨As, cs, rfl, _, _, _⟩ := hs
  obtain ⟨Aa, ca, rfl, _, _, _⟩ := ha
  simp only [List.length_nil]
  have lm5 := Aside0.mk (lm.out.step hb5)
  have z12 := alloc_block w5 (Obj.cells #[Value.int IntKind.i64 (fc), Value.int IntKind.i64 (fx)] 29)
  have hbY : Below w5.heap.size w5 (w5.alloc (Obj.cells #[Value.int IntKind.i64 (fc), Value.int IntKind.i64 (fx)] 29)) := below_alloc (Below.refl _ _) _
  clear p0 p1 p2 p3 p4 p5 p6 p7 hb5
  go_wp2_with fail
  refine (inserts_calls _).mono ?_
  rintro e w6 ⟨rfl, hb6⟩
  have lm6 := Aside0.mk (lm5.out.step (hbY.trans (hb6.mono hbY.size)))
  have z6 := blk_below z12 hb6
  obtain ⟨_, _, p2, p3, _, _, _, _⟩ := lm6.out.cells
  have t0 := (blk_cell z6 0).trans rfl
  have t1 := (blk_cell z6 1).trans rfl
  have hcz' : (fc != 0) = true := by simpa using hfz
  clear hbY hb6 z12
  go_wp2_with fail
  refine (inserts_calls _).mono ?_
  rintro e w7 ⟨rfl, hb7⟩
  have lm7 := Aside0.mk (lm6.out.step hb7)
  have z7 := blk_below z6 hb7
  clear p2 p3 t0 t1
  obtain ⟨_, _, p2, p3, _, _, _, _⟩ := lm7.out.cells
  have t0 := (blk_cell z7 0).trans rfl
  have t1 := (blk_cell z7 1).trans rfl
  go_wp2
  go_ret
  exact ⟨rfl, lm7.out.bel⟩
end Go.Proofs.Ytogcgcjhoebooaa
end
section
set_option linter.unusedVariables false
set_option linter.unusedSimpArgs false
namespace Go.Proofs.Ytogcgcjhoebooaa
open Go.RowKit Go.Proofs.YtogcgcjhoebooaaW.PrintWords Go.Proofs.Ytogcgcjhoebooaa.PVeneerMatchesSpec
open Go.ChangeShapes Go.WideShapes Go.Deep Go.Joins
section
variable {H : Type} {enc : TypeId × Value → H} {P : Program} {w : World} {base : Nat} {spare : Nat → Bool} {held : Bool}
theorem open_slice_fields {t e : TypeId} {fs : Array Field} {fuel : Nat} {cs : List Value} {x : DataW H × List MemPlace} (ht : P.underlying t = some (.slice e)) (he : P.underlying e = some (.struct fs))
  (hone : oneCellFields P fs = true) (hC : P.cellsOf e = fs.size) (h : DataW.trod enc P w base spare held fuel t cs = some x) :
  (cs = [.slice none 0 0] ∧ x = (.nil, [])) ∨
  ∃ (a : Addr) (len cap m : Nat) (D : Nat → DataW H) (Pl : Nat → List MemPlace), cs = [.slice (some a) len cap] ∧ base ≤ a.block ∧ len ≤ cap ∧ cap ≤ maxLen ∧ m = (if spare a.block then cap else len) ∧
   x = (.slice ((List.range len).map D) ((List.range (m - len)).map fun j => D (len + j)), MemPlace.row a (m * fs.size) ++ (List.range m).flatMap Pl) ∧
   ∀ i, i < m → ∃ (ys : List (DataW H × List MemPlace)) (n : Nat), D i = .agg (ys.map (·.1)) ∧ Pl i = ys.flatMap (·.2) ∧ ys.length = fs.size ∧
    ∀ (j : Nat) (f : Field), fs[j]? = some f → ∃ (v : Value) (y : DataW H × List MemPlace), w.cell? (a.add (i * fs.size + j)) = some v ∧ ys[j]? = some y ∧ DataW.trod enc P w base spare held n f.type [v] = some y := by
 rcases open_slice ht h with h0 | ⟨a, len, cap, m, n, D, Pl, hcs, hb, hl, hm, hmm, hx, hi⟩
 ·exact .inl h0
 ·refine .inr ⟨a, len, cap, m, D, Pl, hcs, hb, hl, hm, hmm, by rw [hC] at hx; exact hx, fun i him => ?_⟩
  obtain ⟨cs', hc, ht'⟩ := hi i him
  rw [hC] at hc
  obtain ⟨ys, n', hn', hy, hlen, hyl, hf⟩ := DataW.trod_struct he ht'
  obtain ⟨_, hcl, hat⟩ := World.cells?_some hc
  simp only [Prod.mk.injEq] at hy
  refine ⟨ys, n', hy.1, hy.2, hyl, fun j f hj => ?_⟩
  obtain ⟨ho, hk⟩ := hone_of hone j f hj
  have hjl : j < fs.size := (Array.getElem?_eq_some_iff.1 hj).1
  have hcell := hat j hjl
  have hv : cs'[j]? = some (cs'[j]'(by omega)) := List.getElem?_eq_getElem (by omega)
  have h1 := hf j f hj
  rw [ho, hk] at h1
  have hone' : (cs'.drop j).take 1 = [cs'[j]'(by omega)] := by
   rw [List.drop_eq_getElem_cons (by omega)]
   rfl
  rw [hone'] at h1
  have hys : ys[j]? = some (ys[j]'(by omega)) := List.getElem?_eq_getElem (by omega)
  refine ⟨_, _, ?_, hys, h1.trans hys⟩
  rw [← Go.Deep.add_add, hcell, hv]
end
theorem C_build {α : Type} {d : Kd α} {w : World} {a : Addr} {n : Nat} {Q : α → Prop} (hn : n ≤ 9223372036854775807)
  (h : ∀ i, i < n → ∃ (p : α) (c : List Value), c.length = d.sz ∧ d.K w p c ∧ (∀ j u, c[j]? = some u → w.cell? (a.add (i * d.sz + j)) = some u) ∧ Q p) :
  ∃ xs : List α, xs.length = n ∧ Kd.C d w (some a) n xs ∧ ∀ p ∈ xs, Q p := by
 have h' : ∀ i : Fin n, ∃ p : α, ∃ c : List Value, c.length = d.sz ∧ d.K w p c ∧ (∀ j u, c[j]? = some u → w.cell? (a.add (i * d.sz + j)) = some u) ∧ Q p := fun i => h i i.2
 obtain ⟨f, hf⟩ := Classical.axiomOfChoice h'
 refine ⟨List.ofFn f, List.length_ofFn, ⟨List.length_ofFn, hn, fun h0 => ⟨a, rfl, fun i p hi => ?_⟩⟩, fun p hp => ?_⟩
 ·rw [List.getElem?_ofFn] at hi
  split at hi
  ·rename_i hlt
   injection hi with hi
   subst hi
   obtain ⟨c, h1, h2, h3, h4⟩ := hf ⟨i, hlt⟩
   exact ⟨c, h1, h2, h3⟩
  ·cases hi
 ·rw [List.mem_ofFn] at hp
  obtain ⟨i, rfl⟩ := hp
  obtain ⟨c, h1, h2, h3, h4⟩ := hf i
  exact h4
theorem C_nil {α : Type} (d : Kd α) (w : World) : Kd.C d w none 0 ([] : List α) := ⟨rfl, by omega, fun hp => absurd hp (by omega)⟩
theorem in72 {H : Type} {enc : TypeId × Value → H} {w : World} {base : Nat} {spare : Nat → Bool} {held : Bool} {n : Nat} {v : Value} {y : DataW H × List MemPlace} (h : DataW.trod enc Try.prog w base spare held n 22 [v] = some y) :
  ∃ (A : Option Addr) (c : Nat) (xs : List S72), v = .slice A xs.length c ∧ xs.length ≤ c ∧ Kd.C k72 w A xs.length xs ∧ ∀ p ∈ xs, p.f0.size ≤ 9223372036854775807 := by
 rcases open_slice_fields Try.underlying22 Try.underlying72 (by kernel_rfl) (by kernel_rfl) h with ⟨h0, _⟩ | ⟨a, len, cap, m, D, Pl, hcs, hb, hl, hc, hm, hx, hf⟩
 ·injection h0 with h0
  subst h0
  exact ⟨none, 0, [], rfl, Nat.le_refl _, C_nil _ _, fun p hp => by cases hp⟩
 ·injection hcs with hcs
  have hml : len ≤ m := by rw [hm]; split <;> omega
  obtain ⟨xs, e, hC, hq⟩ := C_build (d := k72) (w := w) (a := a) (n := len) (Q := fun p => p.f0.size ≤ 9223372036854775807) (Nat.le_trans hl hc) (fun i hi => by
   obtain ⟨ys, n', _, _, _, hfd⟩ := hf i (by omega)
   obtain ⟨v0, y0, hc0, _, ht0⟩ := hfd 0 _ rfl
   obtain ⟨x0, e0, _, hq0⟩ := DataW.trod_string Try.underlying9 ht0
   injection e0 with e0
   subst e0
   obtain ⟨v1, y1, hc1, _, ht1⟩ := hfd 1 _ rfl
   obtain ⟨x1, e1, _, hq1⟩ := DataW.trod_int Try.underlying3 ht1
   injection e1 with e1
   subst e1
   obtain ⟨v2, y2, hc2, _, ht2⟩ := hfd 2 _ rfl
   obtain ⟨x2, e2, _, hq2⟩ := DataW.trod_int Try.underlying3 ht2
   injection e2 with e2
   subst e2
   obtain ⟨v3, y3, hc3, _, ht3⟩ := hfd 3 _ rfl
   obtain ⟨x3, e3, _, hq3⟩ := DataW.trod_int Try.underlying3 ht3
   injection e3 with e3
   subst e3
   refine ⟨⟨x0, x1, x2, x3⟩, [.string x0, .int .i64 x1, .int .i64 x2, .int .i64 x3], rfl, k72_mk _ _, fun j u hj => ?_, hq0⟩
   match j, hj with
   | 0, hj => injection hj with hj; subst hj; exact hc0
   | 1, hj => injection hj with hj; subst hj; exact hc1
   | 2, hj => injection hj with hj; subst hj; exact hc2
   | 3, hj => injection hj with hj; subst hj; exact hc3
   | j + 4, hj => cases hj)
  subst e
  exact ⟨some a, cap, xs, hcs, hl, hC, hq⟩
theorem in76 {H : Type} {enc : TypeId × Value → H} {w : World} {base : Nat} {spare : Nat → Bool} {held : Bool} {n : Nat} {v : Value} {y : DataW H × List MemPlace} (h : DataW.trod enc Try.prog w base spare held n 23 [v] = some y) :
  ∃ (A : Option Addr) (c : Nat) (xs : List S76), v = .slice A xs.length c ∧ xs.length ≤ c ∧ Kd.C k76 w A xs.length xs ∧ ∀ p ∈ xs, p.f0.size ≤ 9223372036854775807 := by
 rcases open_slice_fields Try.underlying23 Try.underlying76 (by kernel_rfl) (by kernel_rfl) h with ⟨h0, _⟩ | ⟨a, len, cap, m, D, Pl, hcs, hb, hl, hc, hm, hx, hf⟩
 ·injection h0 with h0
  subst h0
  exact ⟨none, 0, [], rfl, Nat.le_refl _, C_nil _ _, fun p hp => by cases hp⟩
 ·injection hcs with hcs
  have hml : len ≤ m := by rw [hm]; split <;> omega
  obtain ⟨xs, e, hC, hq⟩ := C_build (d := k76) (w := w) (a := a) (n := len) (Q := fun p => p.f0.size ≤ 9223372036854775807) (Nat.le_trans hl hc) (fun i hi => by
   obtain ⟨ys, n', _, _, _, hfd⟩ := hf i (by omega)
   obtain ⟨v0, y0, hc0, _, ht0⟩ := hfd 0 _ rfl
   obtain ⟨x0, e0, _, hq0⟩ := DataW.trod_string Try.underlying9 ht0
   injection e0 with e0
   subst e0
   obtain ⟨v1, y1, hc1, _, ht1⟩ := hfd 1 _ rfl
   obtain ⟨x1, e1, _, hq1⟩ := DataW.trod_int Try.underlying3 ht1
   injection e1 with e1
   subst e1
   obtain ⟨v2, y2, hc2, _, ht2⟩ := hfd 2 _ rfl
   obtain ⟨x2, e2, _, hq2⟩ := DataW.trod_int Try.underlying3 ht2
   injection e2 with e2
   subst e2
   refine ⟨⟨x0, x1, x2⟩, [.string x0, .int .i64 x1, .int .i64 x2], rfl, k76_mk _ _, fun j u hj => ?_, hq0⟩
   match j, hj with
   | 0, hj => injection hj with hj; subst hj; exact hc0
   | 1, hj => injection hj with hj; subst hj; exact hc1
   | 2, hj => injection hj with hj; subst hj; exact hc2
   | j + 3, hj => cases hj)
  subst e
  exact ⟨some a, cap, xs, hcs, hl, hC, hq⟩
theorem in57 {H : Type} {enc : TypeId × Value → H} {w : World} {base : Nat} {spare : Nat → Bool} {held : Bool} {n : Nat} {v : Value} {y : DataW H × List MemPlace} (h : DataW.trod enc Try.prog w base spare held n 26 [v] = some y) :
  ∃ (A : Option Addr) (c : Nat) (xs : List S57), v = .slice A xs.length c ∧ xs.length ≤ c ∧ Kd.C k57 w A xs.length xs ∧ ∀ p ∈ xs, True := by
 rcases open_slice_fields Try.underlying26 Try.underlying57 (by kernel_rfl) (by kernel_rfl) h with ⟨h0, _⟩ | ⟨a, len, cap, m, D, Pl, hcs, hb, hl, hc, hm, hx, hf⟩
 ·injection h0 with h0
  subst h0
  exact ⟨none, 0, [], rfl, Nat.le_refl _, C_nil _ _, fun p hp => by cases hp⟩
 ·injection hcs with hcs
  have hml : len ≤ m := by rw [hm]; split <;> omega
  obtain ⟨xs, e, hC, hq⟩ := C_build (d := k57) (w := w) (a := a) (n := len) (Q := fun p => True) (Nat.le_trans hl hc) (fun i hi => by
   obtain ⟨ys, n', _, _, _, hfd⟩ := hf i (by omega)
   obtain ⟨v0, y0, hc0, _, ht0⟩ := hfd 0 _ rfl
   obtain ⟨x0, e0, _, hq0⟩ := DataW.trod_int Try.underlying3 ht0
   injection e0 with e0
   subst e0
   obtain ⟨v1, y1, hc1, _, ht1⟩ := hfd 1 _ rfl
   obtain ⟨x1, e1, _, hq1⟩ := DataW.trod_int Try.underlying3 ht1
   injection e1 with e1
   subst e1
   obtain ⟨v2, y2, hc2, _, ht2⟩ := hfd 2 _ rfl
   obtain ⟨x2, e2, _, hq2⟩ := DataW.trod_int Try.underlying3 ht2
   injection e2 with e2
   subst e2
   refine ⟨⟨x0, x1, x2⟩, [.int .i64 x0, .int .i64 x1, .int .i64 x2], rfl, k57_mk _ _, fun j u hj => ?_, trivial⟩
   match j, hj with
   | 0, hj => injection hj with hj; subst hj; exact hc0
   | 1, hj => injection hj with hj; subst hj; exact hc1
   | 2, hj => injection hj with hj; subst hj; exact hc2
   | j + 3, hj => cases hj)
  subst e
  exact ⟨some a, cap, xs, hcs, hl, hC, hq⟩
theorem in48 {H : Type} {enc : TypeId × Value → H} {w : World} {base : Nat} {spare : Nat → Bool} {held : Bool} {n : Nat} {v : Value} {y : DataW H × List MemPlace} (h : DataW.trod enc Try.prog w base spare held n 27 [v] = some y) :
  ∃ (A : Option Addr) (c : Nat) (xs : List S48), v = .slice A xs.length c ∧ xs.length ≤ c ∧ Kd.C k48 w A xs.length xs ∧ ∀ p ∈ xs, True := by
 rcases open_slice_fields Try.underlying27 Try.underlying48 (by kernel_rfl) (by kernel_rfl) h with ⟨h0, _⟩ | ⟨a, len, cap, m, D, Pl, hcs, hb, hl, hc, hm, hx, hf⟩
 ·injection h0 with h0
  subst h0
  exact ⟨none, 0, [], rfl, Nat.le_refl _, C_nil _ _, fun p hp => by cases hp⟩
 ·injection hcs with hcs
  have hml : len ≤ m := by rw [hm]; split <;> omega
  obtain ⟨xs, e, hC, hq⟩ := C_build (d := k48) (w := w) (a := a) (n := len) (Q := fun p => True) (Nat.le_trans hl hc) (fun i hi => by
   obtain ⟨ys, n', _, _, _, hfd⟩ := hf i (by omega)
   obtain ⟨v0, y0, hc0, _, ht0⟩ := hfd 0 _ rfl
   obtain ⟨x0, e0, _, hq0⟩ := DataW.trod_int Try.underlying3 ht0
   injection e0 with e0
   subst e0
   obtain ⟨v1, y1, hc1, _, ht1⟩ := hfd 1 _ rfl
   obtain ⟨x1, e1, _, hq1⟩ := DataW.trod_int Try.underlying3 ht1
   injection e1 with e1
   subst e1
   obtain ⟨v2, y2, hc2, _, ht2⟩ := hfd 2 _ rfl
   obtain ⟨x2, e2, _, hq2⟩ := DataW.trod_int Try.underlying3 ht2
   injection e2 with e2
   subst e2
   obtain ⟨v3, y3, hc3, _, ht3⟩ := hfd 3 _ rfl
   obtain ⟨x3, e3, _, hq3⟩ := DataW.trod_int Try.underlying3 ht3
   injection e3 with e3
   subst e3
   obtain ⟨v4, y4, hc4, _, ht4⟩ := hfd 4 _ rfl
   obtain ⟨x4, e4, _, hq4⟩ := DataW.trod_int Try.underlying3 ht4
   injection e4 with e4
   subst e4
   obtain ⟨v5, y5, hc5, _, ht5⟩ := hfd 5 _ rfl
   obtain ⟨x5, e5, _, hq5⟩ := DataW.trod_int Try.underlying3 ht5
   injection e5 with e5
   subst e5
   refine ⟨⟨x0, x1, x2, x3, x4, x5⟩, [.int .i64 x0, .int .i64 x1, .int .i64 x2, .int .i64 x3, .int .i64 x4, .int .i64 x5], rfl, k48_mk _ _, fun j u hj => ?_, trivial⟩
   match j, hj with
   | 0, hj => injection hj with hj; subst hj; exact hc0
   | 1, hj => injection hj with hj; subst hj; exact hc1
   | 2, hj => injection hj with hj; subst hj; exact hc2
   | 3, hj => injection hj with hj; subst hj; exact hc3
   | 4, hj => injection hj with hj; subst hj; exact hc4
   | 5, hj => injection hj with hj; subst hj; exact hc5
   | j + 6, hj => cases hj)
  subst e
  exact ⟨some a, cap, xs, hcs, hl, hC, hq⟩
theorem getD_size {α : Type} {P : α → Prop} {xs : List α} {z : α} (hz : P z) (h : ∀ p ∈ xs, P p) (j : Nat) : P (xs.getD j z) := by
  rw [List.getD_eq_getElem?_getD]
  cases hj : xs[j]? with
  | none => exact hz
  | some p => exact h p (List.mem_of_getElem? hj)
end Go.Proofs.Ytogcgcjhoebooaa
end
section
set_option linter.unusedVariables false
set_option linter.unusedSimpArgs false
namespace Go.Proofs.Ytogcgcjhoebooaa.veneerMatchesSpec
open Go.ChangeShapes Go.WideShapes Go.ChangeAt Go.RowKit Go.Joins Go.Deep Go.Proofs.Ytogcgcjhoebooaa.PVeneerMatchesSpec
open Go.ChangeMaps (open_string shut_string)
theorem own : ownKnob Try.prog.godebug = none := by kernel_rfl
theorem laidOut : laidOutB Try.prog = true := by kernel_rfl
set_option maxRecDepth 100000 in
theorem lifted (os : Os) (started : os.Started) (H : Type) (enc : TypeId × Value → H) :
  ReturnsInHanded {} Try.checked os 3 .any (Rows.veneerMatchesSpecSpec.pre6 enc Try.prog Try.f3 Rows.veneerMatchesSpecRow.domain false) (Rows.veneerMatchesSpecSpec.post enc Try.prog Try.f3 false true false false) := by
 refine returnsInHanded_of_change_sized (C := Try.checked) own started (by kernel_rfl) Try.func3
  (ChangeSpec.witness6 (enc := enc) (C := Try.checked) false ⟨#[], #[.agg #[.slice none 0 0, .slice none 0 0], .slice none 0 0, .slice none 0 0], []⟩ 8 (by kernel_rfl) (by kernel_rfl) (by kernel_rfl) (by kernel_rfl)) ?_
 intro W base args ds gs before hval0 hW hcnd hsz0 _
 have hval : ∀ (j : Nat) t v, Try.f3.params[j]? = some t → args[j]? = some v → Value.okWide Try.prog W .any base t v := hval0
 have hW' := hW
 obtain ⟨p, q, hA0, hV, rfl, hfz, hnd⟩ := hW
 have hA : DataW.TrodAll enc Try.prog W 0 (fun _ => true) true Try.f3.params.toList args.toList ds p := hA0
 rw [Try.params3] at hA hval
 obtain ⟨v0, vs0, d0, ds0, p0, q0, hargs, rfl, rfl, h0, r0⟩ := trodAll_cons hA
 obtain ⟨v1, vs1, d1, ds1, p1, q1, rfl, rfl, rfl, h1, r1⟩ := trodAll_cons r0
 obtain ⟨v2, vs2, d2, ds2, p2, q2, rfl, rfl, rfl, h2, r2⟩ := trodAll_cons r1
 obtain ⟨rfl, rfl, rfl⟩ := trodAll_nil r2
 obtain rfl : args = #[v0, v1, v2] := by cases args; simp_all
 obtain ⟨rfl, rfl⟩ := trodVars_none hV
 have k0 := h0
 have k1 := h1
 have k2 := h2
 have lt0 : ∀ x ∈ p0, x.block < W.heap.size := by obtain ⟨m, hm⟩ := k0; exact DataW.trod_lt m _ _ _ hm
 have lt1 : ∀ x ∈ p1, x.block < W.heap.size := by obtain ⟨m, hm⟩ := k1; exact DataW.trod_lt m _ _ _ hm
 have lt2 : ∀ x ∈ p2, x.block < W.heap.size := by obtain ⟨m, hm⟩ := k2; exact DataW.trod_lt m _ _ _ hm
 obtain ⟨u0, u1, y0, y1, n0, rfl, _, _, t0, t1⟩ := open_agg2 Try.underlying25 (by kernel_rfl) (by kernel_rfl) (hval 0 25 v0 rfl rfl) h0
 obtain ⟨B0, c0, xs0, rfl, hc0, hC0, hz0⟩ := in72 t0
 obtain ⟨B1, c1, xs1, rfl, hc1, hC1, hz1⟩ := in76 t1
 obtain ⟨a1, len1, cap1, rfl⟩ := okWide_slice Try.underlying26 (hval 1 26 v1 rfl rfl)
 obtain ⟨a2, len2, cap2, rfl⟩ := okWide_slice Try.underlying27 (hval 2 27 v2 rfl rfl)
 obtain ⟨m1, h1⟩ := h1
 obtain ⟨m2, h2⟩ := h2
 obtain ⟨B2, c2, xs2, e2, hc2, hC2, _⟩ := in57 h1
 obtain ⟨B3, c3, xs3, e3, hc3, hC3, _⟩ := in48 h2
 cases e2
 cases e3
 clear hA0 hval0 hsz0
 refine (matchesSpec_calls hC0 hc0 hC1 hc1 hC2 hc2 hC3 hc3 (fun j => getD_size (P := fun p : S72 => p.f0.size ≤ 9223372036854775807) (by decide) hz0 j) (fun j => getD_size (P := fun p : S76 => p.f0.size ≤ 9223372036854775807) (by decide) hz1 j)).mono fun e W' ⟨he, bel⟩ => ?_
 subst he
 exact ⟨_, rfl, _, _, _, [], _, [], hW', trodAll_mk1 (shut_bool Try.underlying4 _), (trodAll_cons_mk (Below.trod laidOut (by kernel_rfl) (of_decide_eq_true (by kernel_rfl)) k0 bel lt0) (trodAll_cons_mk (Below.trod laidOut (by kernel_rfl) (of_decide_eq_true (by kernel_rfl)) k1 bel lt1) (trodAll_cons_mk (Below.trod laidOut (by kernel_rfl) (of_decide_eq_true (by kernel_rfl)) k2 bel lt2) trodAll_mk0))), rfl, bel.frame _, fun h => by cases h⟩
theorem over : Rows.veneerMatchesSpecRow.holds Try.pinned (OpenSpec.ofChange Rows.veneerMatchesSpecSpec) :=
 OpenClaim.holds_of_wide 3 Try.f3 rfl rfl rfl rfl rfl rfl rfl ⟨rfl, rfl, rfl, rfl, rfl⟩ rfl rfl rfl rfl rfl (by kernel_rfl) Try.func3 (by kernel_rfl)
  (of_decide_eq_true (by kernel_rfl)) (by unfold Func.isWrapper; first | (rw [if_pos (by decide +kernel)]; kernel_rfl) | (rw [if_neg (by decide +kernel)]; exact ⟨rfl, rfl⟩))
  (fun os started H enc _ => lifted os started H enc)
theorem proved : Rows.VeneerMatchesSpecSaid := over
#print axioms proved
end Go.Proofs.Ytogcgcjhoebooaa.veneerMatchesSpec
namespace Go.Proofs.Ytogcgcjhoebooaa
theorem veneerMatchesSpec_holds : Rows.VeneerMatchesSpecSaid := veneerMatchesSpec.proved
end Go.Proofs.Ytogcgcjhoebooaa
end

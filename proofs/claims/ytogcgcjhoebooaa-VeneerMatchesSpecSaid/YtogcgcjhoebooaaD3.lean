/- The law VeneerMatchesSpec: for every script, list of items and list of branches the law returns true, and the arguments read as before. No conditions. (Part 3 of 6 of the proof. Lines of the texts that print.sh printed for this seat are among it, cut to what is used.) -/
import Derived.StillTailTactics
import Derived.Deep.RegionLawGrows
import Derived.Deep.CutRange
import Derived.Test.YtogcgcjhoebooaaD2
section
set_option linter.unusedVariables false
set_option linter.unusedSimpArgs false
namespace Go.Proofs.Ytogcgcjhoebooaa
open Go.RowKit Go.Proofs.YtogcgcjhoebooaaW.PrintWords Go.Proofs.Ytogcgcjhoebooaa.PVeneerMatchesSpec
def goals (L : List S54) (i : Nat) : List S89 := (L.filter fun s => decide (s.f0 = (i : Int))).map fun s => ⟨s.f2, s.f3, s.f4⟩
theorem goals_length (L : List S54) (i : Nat) : (goals L i).length = cnt L i := by simp [goals, cnt]
def StubRow (W : World) (g gf gs : Nat) (v : Value) (xs : List S89) : Prop :=
  ∃ A c, v = .slice A xs.length c ∧ xs.length ≤ c ∧ Kd.C k89 W A xs.length xs ∧ ∀ ad, A = some ad → ad.block ≠ g ∧ ad.block ≠ gf ∧ ad.block ≠ gs
structure Pl (w W : World) (g gf gs : Nat) (vs : Array Value) (ni : Nat) (far : List Bool) (L : List S54) : Prop where
 below : Below w.heap.size w W
 blk : W.heap[g]? = some (.cells (vs ++ #[.slice (some ⟨gf, 0, none⟩) far.length far.length, .slice (some ⟨gs, 0, none⟩) ni ni]) 85 (0, 0))
 vsz : vs.size = 4
 fb : W.heap[gf]? = some (.cells (far.map Value.bool).toArray 4 (0, 0))
 sb : ∃ sv : List Value, W.heap[gs]? = some (.cells sv.toArray 87 (0, 0)) ∧ sv.length = ni ∧ ∀ i v, sv[i]? = some v → StubRow W g gf gs v (goals L i)
 ap : g ≠ gf ∧ g ≠ gs ∧ gf ≠ gs
 ge : w.heap.size ≤ g ∧ w.heap.size ≤ gf ∧ w.heap.size ≤ gs
theorem Pl.lt {w W : World} {g gf gs : Nat} {vs : Array Value} {ni : Nat} {far : List Bool} {L : List S54} (h : Pl w W g gf gs vs ni far L) : g < W.heap.size ∧ gf < W.heap.size ∧ gs < W.heap.size := by
  obtain ⟨sv, h3, _⟩ := h.sb
  exact ⟨(Array.getElem?_eq_some_iff.1 h.blk).1, (Array.getElem?_eq_some_iff.1 h.fb).1, (Array.getElem?_eq_some_iff.1 h3).1⟩
theorem Pl.step {w W W' : World} {g gf gs : Nat} {vs : Array Value} {ni : Nat} {far : List Bool} {L : List S54} (h : Pl w W g gf gs vs ni far L) (hb : Below W.heap.size W W') : Pl w W' g gf gs vs ni far L := by
 obtain ⟨l1, l2, l3⟩ := h.lt
 obtain ⟨sv, s1, s2, s3⟩ := h.sb
 refine ⟨h.below.trans (hb.mono h.below.size), (hb.block _ l1).trans h.blk, h.vsz, (hb.block _ l2).trans h.fb, ⟨sv, (hb.block _ l3).trans s1, s2, fun i v hv => ?_⟩, h.ap, h.ge⟩
 obtain ⟨A, c, e, hc, hC, hA⟩ := s3 i v hv
 exact ⟨A, c, e, hc, Kd.C_below hC hb, hA⟩
theorem Pl.cells {w W : World} {g gf gs : Nat} {O R I B : Value} {ni : Nat} {far : List Bool} {L : List S54} (h : Pl w W g gf gs #[O, R, I, B] ni far L) :
  W.cell? ⟨g, 0, none⟩ = some O ∧ W.cell? ⟨g, 1, none⟩ = some R ∧ W.cell? ⟨g, 2, none⟩ = some I ∧ W.cell? ⟨g, 3, none⟩ = some B ∧
  W.cell? ⟨g, 4, none⟩ = some (.slice (some ⟨gf, 0, none⟩) far.length far.length) ∧ W.cell? ⟨g, 5, none⟩ = some (.slice (some ⟨gs, 0, none⟩) ni ni) := by
 have hb := h.blk
 refine ⟨?_, ?_, ?_, ?_, ?_, ?_⟩ <;> simp [World.cell?, hb]
theorem Pl.far_cell {w W : World} {g gf gs : Nat} {vs : Array Value} {ni : Nat} {far : List Bool} {L : List S54} (h : Pl w W g gf gs vs ni far L) (i : Nat) (hi : i < far.length) :
  W.cell? ⟨gf, i, none⟩ = some (.bool (far.getD i false)) ∧ W.frozen? ⟨gf, i, none⟩ = false := by
 constructor
 ·simp [World.cell?, h.fb, List.getD_eq_getElem?_getD, List.getElem?_eq_getElem hi]
 ·simp [World.frozen?, h.fb]
theorem Pl.stub_cell {w W : World} {g gf gs : Nat} {vs : Array Value} {ni : Nat} {far : List Bool} {L : List S54} (h : Pl w W g gf gs vs ni far L) (i : Nat) (hi : i < ni) :
  ∃ A c, W.cell? ⟨gs, i, none⟩ = some (.slice A (goals L i).length c) ∧ (goals L i).length ≤ c ∧ Kd.C k89 W A (goals L i).length (goals L i) ∧ (∀ ad, A = some ad → ad.block ≠ g ∧ ad.block ≠ gf ∧ ad.block ≠ gs) ∧ W.frozen? ⟨gs, i, none⟩ = false := by
 obtain ⟨sv, s1, s2, s3⟩ := h.sb
 have hv := List.getElem?_eq_getElem (l := sv) (i := i) (by omega)
 obtain ⟨A, c, e, hc, hC, hA⟩ := s3 i _ hv
 refine ⟨A, c, ?_, hc, hC, hA, by simp [World.frozen?, s1]⟩
 rw [← e]
 simp [World.cell?, s1, hv]
def extTo (items : List S57) (L : List S54) (k : Nat) : List S57 := items.mapIdx fun i x => if i < k then extItem L i x else x
theorem extTo_zero (items : List S57) (L : List S54) : extTo items L 0 = items := by
  unfold extTo
  apply List.ext_getElem
  · simp
  · intro i h1 h2; simp
theorem extTo_all (items : List S57) (L : List S54) : extTo items L items.length = ext items L := by
  unfold extTo ext
  apply List.ext_getElem
  · simp
  · intro i h1 h2
    have : i < items.length := by simpa using h1
    simp [this]
theorem extTo_length (items : List S57) (L : List S54) (k : Nat) : (extTo items L k).length = items.length := by simp [extTo]
theorem extTo_getD (items : List S57) (L : List S54) (k i : Nat) (hi : i < items.length) : (extTo items L k).getD i z57 = if i < k then extItem L i (items.getD i z57) else items.getD i z57 := by
  rw [List.getD_eq_getElem?_getD, List.getD_eq_getElem?_getD, List.getElem?_eq_getElem (by rw [extTo_length]; exact hi), List.getElem?_eq_getElem hi]
  simp [extTo]
theorem cells57_set (l : List S57) : ∀ (i : Nat) (v : Int), i < l.length → (cells57 l).set (i * 3 + 1) (.int .i64 v) = cells57 (l.set i ⟨(l.getD i z57).f0, v, (l.getD i z57).f2⟩) := by
 induction l with
 | nil => intro i v hi; simp at hi
 | cons x l ih =>
  intro i v hi
  cases i with
  | zero => rfl
  | succ i =>
   have h := ih i v (by simpa using hi)
   rw [show (i + 1) * 3 + 1 = (i * 3 + 1) + 3 by omega]
   simp only [cells57_cons, List.set_cons_succ, h]
   rfl
theorem extTo_set (items : List S57) (L : List S54) (i : Nat) (hi : i < items.length) : (extTo items L i).set i ⟨((extTo items L i).getD i z57).f0, (items.getD i z57).f1 + 5 * (goals L i).length, ((extTo items L i).getD i z57).f2⟩ = extTo items L (i + 1) := by
 rw [extTo_getD items L i i hi, if_neg (by omega)]
 apply List.ext_getElem
 ·simp [extTo]
 ·intro j h1 h2
  have hj : j < items.length := by simpa [extTo] using h2
  rw [List.getElem_set]
  by_cases hji : i = j
  ·subst hji
   simp [extTo, extItem, goals_length, List.getD_eq_getElem?_getD, hi]
  ·simp only [hji, if_false]
   simp only [extTo, List.getElem_mapIdx]
   by_cases hlt : j < i
   ·rw [if_pos hlt, if_pos (by omega)]
   ·rw [if_neg hlt, if_neg (by omega)]
end Go.Proofs.Ytogcgcjhoebooaa
end
section
set_option linter.unusedVariables false
set_option linter.unusedSimpArgs false
namespace Go.Proofs.Ytogcgcjhoebooaa
open Go.RowKit Go.Proofs.YtogcgcjhoebooaaW.PrintWords Go.Proofs.Ytogcgcjhoebooaa.PVeneerMatchesSpec
def RowI (base : Nat) (W : World) (v : Value) (xs : List Int) : Prop :=
  ∃ A c, v = .slice A xs.length c ∧ xs.length ≤ c ∧ Kd.C (Kd.int .i64) W A xs.length xs ∧ ∀ ad, A = some ad → base ≤ ad.block
def IsSl (v : Value) : Prop := ∃ A n c, v = .slice A n c
structure OkI (items : List S57) : Prop where
  len : items.length ≤ 200
  x : ∀ i, i < items.length → 0 ≤ (items.getD i z57).f1 ∧ (items.getD i z57).f1 ≤ 2000000 ∧ 1 ≤ (items.getD i z57).f2 ∧ (items.getD i z57).f2 ≤ 256
def AssignCalls : Prop := ∀ (A0 : Option Addr) (c0 : Nat) (os : List S72) (A1 : Option Addr) (c1 : Nat) (rs : List S76) (A : Option Addr) (c : Nat) (items : List S57) (W : World),
 ValidO os → OkI items → Kd.C k72 W A0 os.length os → os.length ≤ c0 → Kd.C k76 W A1 rs.length rs → rs.length ≤ c1 → Kd.C k57 W A items.length items → items.length ≤ c →
 Calls Try.prog 32 #[.agg #[.slice A0 os.length c0, .slice A1 rs.length c1], .slice A items.length c] W fun e W' => ∃ v0 v1 : Value, e = .returned (.tuple #[v0, v1, .agg #[.int .i64 (assign os items).code, .int .i64 (assign os items).idx]]) ∧
  RowI W.heap.size W' v0 (assign os items).ad ∧ IsSl v1 ∧ Below W.heap.size W W'
theorem cnt_le (L : List S54) (i : Int) : cnt L i ≤ L.length := List.length_filter_le _ _
theorem okI_ext {items : List S57} {n : Nat} {L : List S54} (h : ValidI items n) (hL : L.length ≤ 400) : OkI (ext items L) := by
 have hl : (ext items L).length = items.length := by simp [ext]
 refine ⟨by have := h.len; omega, fun i hi => ?_⟩
 rw [hl] at hi
 have hx := h.x i hi
 have : (ext items L).getD i z57 = extItem L i (items.getD i z57) := by
  rw [List.getD_eq_getElem?_getD, List.getD_eq_getElem?_getD, List.getElem?_eq_getElem (by omega), List.getElem?_eq_getElem hi]
  simp [ext]
 rw [this]
 have := cnt_le L i
 simp only [extItem]
 omega
theorem C_set {α : Type} {d : Kd α} (hd : ∀ (W W' : World) (x : α) (cs : List Value), d.K W x cs → d.K W' x cs) {w : World} {A : Option Addr} {n : Nat} {xs : List α} (h : d.C w A n xs) {p : Addr} {u : Value} (hp : ∀ ad, A = some ad → ad.block ≠ p.block) : d.C (w.setCell p u) A n xs := by
 obtain ⟨hl, hm, hr⟩ := h
 refine ⟨hl, hm, fun h0 => ?_⟩
 obtain ⟨ad, e, hc⟩ := hr h0
 refine ⟨ad, e, fun j x hx => ?_⟩
 obtain ⟨c, h1, h2, h3⟩ := hc j x hx
 refine ⟨c, h1, hd _ _ _ _ h2, fun i v hv => ?_⟩
 have hne := hp ad e
 rw [World.cell?_setCell_far]
 ·exact h3 i v hv
 ·intro hh
  apply hne
  rw [hh]
  unfold Addr.add
  split <;> rfl
theorem own_frozen {W : World} {base g n cap : Nat} {e : TypeId} {sz : Nat} {xs : List Value} (h : W.ownsRow base e sz (.slice (some ⟨g, 0, none⟩) n cap) n xs) (i : Nat) : W.frozen? ⟨g, i, none⟩ = false := by
 rcases h.2 with ⟨h', _⟩ | ⟨g', cap', cur, h', _, hh, _⟩
 ·cases h'
 ·have : g = g' := by injection h' with h'; injection h' with h'; injection h' with h'
  subst this
  simp [World.frozen?, hh]
set_option maxHeartbeats 4000000 in
set_option maxRecDepth 100000 in
theorem place_calls (hA : AssignCalls) {w W : World} {g gf gs : Nat} {A0 A1 A2 : Option Addr} {c0 c1 c2 : Nat} {B : Value} {os : List S72} {rs : List S76} {items : List S57} {far : List Bool} {L : List S54}
  (hp : Pl w W g gf gs #[.slice A0 os.length c0, .slice A1 rs.length c1, .slice A2 items.length c2, B] items.length far L)
  (h0 : Kd.C k72 w A0 os.length os) (hc0 : os.length ≤ c0) (h1 : Kd.C k76 w A1 rs.length rs) (hc1 : rs.length ≤ c1) (h2 : Kd.C k57 w A2 items.length items) (hc2 : items.length ≤ c2)
  (hvo : ValidO os) {n : Nat} (hvi : ValidI items n) (hL : L.length ≤ 400) :
  Calls Try.prog 48 #[.pointer (some ⟨g, 0, none⟩)] W fun e W' => ∃ v0 v1 : Value, e = .returned (.tuple #[v0, v1, .agg #[.int .i64 (assign os (ext items L)).code, .int .i64 (assign os (ext items L)).idx]]) ∧
   RowI W.heap.size W' v0 (assign os (ext items L)).ad ∧ IsSl v1 ∧ Below W.heap.size W W' := by
 have hlen := hvi.len
 have HP := Aside0.mk hp
 obtain ⟨p0, p1, p2, p3, p4, p5⟩ := hp.cells
 obtain ⟨l1, l2, l3⟩ := hp.lt
 have hu29 := Try.underlying29
 have hu85 := Try.underlying85
 have HC := Aside0.mk (fun W' (hW : Below W.heap.size W W') => clone_calls A2 c2 items W' (Kd.C_below h2 (hp.below.trans (hW.mono hp.below.size))) hc2 (by omega))
 go_enter Try.func48, Try.ntmps48
 go_wp2_with (go_at_call 54; refine (HC.out _ ?_).mono ?_)
 ·exact below_alloc (Below.refl _ _) _
 rintro e w1 ⟨v, rfl, ho, hb1⟩
 simp only [World.size_alloc] at ho hb1
 have hW1 : Below W.heap.size W w1 := (below_alloc (Below.refl _ _) _).trans (hb1.mono (by omega))
 have hP1 := Aside0.mk (hp.step hW1)
 have f0 := (hb1.cell (p := ⟨W.heap.size, 0, none⟩) (by simp)).trans (show _ = some (.int .i64 0) by simp)
 have f1 := (hb1.cell (p := ⟨W.heap.size, 1, none⟩) (by simp)).trans (show _ = some (.int .i64 0) by simp)
 have f2 := (hb1.frozen (p := ⟨W.heap.size, 0, none⟩) (by simp)).trans (show _ = false by simp)
 have f3 := (hb1.frozen (p := ⟨W.heap.size, 1, none⟩) (by simp)).trans (show _ = false by simp)
 have hs1 : W.heap.size + 1 ≤ w1.heap.size := by have := hb1.size; simpa using this
 have F := Aside0.mk (And.intro f0 (And.intro f1 (And.intro f2 (And.intro f3 (And.intro hs1 hW1)))))
 obtain ⟨Av, cv, rfl, hcv, _⟩ := C57_of_own (l := items) (by simpa using ho) (by omega)
 have HO := Aside0.mk ho
 clear hb1 ho p0 p1 p2 p3 p4 p5 l1 l2 l3 f0 f1 f2 f3 hs1 hW1
 go_wp2_with fail
 go_loopg [14] items.length (fun k v14 wr => ∃ i : Nat, i ≤ items.length ∧ v14 = .int .i64 i ∧ Aside0 (k = items.length - i) ∧ Aside0 (wr.ownsRow (W.heap.size + 1) 57 3 (.slice Av items.length cv) items.length (cells57 (extTo items L i))) ∧ Aside0 (Below (W.heap.size + 1) w1 wr))
 case atStart => exact ⟨0, Nat.zero_le _, rfl, ⟨rfl⟩, ⟨by rw [extTo_zero]; exact HO.out⟩, ⟨Below.refl _ _⟩⟩
 case round =>
  obtain ⟨i, hi, rfl, hk, hown, hb⟩ := hrel
  obtain ⟨f0, f1, f2, f3, hs1, hW1⟩ := F.out
  have hWr : Aside0 (Below W.heap.size W wr) := ⟨hW1.trans (hb.out.mono (by omega))⟩
  have hPr := Aside0.mk (HP.out.step hWr.out)
  obtain ⟨p0, p1, p2, p3, p4, p5⟩ := hPr.out.cells
  by_cases hlt : i < items.length
  ·obtain ⟨g', cap, e, hgb, hgl⟩ := hown.out.form (by omega)
   cases e
   obtain ⟨As, cs, q0, q1, q2, q3, q4⟩ := hPr.out.stub_cell i hlt
   have hl3 : (cells57 (extTo items L i)).length = items.length * 3 := by rw [cells57_length, extTo_length]
   have hcell := hown.out.cellAt (i * 3 + 1) (by omega)
   rw [(cells57_at (extTo items L i) i (by rw [extTo_length]; exact hlt)).2.1, extTo_getD items L i i hlt, if_neg (by omega)] at hcell
   have hfr : wr.frozen? ⟨g', i * 3 + 1, none⟩ = false := own_frozen hown.out _
   have hbd := hvi.x i hlt
   have hcn : (goals L i).length ≤ 400 := by rw [goals_length]; exact Nat.le_trans (cnt_le L i) hL
   obtain ⟨_, _, b1, b2, _, _⟩ := hbd
   have hst := hown.out.stored (i * 3 + 1) (.int .i64 ((items.getD i z57).f1 + 5 * (goals L i).length))
   rw [cells57_set _ _ _ (by rw [extTo_length]; exact hlt), extTo_set items L i hlt] at hst
   have HST := Aside0.mk hst
   clear f0 f1 f2 f3 q2 q3 hl3 hst
   generalize (items.getD i z57).f1 = sz at *
   generalize (goals L i).length = gl at *
   go_wp2_with fail
   go_still_tail 17, (by kernel_rfl)
   go_wp2
   go_roundg (items.length - (i + 1))
   case measure => have := hk.out; omega
   case rel => exact ⟨i + 1, hlt, by go_num, ⟨rfl⟩, ⟨HST.out.1.drew⟩, ⟨below_drew (hb.out.setCell hgb _)⟩⟩
  ·have hie : i = items.length := by omega
   subst hie
   have ho := hown.out
   rw [extTo_all] at ho
   have hle : (ext items L).length = items.length := by simp [ext]
   rw [← hle] at ho
   obtain ⟨A', c', e, hcc, hC⟩ := C57_of_own ho (by omega)
   have hAC := Aside0.mk (fun W' (hW : Below wr.heap.size wr W') => hA A0 c0 os A1 c1 rs A' c' (ext items L) W' hvo (okI_ext hvi hL) (Kd.C_below h0 ((hp.below.trans (hWr.out.mono hp.below.size)).trans (hW.mono (by have := hp.below.size; have := hWr.out.size; omega)))) hc0 (Kd.C_below h1 ((hp.below.trans (hWr.out.mono hp.below.size)).trans (hW.mono (by have := hp.below.size; have := hWr.out.size; omega)))) hc1 (Kd.C_below hC hW) hcc)
   rw [hle] at e
   cases e
   rw [hle] at hAC
   have y0 := (hb.out.cell (p := ⟨W.heap.size, 0, none⟩) (by simp)).trans f0
   have y1 := (hb.out.cell (p := ⟨W.heap.size, 1, none⟩) (by simp)).trans f1
   have y2 := (hb.out.frozen (p := ⟨W.heap.size, 0, none⟩) (by simp)).trans f2
   have y3 := (hb.out.frozen (p := ⟨W.heap.size, 1, none⟩) (by simp)).trans f3
   have hsr : W.heap.size + 1 ≤ wr.heap.size := by have := hb.out.size; omega
   clear ho hC hcc hle f0 f1 f2 f3
   go_wp2_with (go_at_call 32; refine (hAC.out _ (Below.refl _ _)).mono ?_; rintro e w2 ⟨v0, v1, rfl, hr0, hr1, hb2⟩; replace hr0 := Aside0.mk hr0; replace hr1 := Aside0.mk hr1; have z0 := (hb2.cell (p := ⟨W.heap.size, 0, none⟩) (by simp; omega)).trans y0; have z1 := (hb2.cell (p := ⟨W.heap.size, 1, none⟩) (by simp; omega)).trans y1; have z2 := (hb2.frozen (p := ⟨W.heap.size, 0, none⟩) (by simp; omega)).trans y2; have z3 := (hb2.frozen (p := ⟨W.heap.size, 1, none⟩) (by simp; omega)).trans y3; replace hb2 := Aside0.mk hb2)
   refine bodyPost_ret (v := .tuple #[v0, v1, .agg #[.int .i64 (assign os (ext items L)).code, .int .i64 (assign os (ext items L)).idx]]) (by simp [results, Try.results48, go_sem, z0, z1]) rfl ⟨v0, v1, rfl, ?_, hr1.out, ?_⟩
   ·obtain ⟨A, c, e, h1, h2, h3⟩ := hr0.out
    exact ⟨A, c, e, h1, C_set (fun _ _ _ _ h => h) (C_set (fun _ _ _ _ h => h) h2 (fun ad had => by have := h3 ad had; simp; omega)) (fun ad had => by have := h3 ad had; simp; omega), fun ad had => by have := h3 ad had; omega⟩
   ·exact ((hWr.out.trans (hb2.out.mono hWr.out.size)).setCell (by simp) _).setCell (by simp) _
end Go.Proofs.Ytogcgcjhoebooaa
end
section
set_option linter.unusedVariables false
set_option linter.unusedSimpArgs false
namespace Go.Proofs.Ytogcgcjhoebooaa
open Go.RowKit Go.Proofs.YtogcgcjhoebooaaW.PrintWords Go.Proofs.Ytogcgcjhoebooaa.PVeneerMatchesSpec
def NumCalls (f : Nat) : Prop := ∀ (k s a p : Int) (w : World), -8589934592 ≤ s → s ≤ 8589934592 → -8589934592 ≤ a → a ≤ 8589934592 → -8589934592 ≤ p → p ≤ 8589934592 →
  Calls Try.prog f #[.int .i64 k, .int .i64 s, .int .i64 a, .int .i64 p] w fun e w' => e = .returned (.tuple #[.int .i64 (numV k s a p), .bool (fits k s a p)]) ∧ Drawn0 w w'
def AddrCalls : Prop := ∀ (A : Option Addr) (c : Nat) (a : List Int) (tt tg : Int) (w : World), Kd.C (Kd.int .i64) w A a.length a → a.length ≤ c → (tt < 0 ∨ (0 ≤ tt ∧ tt < a.length ∧ 0 ≤ rd a tt ∧ rd a tt ≤ 4000000)) → 0 ≤ tg → tg ≤ 4294967295 →
  Calls Try.prog 56 #[.slice A a.length c, .int .i64 tt, .int .i64 tg] w fun e w' => e = .returned (.int .i64 (addrOf a tt tg)) ∧ Drawn0 w w'
def bv (b : S48) : Value := .agg #[.int .i64 b.f0, .int .i64 b.f1, .int .i64 b.f2, .int .i64 b.f3, .int .i64 b.f4, .int .i64 b.f5]
def GoalCalls : Prop := ∀ (b : S48) (w : World), Calls Try.prog 57 #[.agg #[.int .i64 b.f0, .int .i64 b.f1, .int .i64 b.f2, .int .i64 b.f3, .int .i64 b.f4, .int .i64 b.f5]] w fun e w' => e = .returned (.agg #[.int .i64 b.f4, .int .i64 b.f5, .int .i64 b.f3]) ∧ Below w.heap.size w w'
def idxOf (xs : List S89) (g : S89) : Int := if xs.any (fun x => decide (x.f0 = g.f0 ∧ x.f1 = g.f1 ∧ x.f2 = g.f2)) then (xs.findIdx fun x => decide (x.f0 = g.f0 ∧ x.f1 = g.f1 ∧ x.f2 = g.f2) : Nat) else -1
def hasGoal (xs : List S89) (g : S89) : Bool := xs.any fun x => decide (x.f0 = g.f0 ∧ x.f1 = g.f1 ∧ x.f2 = g.f2)
def IndexCalls : Prop := ∀ (A : Option Addr) (c : Nat) (xs : List S89) (g0 g1 g2 : Int) (w : World), Kd.C k89 w A xs.length xs → xs.length ≤ c → Calls Try.prog 63 #[.slice A xs.length c, .agg #[.int .i64 g0, .int .i64 g1, .int .i64 g2]] w fun e w' => e = .returned (.int .i64 (idxOf xs ⟨g0, g1, g2⟩)) ∧ Below w.heap.size w w'
def ContCalls : Prop := ∀ (A : Option Addr) (c : Nat) (xs : List S89) (g0 g1 g2 : Int) (w : World), Kd.C k89 w A xs.length xs → xs.length ≤ c → Calls Try.prog 58 #[.slice A xs.length c, .agg #[.int .i64 g0, .int .i64 g1, .int .i64 g2]] w fun e w' => e = .returned (.bool (hasGoal xs ⟨g0, g1, g2⟩)) ∧ Below w.heap.size w w'
structure OkB (n : Nat) (b : S48) : Prop where
  f0 : 0 ≤ b.f0 ∧ b.f0 < n
  f1 : 0 ≤ b.f1 ∧ b.f1 ≤ 2000000
  f3 : -1048576 ≤ b.f3 ∧ b.f3 ≤ 1048576
  f4 : -1 ≤ b.f4 ∧ b.f4 < n
  f5 : 0 ≤ b.f5 ∧ b.f5 ≤ 4294967295
structure OkA (n : Nat) (a : List Int) : Prop where
  len : a.length = n
  bd : ∀ i : Int, 0 ≤ i → i < n → 0 ≤ rd a i ∧ rd a i ≤ 4000000
theorem addr_bd {n : Nat} {a : List Int} {b : S48} (ha : OkA n a) (hb : OkB n b) : 0 ≤ addrOf a b.f4 b.f5 ∧ addrOf a b.f4 b.f5 ≤ 4300000000 := by
  obtain ⟨h1, h2⟩ := hb.f4
  obtain ⟨h3, h4⟩ := hb.f5
  unfold addrOf
  split
  · omega
  · have := ha.bd b.f4 (by omega) h2; omega
theorem quiet_drawn {P : Program} {f : FuncId} {args : Array Value} {w : World} {n : Nat} {v : Value}
    (h : Calls P f args (w.drewN n) fun e w' => e = .returned v ∧ Drawn0 (w.drewN n) w') : Calls P f args (w.drewN n) fun e w'' => e = .returned v ∧ ∃ m, w'' = w.drewN m :=
  Calls.quiet_of (h.mono fun _ _ ⟨he, hd⟩ => ⟨he, hd.out⟩)
set_option maxHeartbeats 1000000 in
set_option maxRecDepth 100000 in
theorem reaches_calls (hN : NumCalls 55) (hA : AddrCalls) (pv : Value) (A : Option Addr) (c n : Nat) (a : List Int) (b : S48) (w : World) (hr : Kd.C (Kd.int .i64) w A a.length a) (hc : a.length ≤ c) (ha : OkA n a) (hb : OkB n b) :
  Calls Try.prog 49 #[pv, .slice A a.length c, .agg #[.int .i64 b.f0, .int .i64 b.f1, .int .i64 b.f2, .int .i64 b.f3, .int .i64 b.f4, .int .i64 b.f5]] w fun e w' => e = .returned (.bool (reach a b)) ∧ Below w.heap.size w w' := by
 have hlen := ha.len
 obtain ⟨q1, q2⟩ := hb.f0
 obtain ⟨q3, q4⟩ := hb.f1
 obtain ⟨q5, q6⟩ := hb.f3
 obtain ⟨q7, q8⟩ := hb.f4
 obtain ⟨q9, q10⟩ := hb.f5
 have hab := addr_bd ha hb
 have hrd := ha.bd b.f0 q1 q2
 have HA := Aside0.mk (fun W (hW : Below w.heap.size w W) => hA A c a b.f4 b.f5 W (Kd.C_below hr hW) hc (by by_cases h : b.f4 < 0; exact .inl h; exact .inr ⟨by omega, by omega, ha.bd b.f4 (by omega) q8⟩) q9 q10)
 have HN := Aside0.mk (fun W => hN b.f2 (addrOf a b.f4 b.f5) b.f3 (rd a b.f0 + b.f1) W (by omega) (by omega) (by omega) (by omega) (by omega) (by omega))
 have HV := Aside0.mk (show reach a b = fits b.f2 (addrOf a b.f4 b.f5) b.f3 (rd a b.f0 + b.f1) from rfl)
 have hu48 := Try.underlying48
 obtain ⟨bk, o, e, hbk, hx⟩ := openI hr (by omega)
 subst e
 have x0 : w.cell? ⟨bk, o + b.f0.toNat, none⟩ = some (.int .i64 (rd a b.f0)) := hx b.f0.toNat (by omega)
 have hlq : b.f0 < a.length := by omega
 clear hx ha hb hr
 generalize addrOf a b.f4 b.f5 = av at *
 generalize rd a b.f0 = rv at *
 generalize fits b.f2 av b.f3 (rv + b.f1) = fv at *
 generalize numV b.f2 av b.f3 (rv + b.f1) = nv at *
 replace hlen := Aside0.mk hlen
 go_enter Try.func49, Try.ntmps49
 go_wp2
 go_quiet (first | (go_at_call 56; exact quiet_drawn (HA.out _ (pw_below_drewN (below_alloc (Below.refl _ _) _) _))) | (go_at_call 55; exact quiet_drawn (HN.out _)))
 go_wp2
 go_ret
 exact ⟨ret_b HV.out.symm, by repeat (first | exact Below.refl _ _ | apply below_alloc | apply pw_below_drewN | apply below_drew)⟩
end Go.Proofs.Ytogcgcjhoebooaa
end
section
set_option linter.unusedVariables false
set_option linter.unusedSimpArgs false
namespace Go.Proofs.Ytogcgcjhoebooaa
open Go.RowKit Go.Proofs.YtogcgcjhoebooaaW.PrintWords Go.Proofs.YtogcgcjhoebooaaW.PrintLast Go.Proofs.Ytogcgcjhoebooaa.PVeneerMatchesSpec
theorem clip_calls (A : Option Addr) (n c : Nat) (w : World) (hn : n ≤ c) (hc : n ≤ 1000) :
    Calls Try.prog 59 #[.slice A n c] w fun e w' => e = .returned (.slice A n n) ∧ w' = w := by
  go_enter Try.func59, Try.ntmps59
  go_wp2
  go_ret
  exact ⟨rfl, rfl⟩
def cells89 (l : List S89) : List Value := l.flatMap fun x => [.int .i64 x.f0, .int .i64 x.f1, .int .i64 x.f2]
theorem cells89_length (l : List S89) : (cells89 l).length = l.length * 3 := by
  induction l with
  | nil => rfl
  | cons x l ih => simp only [cells89, List.flatMap_cons, List.length_append, List.length_cons, List.length_nil] at ih ⊢; rw [ih]; omega
theorem cells89_append (l m : List S89) : cells89 (l ++ m) = cells89 l ++ cells89 m := by simp [cells89]
theorem cells89_at (l : List S89) : ∀ (i : Nat), i < l.length → (cells89 l)[i * 3]? = some (.int .i64 (l.getD i z89).f0) ∧ (cells89 l)[i * 3 + 1]? = some (.int .i64 (l.getD i z89).f1) ∧ (cells89 l)[i * 3 + 2]? = some (.int .i64 (l.getD i z89).f2) := by
 induction l with
 | nil => intro i hi; simp at hi
 | cons x l ih =>
  intro i hi
  have hc : cells89 (x :: l) = .int .i64 x.f0 :: .int .i64 x.f1 :: .int .i64 x.f2 :: cells89 l := rfl
  rw [hc]
  cases i with
  | zero => exact ⟨rfl, rfl, rfl⟩
  | succ i =>
   have h := ih i (by simpa using hi)
   rw [show (i + 1) * 3 = i * 3 + 3 by omega]
   simpa using h
theorem cells89_read {w : World} {A : Option Addr} {n : Nat} {l : List S89} (h : Kd.C k89 w A n l) : ∀ ad, A = some ad → ∀ j u, (cells89 l)[j]? = some u → w.cell? (ad.add j) = some u := by
 intro ad hA j u hu
 have hj : j < (cells89 l).length := (List.getElem?_eq_some_iff.1 hu).1
 rw [cells89_length] at hj
 have hl := h.1
 obtain ⟨b, o, e, hb, hx⟩ := C_open h (by omega) (by decide : 0 < 3) z89
 rw [hA] at e
 cases e
 have ha : (⟨b, o, none⟩ : Addr).add j = ⟨b, o + j, none⟩ := by unfold Addr.add; split <;> simp_all
 rw [ha]
 obtain ⟨a0, a1, a2⟩ := cells89_at l (j / 3) (by omega)
 obtain ⟨c, hcl, hk, hcc⟩ := hx (j / 3) (by omega)
 obtain rfl := k89_open hk
 have h3 : k89.sz = 3 := rfl
 rw [h3] at hcc
 have : j % 3 = 0 ∨ j % 3 = 1 ∨ j % 3 = 2 := by omega
 rcases this with h0 | h0 | h0
 ·have := hcc 0 _ rfl; rw [show j / 3 * 3 = j by omega] at a0; rw [show o + j / 3 * 3 + 0 = o + j by omega] at this; rw [this, ← a0, hu]
 ·have := hcc 1 _ rfl; rw [show j / 3 * 3 + 1 = j by omega] at a1; rw [show o + j / 3 * 3 + 1 = o + j by omega] at this; rw [this, ← a1, hu]
 ·have := hcc 2 _ rfl; rw [show j / 3 * 3 + 2 = j by omega] at a2; rw [show o + j / 3 * 3 + 2 = o + j by omega] at this; rw [this, ← a2, hu]
theorem C89_of_own {w : World} {base : Nat} {v : Value} {l : List S89} (h : w.ownsRow base 89 3 v l.length (cells89 l)) (hm : l.length ≤ 9223372036854775807) : ∃ A c, v = .slice A l.length c ∧ l.length ≤ c ∧ Kd.C k89 w A l.length l ∧ ∀ ad, A = some ad → base ≤ ad.block := by
 rcases h.2 with ⟨rfl, h0⟩ | ⟨g, cap, cur, rfl, hb, hg, hn, hc, hs, ht⟩
 ·refine ⟨none, 0, by rw [h0], by omega, ⟨rfl, hm, fun hp => absurd hp (by omega)⟩, fun ad h => by cases h⟩
 ·refine ⟨_, cap, rfl, hn, ⟨rfl, hm, fun hp => ⟨_, rfl, fun j p hj => ?_⟩⟩, fun ad h => by cases h; exact hb⟩
  have hjl : j < l.length := (List.getElem?_eq_some_iff.1 hj).1
  have hp' : l.getD j z89 = p := by rw [List.getD_eq_getElem?_getD, hj]; rfl
  obtain ⟨a0, a1, a2⟩ := cells89_at l j hjl
  rw [hp'] at a0 a1 a2
  have hcell := h.cells (g := g) rfl
  refine ⟨[.int .i64 p.f0, .int .i64 p.f1, .int .i64 p.f2], rfl, k89_mk w p, fun i u hu => ?_⟩
  have h3 : k89.sz = 3 := rfl
  rw [h3]
  refine hcell _ _ ?_
  match i, hu with
  | 0, hu => simp at hu; subst hu; exact a0
  | 1, hu => simp at hu; subst hu; exact a1
  | 2, hu => simp at hu; subst hu; exact a2
  | i + 3, hu => simp at hu
theorem info89 : (Try.prog.info? 89).map (fun i => (i.zero, i.size, i.bytes)) = some (some (.agg #[(.int .i64 0), (.int .i64 0), (.int .i64 0)]), 3, 24) := by kernel_rfl
structure Fr (W W' : World) (gf gs : Nat) : Prop where
  size : W.heap.size ≤ W'.heap.size
  os : W'.os = W.os
  tape : W'.tape = W.tape
  output : W'.output = W.output
  block : ∀ k, k < W.heap.size → k ≠ gf → k ≠ gs → W'.heap[k]? = W.heap[k]?
theorem Fr.refl (W : World) (gf gs : Nat) : Fr W W gf gs := ⟨Nat.le_refl _, rfl, rfl, rfl, fun _ _ _ _ => rfl⟩
theorem Fr.step {W W1 W2 : World} {gf gs : Nat} (h : Fr W W1 gf gs) (hb : Below W1.heap.size W1 W2) : Fr W W2 gf gs :=
  ⟨Nat.le_trans h.size hb.size, hb.os.trans h.os, hb.tape.trans h.tape, hb.output.trans h.output, fun k hk h1 h2 => (hb.block k (Nat.lt_of_lt_of_le hk h.size)).trans (h.block k hk h1 h2)⟩
theorem Fr.trans {W W1 W2 : World} {gf gs : Nat} (h : Fr W W1 gf gs) (k : Fr W1 W2 gf gs) : Fr W W2 gf gs :=
  ⟨Nat.le_trans h.size k.size, k.os.trans h.os, k.tape.trans h.tape, k.output.trans h.output, fun j hj h1 h2 => (k.block j (Nat.lt_of_lt_of_le hj h.size) h1 h2).trans (h.block j hj h1 h2)⟩
theorem Fr.set_gf {W W1 : World} {gf gs : Nat} (h : Fr W W1 gf gs) (i : Nat) (u : Value) : Fr W (W1.setCell ⟨gf, i, none⟩ u) gf gs :=
  ⟨by simpa [World.setCell] using h.size, h.os, h.tape, h.output, fun k hk h1 h2 => (Below.heap_setCell W1 ⟨gf, i, none⟩ u k h1).trans (h.block k hk h1 h2)⟩
theorem Fr.set_gs {W W1 : World} {gf gs : Nat} (h : Fr W W1 gf gs) (i : Nat) (u : Value) : Fr W (W1.setCell ⟨gs, i, none⟩ u) gf gs :=
  ⟨by simpa [World.setCell] using h.size, h.os, h.tape, h.output, fun k hk h1 h2 => (Below.heap_setCell W1 ⟨gs, i, none⟩ u k h2).trans (h.block k hk h1 h2)⟩
theorem Fr.cell {W W1 : World} {gf gs : Nat} (h : Fr W W1 gf gs) {p : Addr} (hp : p.block < W.heap.size) (h1 : p.block ≠ gf) (h2 : p.block ≠ gs) : W1.cell? p = W.cell? p := World.cell?_of_block (w := W) (h.block p.block hp h1 h2)
theorem Fr.frozen {W W1 : World} {gf gs : Nat} (h : Fr W W1 gf gs) {p : Addr} (hp : p.block < W.heap.size) (h1 : p.block ≠ gf) (h2 : p.block ≠ gs) : W1.frozen? p = W.frozen? p := World.frozen?_of_block (w := W) (h.block p.block hp h1 h2)
theorem Fr.below {W W1 : World} {gf gs B : Nat} (h : Fr W W1 gf gs) (h1 : B ≤ gf) (h2 : B ≤ gs) (hB : B ≤ W.heap.size) : Below B W W1 := ⟨h.os, h.tape, h.output, h.size, fun k hk => h.block k (by omega) (by omega) (by omega)⟩
theorem C_fr {α : Type} {d : Kd α} (hd : ∀ (W W' : World) (x : α) (cs : List Value), d.K W x cs → d.K W' x cs) {w w' : World} {A : Option Addr} {n : Nat} {xs : List α} (h : d.C w A n xs) (hc : ∀ ad, A = some ad → ∀ p : Addr, p.block = ad.block → w'.cell? p = w.cell? p) : d.C w' A n xs := by
 obtain ⟨hl, hm, hr⟩ := h
 refine ⟨hl, hm, fun h0 => ?_⟩
 obtain ⟨ad, e, hcc⟩ := hr h0
 refine ⟨ad, e, fun j x hx => ?_⟩
 obtain ⟨c, h1, h2, h3⟩ := hcc j x hx
 refine ⟨c, h1, hd _ _ _ _ h2, fun i v hv => ?_⟩
 rw [hc ad e _ (by unfold Addr.add; split <;> rfl)]
 exact h3 i v hv
theorem k89_any (W W' : World) (x : S89) (cs : List Value) (h : k89.K W x cs) : k89.K W' x cs := by
  obtain rfl := k89_open h
  exact k89_mk W' x
theorem Pl.setFar {w W : World} {g gf gs : Nat} {vs : Array Value} {ni : Nat} {far : List Bool} {L : List S54} (h : Pl w W g gf gs vs ni far L) (i : Nat) : Pl w (W.setCell ⟨gf, i, none⟩ (.bool true)) g gf gs vs ni (far.set i true) L := by
 obtain ⟨a1, a2, a3⟩ := h.ap
 obtain ⟨sv, s1, s2, s3⟩ := h.sb
 refine ⟨h.below.setCell h.ge.2.1 _, ?_, h.vsz, ?_, ⟨sv, blk_far s1 (by simpa using a3.symm) _, s2, fun j v hv => ?_⟩, h.ap, h.ge⟩
 ·have := blk_far (p := ⟨gf, i, none⟩) h.blk (by simpa using a1) (.bool true)
  simpa using this
 ·have := blk_set h.fb i (.bool true)
  rw [this]
  simp [List.map_set]
 ·obtain ⟨A, c, e, hc, hC, hA⟩ := s3 j v hv
  exact ⟨A, c, e, hc, C_set k89_any hC (fun ad had => (hA ad had).2.1), hA⟩
theorem own_lower {W : World} {base base' n : Nat} {e : TypeId} {sz : Nat} {v : Value} {xs : List Value} (h : W.ownsRow base e sz v n xs) (hb : base' ≤ base) : W.ownsRow base' e sz v n xs := by
  refine ⟨h.1, ?_⟩
  rcases h.2 with h2 | ⟨g, cap, cur, h1, h2, h3⟩
  · exact .inl h2
  · exact .inr ⟨g, cap, cur, h1, Nat.le_trans hb h2, h3⟩
theorem goals_snoc (L : List S54) (s : S54) (j : Nat) : goals (L ++ [s]) j = if s.f0 = (j : Int) then goals L j ++ [⟨s.f2, s.f3, s.f4⟩] else goals L j := by
  unfold goals
  rw [List.filter_append]
  by_cases h : s.f0 = (j : Int)
  · simp [h]
  · simp [h]
theorem Pl.setStub {w W W5 : World} {g gf gs : Nat} {vs : Array Value} {ni : Nat} {far : List Bool} {L : List S54} (h : Pl w W g gf gs vs ni far L) (hb : Below W.heap.size W W5) (s : S54) (i : Nat) (hi : i < ni) (hs : s.f0 = (i : Int)) {v : Value} {n : Nat}
  (ho : W5.ownsRow W.heap.size 89 3 v n (cells89 (goals L i) ++ [.int .i64 s.f2, .int .i64 s.f3, .int .i64 s.f4])) (hn : n = (goals L i).length + 1) (hm : (goals L i).length + 1 ≤ 1000) :
  Pl w (W5.setCell ⟨gs, i, none⟩ v) g gf gs vs ni far (L ++ [s]) := by
 obtain ⟨l1, l2, l3⟩ := h.lt
 have h5 := h.step hb
 obtain ⟨a1, a2, a3⟩ := h.ap
 obtain ⟨sv, s1, s2, s3⟩ := h5.sb
 have hgi : goals (L ++ [s]) i = goals L i ++ [⟨s.f2, s.f3, s.f4⟩] := by rw [goals_snoc, if_pos hs]
 have hcells : cells89 (goals L i) ++ [.int .i64 s.f2, .int .i64 s.f3, .int .i64 s.f4] = cells89 (goals (L ++ [s]) i) := by rw [hgi, cells89_append]; rfl
 have hlen : n = (goals (L ++ [s]) i).length := by rw [hgi, hn]; simp
 rw [hcells, hlen] at ho
 obtain ⟨A, c, rfl, hc, hC, hA⟩ := C89_of_own ho (by rw [hgi]; simp; omega)
 refine ⟨h5.below.setCell h.ge.2.2 _, ?_, h.vsz, ?_, ⟨sv.set i (.slice A (goals (L ++ [s]) i).length c), ?_, by simpa using s2, fun j v hv => ?_⟩, h.ap, h.ge⟩
 ·exact blk_far h5.blk (by simpa using a2) _
 ·exact blk_far h5.fb (by simpa using a3) _
 ·have := blk_set s1 i (.slice A (goals (L ++ [s]) i).length c)
  rw [this]
  simp
 ·by_cases hji : j = i
  ·subst hji
   rw [List.getElem?_set_self (by omega)] at hv
   injection hv with hv
   subst hv
   refine ⟨A, c, rfl, hc, C_set k89_any hC (fun ad had => ?_), fun ad had => ?_⟩
   ·have := hA ad had; simp; omega
   ·have := hA ad had; refine ⟨?_, ?_, ?_⟩ <;> omega
  ·rw [List.getElem?_set_ne (fun e => hji e.symm)] at hv
   have hgj : goals (L ++ [s]) j = goals L j := by rw [goals_snoc, if_neg (by rw [hs]; omega)]
   rw [hgj]
   obtain ⟨A', c', e, hc', hC', hA'⟩ := s3 j v hv
   exact ⟨A', c', e, hc', C_set k89_any hC' (fun ad had => (hA' ad had).2.2), hA'⟩
theorem grown_below' {B : Nat} {W W1 : World} (h : W.grownBy W1 none) (hB : B ≤ W.heap.size) : Below B W W1 := ⟨h.os, h.tape, h.output, h.size, fun k hk => h.block k (by omega) (by simp)⟩
theorem hasGoal_goals {L : List S54} {b : S48} (h : 0 ≤ b.f0) : hasGoal (goals L b.f0.toNat) ⟨b.f4, b.f5, b.f3⟩ = L.any (serve · b) := by
  unfold hasGoal goals
  rw [List.any_map, List.any_filter]
  congr 1
  funext s
  simp only [Function.comp, serve]
  rw [show ((b.f0.toNat : Nat) : Int) = b.f0 by omega]
  rw [Bool.eq_iff_iff]
  simp
set_option maxHeartbeats 4000000 in
set_option maxRecDepth 100000 in
theorem add_calls (hG : GoalCalls) (hC : ContCalls) {w W : World} {g gf gs : Nat} {O R I : Value} {AB : Option Addr} {cB ni : Nat} {bs : List S48} {far : List Bool} {L : List S54} {items : List S57} {i : Nat}
  (hp : Pl w W g gf gs #[O, R, I, .slice AB bs.length cB] ni far L) (hB : Kd.C k48 w AB bs.length bs) (hi : i < bs.length) (hfl : far.length = bs.length) (hb : OkB ni (bs.getD i z48)) (hL : L.length ≤ 400) (hni : items.length = ni) (hbl : bs.length ≤ 400) :
  Calls Try.prog 50 #[.pointer (some ⟨g, 0, none⟩), .int .i64 i] W fun e W' => e = .returned (.tuple #[]) ∧ Pl w W' g gf gs #[O, R, I, .slice AB bs.length cB] ni (far.set i true) (addStub items L (bs.getD i z48)) ∧ Fr W W' gf gs := by
 obtain ⟨p0, p1, p2, p3, p4, p5⟩ := hp.cells
 obtain ⟨l1, l2, l3⟩ := hp.lt
 obtain ⟨ap1, ap2, ap3⟩ := hp.ap
 have HP := Aside0.mk hp
 obtain ⟨bk, o, e, hbk, hx⟩ := open48 (Kd.C_below hB hp.below) (by omega)
 subst e
 obtain ⟨x0, x1, x2, x3, x4, x5⟩ := hx i hi
 obtain ⟨c0, c1⟩ := hp.far_cell i (by omega)
 have hu48 := Try.underlying48
 have hu89 := Try.underlying89
 have hbk2 : bk < w.heap.size := by
  obtain ⟨bk', o', e, hbk', _⟩ := open48 hB (by omega)
  cases e; exact hbk'
 obtain ⟨e1, e2, e3⟩ := hp.ge
 have hbm := hb.f0
 clear hx hB
 generalize hbb : bs.getD i z48 = b at *
 replace hbb := Aside0.mk hbb
 go_enter Try.func50, Try.ntmps50
 go_wp2_with fail
 have HP1 := Aside0.mk ((hp.setFar i).step (below_alloc (Below.refl _ _) (Obj.cells #[Value.int IntKind.i64 b.f0, Value.int IntKind.i64 b.f1, Value.int IntKind.i64 b.f2, Value.int IntKind.i64 b.f3, Value.int IntKind.i64 b.f4, Value.int IntKind.i64 b.f5] 48)))
 have HF1 := Aside0.mk (((Fr.refl W gf gs).set_gf i (.bool true)).step (below_alloc (Below.refl _ _) (Obj.cells #[Value.int IntKind.i64 b.f0, Value.int IntKind.i64 b.f1, Value.int IntKind.i64 b.f2, Value.int IntKind.i64 b.f3, Value.int IntKind.i64 b.f4, Value.int IntKind.i64 b.f5] 48)))
 have hsz1 : ((W.setCell ⟨gf, i, none⟩ (.bool true)).alloc (Obj.cells #[Value.int IntKind.i64 b.f0, Value.int IntKind.i64 b.f1, Value.int IntKind.i64 b.f2, Value.int IntKind.i64 b.f3, Value.int IntKind.i64 b.f4, Value.int IntKind.i64 b.f5] 48)).heap.size = W.heap.size + 1 := by simp [World.setCell]
 have d0 : ((W.setCell ⟨gf, i, none⟩ (.bool true)).alloc (Obj.cells #[Value.int IntKind.i64 b.f0, Value.int IntKind.i64 b.f1, Value.int IntKind.i64 b.f2, Value.int IntKind.i64 b.f3, Value.int IntKind.i64 b.f4, Value.int IntKind.i64 b.f5] 48)).cell? ⟨W.heap.size, 0, none⟩ = some (.int .i64 b.f0) := by
  exact (World.cell?_alloc_at _ _ _ _ (by simp [World.setCell])).trans rfl
 clear p0 p1 p2 p3 p4 p5 x0 x1 x2 x3 x4 x5 c0 c1 l1 l2 l3 hbk hbk2
 generalize (W.setCell ⟨gf, i, none⟩ (.bool true)).alloc (Obj.cells #[Value.int IntKind.i64 b.f0, Value.int IntKind.i64 b.f1, Value.int IntKind.i64 b.f2, Value.int IntKind.i64 b.f3, Value.int IntKind.i64 b.f4, Value.int IntKind.i64 b.f5] 48) = X at *
 refine (hG b X).mono ?_
 rintro e w1 ⟨rfl, hb1⟩
 have hw1 : W.heap.size + 1 ≤ w1.heap.size := by have := hb1.size; omega
 have d1 := (hb1.cell (p := ⟨W.heap.size, 0, none⟩) (by simp; omega)).trans d0
 have HP2 := Aside0.mk (HP1.out.step hb1)
 have HF2 := Aside0.mk (HF1.out.step hb1)
 clear hb1 d0 HP1 HF1 hsz1
 go_wp2_with fail
 have HP3 := Aside0.mk (HP2.out.step (below_alloc (Below.refl _ _) (Obj.cells #[Value.int IntKind.i64 b.f4, Value.int IntKind.i64 b.f5, Value.int IntKind.i64 b.f3] 89)))
 have HF3 := Aside0.mk (HF2.out.step (below_alloc (Below.refl _ _) (Obj.cells #[Value.int IntKind.i64 b.f4, Value.int IntKind.i64 b.f5, Value.int IntKind.i64 b.f3] 89)))
 have u0 : (w1.alloc (Obj.cells #[Value.int IntKind.i64 b.f4, Value.int IntKind.i64 b.f5, Value.int IntKind.i64 b.f3] 89)).cell? ⟨w1.heap.size, 0, none⟩ = some (.int .i64 b.f4) := by simp
 have u1 : (w1.alloc (Obj.cells #[Value.int IntKind.i64 b.f4, Value.int IntKind.i64 b.f5, Value.int IntKind.i64 b.f3] 89)).cell? ⟨w1.heap.size, 1, none⟩ = some (.int .i64 b.f5) := by simp
 have u2 : (w1.alloc (Obj.cells #[Value.int IntKind.i64 b.f4, Value.int IntKind.i64 b.f5, Value.int IntKind.i64 b.f3] 89)).cell? ⟨w1.heap.size, 2, none⟩ = some (.int .i64 b.f3) := by simp
 have d2 : (w1.alloc (Obj.cells #[Value.int IntKind.i64 b.f4, Value.int IntKind.i64 b.f5, Value.int IntKind.i64 b.f3] 89)).cell? ⟨W.heap.size, 0, none⟩ = some (.int .i64 b.f0) := (World.cell?_alloc_past _ _ _ (by omega)).trans d1
 have hw3 : w1.heap.size + 1 ≤ (w1.alloc (Obj.cells #[Value.int IntKind.i64 b.f4, Value.int IntKind.i64 b.f5, Value.int IntKind.i64 b.f3] 89)).heap.size := by simp
 clear HP2 HF2 d1
 generalize (w1.alloc (Obj.cells #[Value.int IntKind.i64 b.f4, Value.int IntKind.i64 b.f5, Value.int IntKind.i64 b.f3] 89)) = w3 at *
 obtain ⟨p0, p1, p2, p3, p4, p5⟩ := HP3.out.cells
 obtain ⟨l1, l2, l3⟩ := HP3.out.lt
 obtain ⟨As, cs, q0, q1, q2, q3, q4⟩ := HP3.out.stub_cell b.f0.toNat (by omega)
 have HC := Aside0.mk (fun W' (hW : Below w3.heap.size w3 W') => hC As cs (goals L b.f0.toNat) b.f4 b.f5 b.f3 W' (Kd.C_below q2 hW) q1)
 have HQ := Aside0.mk (And.intro q1 (And.intro q2 q3))
 clear q1 q2 q3
 have hbm1 := hbm.1
 have hbm2 := hbm.2
 go_still_tail 9, (by kernel_rfl)
 go_wp2_with (go_at_call 58; refine (HC.out _ ?_).mono ?_)
 ·exact below_drew (Below.refl _ _)
 rintro e w4 ⟨rfl, hb4⟩
 have hb5 : Below w3.heap.size w3 w4 := (below_drew (Below.refl _ _)).trans hb4
 have HP4 := Aside0.mk (HP3.out.step hb5)
 have hw4 : w3.heap.size ≤ w4.heap.size := hb5.size
 have HF4 := Aside0.mk (HF3.out.step hb5)
 have hgg := hasGoal_goals (L := L) (b := b) hbm1
 cases hh : hasGoal (goals L b.f0.toNat) ⟨b.f4, b.f5, b.f3⟩ with
 | true =>
  rw [hh] at hgg
  have H := Aside0.mk (show addStub items L b = L by unfold addStub; rw [← hgg]; rfl)
  clear hgg
  go_wp2
  go_end0
  refine ⟨rfl, ?_, HF4.out⟩
  rw [H.out]
  exact HP4.out
 | false =>
  rw [hh] at hgg
  have H := Aside0.mk (show addStub items L b = L ++ [newStub items L b] by unfold addStub; rw [← hgg]; rfl)
  have v0 := (hb5.cell (p := ⟨w1.heap.size, 0, none⟩) (by simp; omega)).trans u0
  have v1 := (hb5.cell (p := ⟨w1.heap.size, 1, none⟩) (by simp; omega)).trans u1
  have v2 := (hb5.cell (p := ⟨w1.heap.size, 2, none⟩) (by simp; omega)).trans u2
  have v3 := (hb5.cell (p := ⟨W.heap.size, 0, none⟩) (by simp; omega)).trans d2
  clear hgg hh u0 u1 u2 d2 p0 p1 p2 p3 p4 p5 q0 q4 l1 l2 l3 hb4 hb5 HP3 HF3 HC HQ
  obtain ⟨p0, p1, p2, p3, p4, p5⟩ := HP4.out.cells
  obtain ⟨l1, l2, l3⟩ := HP4.out.lt
  obtain ⟨As, cs, q0, q1, q2, q3, q4⟩ := HP4.out.stub_cell b.f0.toNat (by omega)
  have hgl : (goals L b.f0.toNat).length ≤ 400 := by rw [goals_length]; exact Nat.le_trans (cnt_le L _) hL
  obtain ⟨i0, hi0, hzz⟩ := Option.map_eq_some_iff.1 info89
  simp only [Prod.mk.injEq] at hzz
  obtain ⟨hz0, hz1, hz2⟩ := hzz
  have HI := Aside0.mk (And.intro hi0 (And.intro hz0 (And.intro hz1 hz2)))
  have hAsn : Aside0 (As = none → (goals L b.f0.toNat).length = 0) := ⟨fun h => by
   rcases Nat.eq_zero_or_pos (goals L b.f0.toNat).length with h0 | h0
   ·exact h0
   ·obtain ⟨ad, e, _⟩ := q2.2.2 h0; rw [h] at e; cases e⟩
  have hrd := Aside0.mk (fun W' (hW : Below w4.heap.size w4 W') => cells89_read (Kd.C_below q2 hW))
  have hl89 := Aside0.mk (cells89_length (goals L b.f0.toNat))
  have HQ := Aside0.mk (And.intro q1 (And.intro q2 q3))
  clear q2 q3 hi0 hz0 hz1 hz2
  generalize hgs : goals L b.f0.toNat = G at *
  replace hgs := Aside0.mk hgs
  go_wp2_with fail
  have hx4 : W.heap.size < w4.heap.size := by omega
  have hx5 : w1.heap.size < w4.heap.size := by omega
  refine start_ (n := 20) (S := (fun w' => w'.cell? ⟨g, 5, none⟩ = some (.slice (some ⟨gs, 0, none⟩) ni ni) ∧ w'.cell? ⟨W.heap.size, 0, none⟩ = some (.int .i64 b.f0) ∧ w'.cell? ⟨gs, b.f0.toNat, none⟩ = some (.slice As G.length cs) ∧ w'.cell? ⟨w1.heap.size, 0, none⟩ = some (.int .i64 b.f4) ∧ w'.cell? ⟨w1.heap.size, 1, none⟩ = some (.int .i64 b.f5) ∧ w'.cell? ⟨w1.heap.size, 2, none⟩ = some (.int .i64 b.f3))) (ds := [19]) #[false, false, false, false, false, false, false, false, false, false, false, false, false, false, false, false, false, false, false, false] (by kernel_rfl) rfl rfl ⟨p5, v3, q0, v0, v1, v2⟩ (fun hHeld => ?_)
  refine take_ (i := 0) (N := some 32) (v := ?_) (a' := ?_) #[true, false, false, false, false, false, false, false, false, false, false, false, false, false, false, false, false, false, false, false] rfl rfl (by kernel_rfl) (fun _ _ _ h => h) (Or.inl ⟨by rfl, ?_⟩) hHeld ?_ ?_
  rotate_left
  ·rintro w' ⟨s0, s1, s2, s3, s4, s5⟩
   go_simp
   with_reducible rfl
  rotate_left
  ·simp only [Act.put, List.setIfInBounds_toArray, List.set_cons_zero, List.set_cons_succ, i64_w, i32_w]
   rfl
  refine take_ (i := 1) (N := some 33) (v := ?_) (a' := ?_) #[true, true, false, false, false, false, false, false, false, false, false, false, false, false, false, false, false, false, false, false] rfl rfl (by kernel_rfl) (fun _ _ _ h => h) (Or.inl ⟨by rfl, ?_⟩) hHeld ?_ ?_
  rotate_left
  ·rintro w' ⟨s0, s1, s2, s3, s4, s5⟩
   go_simp
   with_reducible rfl
  rotate_left
  ·simp only [Act.put, List.setIfInBounds_toArray, List.set_cons_zero, List.set_cons_succ, i64_w, i32_w]
   rfl
  refine take_ (i := 2) (N := some 34) (v := ?_) (a' := ?_) #[true, true, true, false, false, false, false, false, false, false, false, false, false, false, false, false, false, false, false, false] rfl rfl (by kernel_rfl) (fun _ _ _ h => h) (Or.inl ⟨by rfl, ?_⟩) hHeld ?_ ?_
  rotate_left
  ·rintro w' ⟨s0, s1, s2, s3, s4, s5⟩
   go_simp
   with_reducible rfl
  rotate_left
  ·simp only [Act.put, List.setIfInBounds_toArray, List.set_cons_zero, List.set_cons_succ, i64_w, i32_w]
   rfl
  refine take_ (i := 3) (N := some 35) (v := ?_) (a' := ?_) #[true, true, true, true, false, false, false, false, false, false, false, false, false, false, false, false, false, false, false, false] rfl rfl (by kernel_rfl) (fun _ _ _ h => h) (Or.inl ⟨by rfl, ?_⟩) hHeld ?_ ?_
  rotate_left
  ·rintro w' ⟨s0, s1, s2, s3, s4, s5⟩
   go_simp
   with_reducible rfl
  rotate_left
  ·simp only [Act.put, List.setIfInBounds_toArray, List.set_cons_zero, List.set_cons_succ, i64_w, i32_w]
   rfl
  refine take_ (i := 4) (N := some 36) (v := ?_) (a' := ?_) #[true, true, true, true, true, false, false, false, false, false, false, false, false, false, false, false, false, false, false, false] rfl rfl (by kernel_rfl) (fun _ _ _ h => h) (Or.inl ⟨by rfl, ?_⟩) hHeld ?_ ?_
  rotate_left
  ·rintro w' ⟨s0, s1, s2, s3, s4, s5⟩
   go_simp
   with_reducible rfl
  rotate_left
  ·simp only [Act.put, List.setIfInBounds_toArray, List.set_cons_zero, List.set_cons_succ, i64_w, i32_w]
   rfl
  refine take_ (i := 5) (N := some 37) (v := ?_) (a' := ?_) #[true, true, true, true, true, true, false, false, false, false, false, false, false, false, false, false, false, false, false, false] rfl rfl (by kernel_rfl) (fun _ _ _ h => h) (Or.inl ⟨by rfl, ?_⟩) hHeld ?_ ?_
  rotate_left
  ·rintro w' ⟨s0, s1, s2, s3, s4, s5⟩
   go_simp
   with_reducible rfl
  rotate_left
  ·simp only [Act.put, List.setIfInBounds_toArray, List.set_cons_zero, List.set_cons_succ, i64_w, i32_w]
   rfl
  refine take_ (i := 6) (N := some 38) (v := ?_) (a' := ?_) #[true, true, true, true, true, true, true, false, false, false, false, false, false, false, false, false, false, false, false, false] rfl rfl (by kernel_rfl) (fun _ _ _ h => h) (Or.inl ⟨by rfl, ?_⟩) hHeld ?_ ?_
  rotate_left
  ·rintro w' ⟨s0, s1, s2, s3, s4, s5⟩
   go_simp
   with_reducible rfl
  rotate_left
  ·simp only [Act.put, List.setIfInBounds_toArray, List.set_cons_zero, List.set_cons_succ, i64_w, i32_w]
   rfl
  refine take_ (i := 7) (N := some 39) (v := ?_) (a' := ?_) #[true, true, true, true, true, true, true, true, false, false, false, false, false, false, false, false, false, false, false, false] rfl rfl (by kernel_rfl) (fun _ _ _ h => h) (Or.inl ⟨by rfl, ?_⟩) hHeld ?_ ?_
  rotate_left
  ·rintro w' ⟨s0, s1, s2, s3, s4, s5⟩
   go_simp
   with_reducible rfl
  rotate_left
  ·simp only [Act.put, List.setIfInBounds_toArray, List.set_cons_zero, List.set_cons_succ, i64_w, i32_w]
   rfl
  refine take_ (i := 8) (N := some 40) (v := ?_) (a' := ?_) #[true, true, true, true, true, true, true, true, true, false, false, false, false, false, false, false, false, false, false, false] rfl rfl (by kernel_rfl) (fun _ _ _ h => h) (Or.inl ⟨by rfl, ?_⟩) hHeld ?_ ?_
  rotate_left
  ·rintro w' ⟨s0, s1, s2, s3, s4, s5⟩
   go_simp
   with_reducible rfl
  rotate_left
  ·simp only [Act.put, List.setIfInBounds_toArray, List.set_cons_zero, List.set_cons_succ, i64_w, i32_w]
   rfl
  refine take_ (i := 9) (N := some 41) (v := ?_) (a' := ?_) #[true, true, true, true, true, true, true, true, true, true, false, false, false, false, false, false, false, false, false, false] rfl rfl (by kernel_rfl) (fun _ _ _ h => h) (Or.inl ⟨by rfl, ?_⟩) hHeld ?_ ?_
  rotate_left
  ·rintro w' ⟨s0, s1, s2, s3, s4, s5⟩
   go_simp
   with_reducible rfl
  rotate_left
  ·simp only [Act.put, List.setIfInBounds_toArray, List.set_cons_zero, List.set_cons_succ, i64_w, i32_w]
   rfl
  refine take_ (i := 10) (N := some 42) (v := ?_) (a' := ?_) #[true, true, true, true, true, true, true, true, true, true, true, false, false, false, false, false, false, false, false, false] rfl rfl (by kernel_rfl) (fun _ _ _ h => h) (Or.inl ⟨by rfl, ?_⟩) hHeld ?_ ?_
  rotate_left
  ·rintro w' ⟨s0, s1, s2, s3, s4, s5⟩
   go_simp
   with_reducible rfl
  rotate_left
  ·simp only [Act.put, List.setIfInBounds_toArray, List.set_cons_zero, List.set_cons_succ, i64_w, i32_w]
   rfl
  refine take_ (i := 11) (N := some 43) (v := ?_) (a' := ?_) #[true, true, true, true, true, true, true, true, true, true, true, true, false, false, false, false, false, false, false, false] rfl rfl (by kernel_rfl) (fun _ _ _ h => h) (Or.inl ⟨by rfl, ?_⟩) hHeld ?_ ?_
  rotate_left
  ·rintro w' ⟨s0, s1, s2, s3, s4, s5⟩
   go_simp
   with_reducible rfl
  rotate_left
  ·simp only [Act.put, List.setIfInBounds_toArray, List.set_cons_zero, List.set_cons_succ, i64_w, i32_w]
   rfl
  refine take_ (i := 12) (N := some 44) (v := ?_) (a' := ?_) #[true, true, true, true, true, true, true, true, true, true, true, true, true, false, false, false, false, false, false, false] rfl rfl (by kernel_rfl) (fun _ _ _ h => h) (Or.inl ⟨by rfl, ?_⟩) hHeld ?_ ?_
  rotate_left
  ·rintro w' ⟨s0, s1, s2, s3, s4, s5⟩
   go_simp
   with_reducible rfl
  rotate_left
  ·simp only [Act.put, List.setIfInBounds_toArray, List.set_cons_zero, List.set_cons_succ, i64_w, i32_w]
   rfl
  refine take_ (i := 13) (N := some 45) (v := ?_) (a' := ?_) #[true, true, true, true, true, true, true, true, true, true, true, true, true, true, false, false, false, false, false, false] rfl rfl (by kernel_rfl) (fun _ _ _ h => h) (Or.inl ⟨by rfl, ?_⟩) hHeld ?_ ?_
  rotate_left
  ·rintro w' ⟨s0, s1, s2, s3, s4, s5⟩
   go_simp
   with_reducible rfl
  rotate_left
  ·simp only [Act.put, List.setIfInBounds_toArray, List.set_cons_zero, List.set_cons_succ, i64_w, i32_w]
   rfl
  refine take_ (i := 15) (N := some 47) (v := ?_) (a' := ?_) #[true, true, true, true, true, true, true, true, true, true, true, true, true, true, false, true, false, false, false, false] rfl rfl (by kernel_rfl) (fun _ _ _ h => h) (Or.inl ⟨by rfl, ?_⟩) hHeld ?_ ?_
  rotate_left
  ·rintro w' ⟨s0, s1, s2, s3, s4, s5⟩
   go_simp
   with_reducible rfl
  rotate_left
  ·simp only [Act.put, List.setIfInBounds_toArray, List.set_cons_zero, List.set_cons_succ, i64_w, i32_w]
   rfl
  have hx4 : W.heap.size < w4.heap.size := by omega
  have hx5 : w1.heap.size < w4.heap.size := by omega
  refine two_ (i := 14) (j := 16) (Ni := some 46) (Nj := some 48) #[true, true, true, true, true, true, true, true, true, true, true, true, true, true, true, true, false, false, false, false] #[true, true, true, true, true, true, true, true, true, true, true, true, true, true, false, true, true, false, false, false] rfl rfl rfl rfl (by kernel_rfl) (by decide) (by decide) (fun K hK => ?_) (fun K hK => ?_)
  ·refine goes_ Try.func59 (by kernel_rfl) rfl #[.slice As G.length cs] (by rfl) rfl rfl (by (try simp only [List.map_toArray, List.map_cons, List.map_nil]); rfl) ?_
   refine (clip_calls As G.length cs _ HQ.out.1 (by omega)).mono ?_
   rintro e w' ⟨rfl, rfl⟩
   refine ⟨_, rfl, ?_⟩
   refine hK.out _ _ hHeld (fun hHeld => ?_)
   clear hK K
   refine norm_ (a' := ?_) ?_ ?_
   rotate_left
   ·simp only [Act.put, List.setIfInBounds_toArray, List.set_cons_zero, List.set_cons_succ, i64_w, i32_w]
    rfl
   refine one_ (i := 16) (N := some 48) #[true, true, true, true, true, true, true, true, true, true, true, true, true, true, true, true, true, false, false, false] rfl rfl (by kernel_rfl) (by decide) (fun K hK => ?_)
   refine value_ (v := .slice (some ⟨w4.heap.size, 0, none⟩) 1 1) (w1 := w4.drew.alloc (Obj.cells #[Value.int IntKind.i64 b.f4, Value.int IntKind.i64 b.f5, Value.int IntKind.i64 b.f3] 89)) (by rfl) rfl ?_ ?_
   ·go_simp
   refine hK.out _ _ ?_ (fun hHeld => ?_)
   ·exact ⟨(World.cell?_alloc_past _ _ _ l1).trans p5, (World.cell?_alloc_past _ _ _ hx4).trans v3, (World.cell?_alloc_past _ _ _ l3).trans q0, (World.cell?_alloc_past _ _ _ hx5).trans v0, (World.cell?_alloc_past _ _ _ hx5).trans v1, (World.cell?_alloc_past _ _ _ hx5).trans v2⟩
   clear hK K
   refine norm_ (a' := ?_) ?_ ?_
   rotate_left
   ·simp only [Act.put, List.setIfInBounds_toArray, List.set_cons_zero, List.set_cons_succ, i64_w, i32_w]
    rfl
   refine one_ (i := 17) (N := some 49) #[true, true, true, true, true, true, true, true, true, true, true, true, true, true, true, true, true, true, false, false] rfl rfl (by kernel_rfl) (by decide) (fun K hK => ?_)
   refine step_append_grows (by rfl) (.tmp 46) (.tmp 48) 87 (by rfl) 89 i0 _ 3 24 Try.underlying87 HI.out.1 HI.out.2.1 HI.out.2.2.1 HI.out.2.2.2 rfl (by decide) As G.length G.length (cells89 G) (by rfl) (fun h => ⟨hAsn.out h, hAsn.out h⟩) hl89.out (hrd.out _ (by repeat (first | exact Below.refl _ _ | apply below_alloc | apply pw_below_drewN | apply below_drew))) ⟨w4.heap.size, 0, none⟩ 1 1 [.int .i64 b.f4, .int .i64 b.f5, .int .i64 b.f3] (by rfl) (by rfl) (World.news_of_block (cs := #[.int .i64 b.f4, .int .i64 b.f5, .int .i64 b.f3]) (t := 89) (fr := (0, 0)) (heap_alloc_new w4 _)) (by simp [Value.oneCell']) (by omega) (by simp only [maxLen]; omega) (by omega) ?_
   intro v' w5 hown5 hgrow
   have hX : Below w4.heap.size w4 w5 := (show Below w4.heap.size w4 (w4.drew.alloc (Obj.cells #[Value.int IntKind.i64 b.f4, Value.int IntKind.i64 b.f5, Value.int IntKind.i64 b.f3] 89)) by repeat (first | exact Below.refl _ _ | apply below_alloc | apply pw_below_drewN | apply below_drew)).trans (grown_below' hgrow (by simp))
   have fz := (hX.frozen (p := ⟨gs, b.f0.toNat, none⟩) l3).trans q4
   have cz := (hX.cell (p := ⟨gs, b.f0.toNat, none⟩) l3).trans q0
   obtain ⟨gg, cap5, rfl, hgb5, hgl5⟩ := hown5.form (by omega)
   refine hK.out _ _ ⟨(hX.cell l1).trans p5, (hX.cell hx4).trans v3, cz, (hX.cell hx5).trans v0, (hX.cell hx5).trans v1, (hX.cell hx5).trans v2⟩ (fun hHeld => ?_)
   clear hK K
   refine norm_ (a' := ?_) ?_ ?_
   rotate_left
   ·simp only [Act.put, List.setIfInBounds_toArray, List.set_cons_zero, List.set_cons_succ, i64_w, i32_w]
    rfl
   refine one_ (i := 18) (N := some 50) #[true, true, true, true, true, true, true, true, true, true, true, true, true, true, true, true, true, true, true, false] rfl rfl (by kernel_rfl) (by decide) (fun K hK => ?_)
   refine value_ (v := .pointer (some ⟨gs, b.f0.toNat, none⟩)) (w1 := w5) (by rfl) rfl ?_ ?_
   ·go_simp
   refine hK.out _ _ hHeld (fun hHeld => ?_)
   clear hK K
   refine norm_ (a' := ?_) ?_ ?_
   rotate_left
   ·simp only [Act.put, List.setIfInBounds_toArray, List.set_cons_zero, List.set_cons_succ, i64_w, i32_w]
    rfl
   refine last_ (i := 19) (N := none) #[true, true, true, true, true, true, true, true, true, true, true, true, true, true, true, true, true, true, true, true] rfl rfl (by kernel_rfl) (by decide) (fun K hK => ?_)
   refine skip_ (w1 := w5.setCell ⟨gs, b.f0.toNat, none⟩ (.slice (some ⟨gg, 0, none⟩) (G.length + 1) cap5)) (by rfl) rfl ?_ ?_
   ·go_simp
   refine hK.out _ _ ?_
   clear hK K
   refine done_ (by kernel_rfl) ?_
   go_wp2
   go_end0
   refine ⟨rfl, ?_, ?_⟩
   ·rw [H.out]
    exact HP4.out.setStub hX (newStub items L b) b.f0.toNat (by omega) (by simp only [newStub]; omega) (by rw [hgs.out]; exact own_lower hown5 (by simp)) (by rw [hgs.out]) (by rw [hgs.out]; omega)
   ·exact (HF4.out.step hX).set_gs _ _
  ·refine value_ (v := .slice (some ⟨w4.heap.size, 0, none⟩) 1 1) (w1 := w4.drew.alloc (Obj.cells #[Value.int IntKind.i64 b.f4, Value.int IntKind.i64 b.f5, Value.int IntKind.i64 b.f3] 89)) (by rfl) rfl ?_ ?_
   ·go_simp
   refine hK.out _ _ ?_ (fun hHeld => ?_)
   ·exact ⟨(World.cell?_alloc_past _ _ _ l1).trans p5, (World.cell?_alloc_past _ _ _ hx4).trans v3, (World.cell?_alloc_past _ _ _ l3).trans q0, (World.cell?_alloc_past _ _ _ hx5).trans v0, (World.cell?_alloc_past _ _ _ hx5).trans v1, (World.cell?_alloc_past _ _ _ hx5).trans v2⟩
   clear hK K
   refine norm_ (a' := ?_) ?_ ?_
   rotate_left
   ·simp only [Act.put, List.setIfInBounds_toArray, List.set_cons_zero, List.set_cons_succ, i64_w, i32_w]
    rfl
   refine one_ (i := 14) (N := some 46) #[true, true, true, true, true, true, true, true, true, true, true, true, true, true, true, true, true, false, false, false] rfl rfl (by kernel_rfl) (by decide) (fun K hK => ?_)
   refine goes_ Try.func59 (by kernel_rfl) rfl #[.slice As G.length cs] (by rfl) rfl rfl (by (try simp only [List.map_toArray, List.map_cons, List.map_nil]); rfl) ?_
   refine (clip_calls As G.length cs _ HQ.out.1 (by omega)).mono ?_
   rintro e w' ⟨rfl, rfl⟩
   refine ⟨_, rfl, ?_⟩
   refine hK.out _ _ hHeld (fun hHeld => ?_)
   clear hK K
   refine norm_ (a' := ?_) ?_ ?_
   rotate_left
   ·simp only [Act.put, List.setIfInBounds_toArray, List.set_cons_zero, List.set_cons_succ, i64_w, i32_w]
    rfl
   refine one_ (i := 17) (N := some 49) #[true, true, true, true, true, true, true, true, true, true, true, true, true, true, true, true, true, true, false, false] rfl rfl (by kernel_rfl) (by decide) (fun K hK => ?_)
   refine step_append_grows (by rfl) (.tmp 46) (.tmp 48) 87 (by rfl) 89 i0 _ 3 24 Try.underlying87 HI.out.1 HI.out.2.1 HI.out.2.2.1 HI.out.2.2.2 rfl (by decide) As G.length G.length (cells89 G) (by rfl) (fun h => ⟨hAsn.out h, hAsn.out h⟩) hl89.out (hrd.out _ (by repeat (first | exact Below.refl _ _ | apply below_alloc | apply pw_below_drewN | apply below_drew))) ⟨w4.heap.size, 0, none⟩ 1 1 [.int .i64 b.f4, .int .i64 b.f5, .int .i64 b.f3] (by rfl) (by rfl) (World.news_of_block (cs := #[.int .i64 b.f4, .int .i64 b.f5, .int .i64 b.f3]) (t := 89) (fr := (0, 0)) (heap_alloc_new w4 _)) (by simp [Value.oneCell']) (by omega) (by simp only [maxLen]; omega) (by omega) ?_
   intro v' w5 hown5 hgrow
   have hX : Below w4.heap.size w4 w5 := (show Below w4.heap.size w4 (w4.drew.alloc (Obj.cells #[Value.int IntKind.i64 b.f4, Value.int IntKind.i64 b.f5, Value.int IntKind.i64 b.f3] 89)) by repeat (first | exact Below.refl _ _ | apply below_alloc | apply pw_below_drewN | apply below_drew)).trans (grown_below' hgrow (by simp))
   have fz := (hX.frozen (p := ⟨gs, b.f0.toNat, none⟩) l3).trans q4
   have cz := (hX.cell (p := ⟨gs, b.f0.toNat, none⟩) l3).trans q0
   obtain ⟨gg, cap5, rfl, hgb5, hgl5⟩ := hown5.form (by omega)
   refine hK.out _ _ ⟨(hX.cell l1).trans p5, (hX.cell hx4).trans v3, cz, (hX.cell hx5).trans v0, (hX.cell hx5).trans v1, (hX.cell hx5).trans v2⟩ (fun hHeld => ?_)
   clear hK K
   refine norm_ (a' := ?_) ?_ ?_
   rotate_left
   ·simp only [Act.put, List.setIfInBounds_toArray, List.set_cons_zero, List.set_cons_succ, i64_w, i32_w]
    rfl
   refine one_ (i := 18) (N := some 50) #[true, true, true, true, true, true, true, true, true, true, true, true, true, true, true, true, true, true, true, false] rfl rfl (by kernel_rfl) (by decide) (fun K hK => ?_)
   refine value_ (v := .pointer (some ⟨gs, b.f0.toNat, none⟩)) (w1 := w5) (by rfl) rfl ?_ ?_
   ·go_simp
   refine hK.out _ _ hHeld (fun hHeld => ?_)
   clear hK K
   refine norm_ (a' := ?_) ?_ ?_
   rotate_left
   ·simp only [Act.put, List.setIfInBounds_toArray, List.set_cons_zero, List.set_cons_succ, i64_w, i32_w]
    rfl
   refine last_ (i := 19) (N := none) #[true, true, true, true, true, true, true, true, true, true, true, true, true, true, true, true, true, true, true, true] rfl rfl (by kernel_rfl) (by decide) (fun K hK => ?_)
   refine skip_ (w1 := w5.setCell ⟨gs, b.f0.toNat, none⟩ (.slice (some ⟨gg, 0, none⟩) (G.length + 1) cap5)) (by rfl) rfl ?_ ?_
   ·go_simp
   refine hK.out _ _ ?_
   clear hK K
   refine done_ (by kernel_rfl) ?_
   go_wp2
   go_end0
   refine ⟨rfl, ?_, ?_⟩
   ·rw [H.out]
    exact HP4.out.setStub hX (newStub items L b) b.f0.toNat (by omega) (by simp only [newStub]; omega) (by rw [hgs.out]; exact own_lower hown5 (by simp)) (by rw [hgs.out]) (by rw [hgs.out]; omega)
   ·exact (HF4.out.step hX).set_gs _ _
end Go.Proofs.Ytogcgcjhoebooaa
end
section
set_option linter.unusedVariables false
set_option linter.unusedSimpArgs false
namespace Go.Proofs.Ytogcgcjhoebooaa
open Go.RowKit Go.Proofs.YtogcgcjhoebooaaW.PrintWords Go.Proofs.YtogcgcjhoebooaaW.PrintLast Go.Proofs.Ytogcgcjhoebooaa.PVeneerMatchesSpec
def stubOff (items : List S57) (L : List S54) (b : S48) : Int := (rd_T57 items b.f0).f1 + 5 * idxOf (goals L b.f0.toNat) ⟨b.f4, b.f5, b.f3⟩
theorem idxOf_bd (xs : List S89) (g : S89) (h : xs.length ≤ 400) : -1 ≤ idxOf xs g ∧ idxOf xs g ≤ 400 := by
  unfold idxOf
  split
  · have := List.findIdx_le_length (xs := xs) (p := fun x => decide (x.f0 = g.f0 ∧ x.f1 = g.f1 ∧ x.f2 = g.f2)); omega
  · omega
set_option maxHeartbeats 4000000 in
set_option maxRecDepth 100000 in
theorem stub_calls (hG : GoalCalls) (hX : IndexCalls) {w W : World} {g gf gs : Nat} {O R B : Value} {AI : Option Addr} {cI : Nat} {far : List Bool} {L : List S54} {items : List S57} {n : Nat} {b : S48}
    (hp : Pl w W g gf gs #[O, R, .slice AI items.length cI, B] items.length far L) (hI : Kd.C k57 w AI items.length items) (hvi : ValidI items n) (hb : OkB items.length b) (hL : L.length ≤ 400) :
    Calls Try.prog 60 #[.pointer (some ⟨g, 0, none⟩), .agg #[.int .i64 b.f0, .int .i64 b.f1, .int .i64 b.f2, .int .i64 b.f3, .int .i64 b.f4, .int .i64 b.f5]] W fun e W' => e = .returned (.int .i64 (stubOff items L b)) ∧ Below W.heap.size W W' := by
  obtain ⟨p0, p1, p2, p3, p4, p5⟩ := hp.cells
  obtain ⟨l1, l2, l3⟩ := hp.lt
  obtain ⟨q1, q2⟩ := hb.f0
  have hvl := hvi.len
  obtain ⟨bk, o, e, hbk, hx⟩ := open57 (Kd.C_below hI hp.below) (by omega)
  subst e
  obtain ⟨x0, x1, x2⟩ := hx b.f0.toNat (by omega)
  obtain ⟨_, _, y1, y2, _, _⟩ := hvi.x b.f0.toNat (by omega)
  obtain ⟨As, cs, s0, s1, s2, s3, s4⟩ := hp.stub_cell b.f0.toNat (by omega)
  have HX := Aside0.mk (fun W' (hW : Below W.heap.size W W') => hX As cs (goals L b.f0.toNat) b.f4 b.f5 b.f3 W' (Kd.C_below s2 hW) s1)
  have HV := Aside0.mk (show stubOff items L b = (items.getD b.f0.toNat z57).f1 + 5 * idxOf (goals L b.f0.toNat) ⟨b.f4, b.f5, b.f3⟩ from rfl)
  have hid := idxOf_bd (goals L b.f0.toNat) ⟨b.f4, b.f5, b.f3⟩ (by rw [goals_length]; exact Nat.le_trans (cnt_le L _) hL)
  have hu48 := Try.underlying48
  clear hx s1 s2 s3 s4 x0 x2
  generalize idxOf (goals L b.f0.toNat) ⟨b.f4, b.f5, b.f3⟩ = ix at *
  generalize (items.getD b.f0.toNat z57).f1 = sz at *
  generalize hgl : (goals L b.f0.toNat).length = gl at *
  clear hgl
  go_enter Try.func60, Try.ntmps60
  go_wp2_with fail
  have d0 : ∀ j u, #[Value.int IntKind.i64 b.f0, Value.int IntKind.i64 b.f1, Value.int IntKind.i64 b.f2, Value.int IntKind.i64 b.f3, Value.int IntKind.i64 b.f4, Value.int IntKind.i64 b.f5][j]? = some u → (W.alloc (Obj.cells #[Value.int IntKind.i64 b.f0, Value.int IntKind.i64 b.f1, Value.int IntKind.i64 b.f2, Value.int IntKind.i64 b.f3, Value.int IntKind.i64 b.f4, Value.int IntKind.i64 b.f5] 48)).cell? ⟨W.heap.size, j, none⟩ = some u := fun j u h => by rw [World.cell?_alloc_at _ _ _ _ rfl]; exact h
  have c0 := d0 0 _ rfl
  have c1 := d0 1 _ rfl
  have c2 := d0 2 _ rfl
  have c3 := d0 3 _ rfl
  have c4 := d0 4 _ rfl
  have c5 := d0 5 _ rfl
  have hb1 : Below W.heap.size W (W.alloc (Obj.cells #[Value.int IntKind.i64 b.f0, Value.int IntKind.i64 b.f1, Value.int IntKind.i64 b.f2, Value.int IntKind.i64 b.f3, Value.int IntKind.i64 b.f4, Value.int IntKind.i64 b.f5] 48)) := below_alloc (Below.refl _ _) _
  have hs1 : (W.alloc (Obj.cells #[Value.int IntKind.i64 b.f0, Value.int IntKind.i64 b.f1, Value.int IntKind.i64 b.f2, Value.int IntKind.i64 b.f3, Value.int IntKind.i64 b.f4, Value.int IntKind.i64 b.f5] 48)).heap.size = W.heap.size + 1 := by simp
  generalize W.alloc (Obj.cells #[Value.int IntKind.i64 b.f0, Value.int IntKind.i64 b.f1, Value.int IntKind.i64 b.f2, Value.int IntKind.i64 b.f3, Value.int IntKind.i64 b.f4, Value.int IntKind.i64 b.f5] 48) = X at *
  have r2 := (hb1.cell (p := ⟨g, 2, none⟩) l1).trans p2
  have r5 := (hb1.cell (p := ⟨g, 5, none⟩) l1).trans p5
  have r6 := (hb1.cell (p := ⟨bk, o + b.f0.toNat * 3 + 1, none⟩) hbk).trans x1
  have r7 := (hb1.cell (p := ⟨gs, b.f0.toNat, none⟩) l3).trans s0
  replace hb1 := Aside0.mk hb1
  have hs2 : Aside0 (X.heap.size = W.heap.size + 1) := ⟨hs1⟩
  have gX : g < X.heap.size := by omega
  have bX : bk < X.heap.size := by omega
  have sX : gs < X.heap.size := by omega
  have wX : W.heap.size < X.heap.size := by omega
  clear d0 p0 p1 p2 p3 p4 p5 s0 x1 hs1
  go_region_held3 (fun w' => w'.cell? ⟨g, 2, none⟩ = some (.slice (some ⟨bk, o, none⟩) items.length cI) ∧ w'.cell? ⟨g, 5, none⟩ = some (.slice (some ⟨gs, 0, none⟩) items.length items.length) ∧ w'.cell? ⟨bk, o + b.f0.toNat * 3 + 1, none⟩ = some (.int .i64 sz) ∧ w'.cell? ⟨gs, b.f0.toNat, none⟩ = some (.slice As gl cs) ∧
      w'.cell? ⟨W.heap.size, 0, none⟩ = some (.int .i64 b.f0) ∧ w'.cell? ⟨W.heap.size, 1, none⟩ = some (.int .i64 b.f1) ∧ w'.cell? ⟨W.heap.size, 2, none⟩ = some (.int .i64 b.f2) ∧ w'.cell? ⟨W.heap.size, 3, none⟩ = some (.int .i64 b.f3) ∧ w'.cell? ⟨W.heap.size, 4, none⟩ = some (.int .i64 b.f4) ∧ w'.cell? ⟨W.heap.size, 5, none⟩ = some (.int .i64 b.f5))
    (first
      | go_keep
      | (go_split_ands
         refine ⟨(hc2.cell gX).trans r2, (hc2.cell gX).trans r5, (hc2.cell bX).trans r6, (hc2.cell sX).trans r7, (hc2.cell wX).trans c0, (hc2.cell wX).trans c1, (hc2.cell wX).trans c2, (hc2.cell wX).trans c3, (hc2.cell wX).trans c4, (hc2.cell wX).trans c5⟩)
      | (go_split_ands
         refine ⟨(hc1.cell gX).trans r2, (hc1.cell gX).trans r5, (hc1.cell bX).trans r6, (hc1.cell sX).trans r7, (hc1.cell wX).trans c0, (hc1.cell wX).trans c1, (hc1.cell wX).trans c2, (hc1.cell wX).trans c3, (hc1.cell wX).trans c4, (hc1.cell wX).trans c5⟩))
    (first
      | (go_at_call 57; refine (hG b _).mono ?_; rintro e w1 ⟨rfl, hc0⟩; have hc1 : Below X.heap.size X w1 := (below_drew (Below.refl _ _)).trans hc0)
      | (go_at_call 63; refine (HX.out _ (hb1.out.trans (hc1.mono (by omega)))).mono ?_; rintro e w2 ⟨rfl, hc3⟩; have hc2 : Below X.heap.size X w2 := hc1.trans (hc3.mono hc1.size)))
  go_wp2
  go_ret
  refine ⟨ret_i ?_, hb1.out.trans (hc2.mono hb1.out.size)⟩
  rw [HV.out, i64_w, i64_w]
  unfold wrap64
  omega
set_option maxHeartbeats 4000000 in
set_option maxRecDepth 100000 in
theorem check_calls (hG : GoalCalls) (hX : IndexCalls) (hN : NumCalls 55) (hA : AddrCalls) {w W : World} {g gf gs : Nat} {O R : Value} {AI AB AA : Option Addr} {cI cB cA : Nat} {far : List Bool} {L : List S54} {items : List S57} {bs : List S48} {a : List Int} {n : Nat}
    (hp : Pl w W g gf gs #[O, R, .slice AI items.length cI, .slice AB bs.length cB] items.length far L) (hI : Kd.C k57 w AI items.length items) (hB : Kd.C k48 w AB bs.length bs) (hvi : ValidI items n) (hL : L.length ≤ 400) (hbl : bs.length ≤ 400) (hfl : far.length = bs.length)
    (hob : ∀ i, i < bs.length → OkB items.length (bs.getD i z48)) (ha : OkA items.length a) (hAC : Kd.C (Kd.int .i64) W AA a.length a) (hcA : a.length ≤ cA)
    (hck : ∀ i, i < bs.length → far.getD i false = true → stubOff items L (bs.getD i z48) = (L.getD (stubAt L (bs.getD i z48)) z54).f1) :
    Calls Try.prog 51 #[.pointer (some ⟨g, 0, none⟩), .slice AA a.length cA] W fun e W' => e = .returned (match scan (checkCode bs a far L) bs.length 0 with | some (i, c) => .agg #[.int .i64 c, .int .i64 (1000 + (i : Int))] | none => .agg #[.int .i64 0, .int .i64 0]) ∧ Below W.heap.size W W' := by
  have HP := Aside0.mk hp
  have HB := Aside0.mk (Kd.C_below hB hp.below)
  have hm := HB.out.2.1
  have hu29 := Try.underlying29
  have hu48 := Try.underlying48
  obtain ⟨p0, p1, p2, p3, p4, p5⟩ := hp.cells
  obtain ⟨l1, l2, l3⟩ := hp.lt
  generalize hV : (match scan (checkCode bs a far L) bs.length 0 with | some (i, c) => Value.agg #[.int .i64 c, .int .i64 (1000 + (i : Int))] | none => .agg #[.int .i64 0, .int .i64 0]) = V
  replace hV := Aside0.mk hV
  go_enter Try.func51, Try.ntmps51
  go_wp2_with fail
  have z0 : (W.alloc (Obj.cells #[Value.int IntKind.i64 0, Value.int IntKind.i64 0] 29)).cell? ⟨W.heap.size, 0, none⟩ = some (.int .i64 0) := by simp
  have z1 : (W.alloc (Obj.cells #[Value.int IntKind.i64 0, Value.int IntKind.i64 0] 29)).cell? ⟨W.heap.size, 1, none⟩ = some (.int .i64 0) := by simp
  have z2 : ∀ j, (W.alloc (Obj.cells #[Value.int IntKind.i64 0, Value.int IntKind.i64 0] 29)).frozen? ⟨W.heap.size, j, none⟩ = false := by intro j; simp
  have hW0 : Below W.heap.size W (W.alloc (Obj.cells #[Value.int IntKind.i64 0, Value.int IntKind.i64 0] 29)) := below_alloc (Below.refl _ _) _
  have hs0 : (W.alloc (Obj.cells #[Value.int IntKind.i64 0, Value.int IntKind.i64 0] 29)).heap.size = W.heap.size + 1 := by simp
  generalize W.alloc (Obj.cells #[Value.int IntKind.i64 0, Value.int IntKind.i64 0] 29) = w0 at *
  have Z := Aside0.mk (And.intro z0 (And.intro z1 (And.intro z2 (And.intro hW0 hs0))))
  clear z0 z1 z2 hW0 hs0 p0 p1 p2 p3 p4 p5
  go_loopg [16] bs.length (fun k v16 wr => ∃ i : Nat, i ≤ bs.length ∧ v16 = .int .i64 i ∧ Aside0 (k = bs.length - i) ∧ Aside0 (scan (checkCode bs a far L) bs.length 0 = scan (checkCode bs a far L) (bs.length - i) i) ∧ Aside0 (Below w0.heap.size w0 wr))
  case atStart => exact ⟨0, Nat.zero_le _, rfl, ⟨rfl⟩, ⟨rfl⟩, ⟨Below.refl _ _⟩⟩
  case round =>
    obtain ⟨i, hi, rfl, hk, hsc, hb⟩ := hrel
    obtain ⟨z0, z1, z2, hW0, hs0⟩ := Z.out
    have hWr : Aside0 (Below W.heap.size W wr) := ⟨hW0.trans (hb.out.mono (by omega))⟩
    have hsr : W.heap.size + 1 ≤ wr.heap.size := by have := hb.out.size; omega
    have hsr' : W.heap.size < wr.heap.size := by omega
    have y0 := (hb.out.cell (p := ⟨W.heap.size, 0, none⟩) (by simp; omega)).trans z0
    have y1 := (hb.out.cell (p := ⟨W.heap.size, 1, none⟩) (by simp; omega)).trans z1
    have y2 := (hb.out.frozen (p := ⟨W.heap.size, 0, none⟩) (by simp; omega)).trans (z2 0)
    have y3 := (hb.out.frozen (p := ⟨W.heap.size, 1, none⟩) (by simp; omega)).trans (z2 1)
    have HPr := Aside0.mk (hp.step hWr.out)
    clear z0 z1 z2 hW0 hs0
    by_cases hlt : i < bs.length
    · obtain ⟨p0, p1, p2, p3, p4, p5⟩ := HPr.out.cells
      obtain ⟨l1, l2, l3⟩ := HPr.out.lt
      obtain ⟨f0, f1⟩ := HPr.out.far_cell i (by omega)
      obtain ⟨bk, o, e, hbk, hx⟩ := open48 (Kd.C_below HB.out hWr.out) (by omega)
      subst e
      obtain ⟨x0, x1, x2, x3, x4, x5⟩ := hx i hlt
      have hok := hob i hlt
      have hgc : checkCode bs a far L i = (if far.getD i false = false then 0 else if fits (bs.getD i z48).f2 (rd a (bs.getD i z48).f0 + (L.getD (stubAt L (bs.getD i z48)) z54).f1) 0 (rd a (bs.getD i z48).f0 + (bs.getD i z48).f1) = false then 16 else if 0 ≤ addrOf a (bs.getD i z48).f4 (bs.getD i z48).f5 + (bs.getD i z48).f3 ∧ addrOf a (bs.getD i z48).f4 (bs.getD i z48).f5 + (bs.getD i z48).f3 ≤ 4294967295 then 0 else 16) := rfl
      have hck' := hck i hlt
      have go_on : (checkCode bs a far L i = 0 → Aside0 (scan (checkCode bs a far L) bs.length 0 = scan (checkCode bs a far L) (bs.length - (i + 1)) (i + 1))) := fun h => ⟨hsc.out.trans (scan_step hlt h)⟩
      have go_out : (checkCode bs a far L i ≠ 0 → Aside0 (V = .agg #[.int .i64 (checkCode bs a far L i), .int .i64 (1000 + (i : Int))])) := fun h => ⟨by rw [← hV.out, hsc.out, scan_hit hlt h]⟩
      clear hx
      generalize hbb : bs.getD i z48 = b at *
      replace hbb := Aside0.mk hbb
      cases hf : far.getD i false with
      | false =>
        rw [hf] at f0 hgc
        have H := go_on (by rw [hgc]; rfl)
        clear hgc go_on go_out hck' hf hsc
        go_wp2
        go_roundg (bs.length - (i + 1))
        case measure => have := hk.out; omega
        case rel => exact ⟨i + 1, hlt, by go_num, ⟨rfl⟩, H, ⟨hb.out.alloc hb.out.size _⟩⟩
      | true =>
        rw [hf] at f0 hgc
        have hst := hck' hf
        rw [← hst] at hgc
        clear hck' hf hst
        obtain ⟨ba, oa, e, hba, hxa⟩ := openI (Kd.C_below hAC hWr.out) (by have := hok.f0; have := ha.len; omega)
        subst e
        have hal := ha.len
        obtain ⟨q1, q2⟩ := hok.f0
        have q2' : b.f0 < a.length := by omega
        have xa : wr.cell? ⟨ba, oa + b.f0.toNat, none⟩ = some (.int .i64 (rd a b.f0)) := hxa b.f0.toNat (by omega)
        have hra := ha.bd b.f0 q1 (by omega)
        have hso : 0 - 5 ≤ stubOff items L b ∧ stubOff items L b ≤ 2000000 := by
          have h1 := idxOf_bd (goals L b.f0.toNat) ⟨b.f4, b.f5, b.f3⟩ (by rw [goals_length]; exact Nat.le_trans (cnt_le L _) hL)
          have h2 := hvi.x b.f0.toNat (by omega)
          have h3 : (rd_T57 items b.f0).f1 = (items.getD b.f0.toNat z57).f1 := rfl
          unfold stubOff; omega
        have HS := Aside0.mk (fun W' (hW : Below W.heap.size W W') => stub_calls hG hX (hp.step hW) hI hvi hok hL)
        have hob1 := hok.f1
        have hob3 := hok.f3
        have HNu := Aside0.mk (fun W' => hN b.f2 (rd a b.f0 + stubOff items L b) 0 (rd a b.f0 + b.f1) W' (by omega) (by omega) (by omega) (by omega) (by omega) (by omega))
        have HAd := Aside0.mk (fun W' (hW : Below W.heap.size W W') => hA (some ⟨ba, oa, none⟩) cA a b.f4 b.f5 W' (Kd.C_below hAC hW) hcA (by have := hok.f4; by_cases h : b.f4 < 0; exact .inl h; exact .inr ⟨by omega, by omega, ha.bd b.f4 (by omega) (by omega)⟩) hok.f5.1 hok.f5.2)
        have hab := addr_bd ha hok
        clear hxa p1 p2 p5 hal
        generalize rd a b.f0 = ra at *
        generalize stubOff items L b = so at *
        generalize addrOf a b.f4 b.f5 = av at *
        generalize fits b.f2 (ra + so) 0 (ra + b.f1) = fv at *
        generalize numV b.f2 (ra + so) 0 (ra + b.f1) = nv at *
        clear f1 q2
        have hbaw : ba < wr.heap.size := hba
        go_wp2_with fail
        have c0 : (wr.alloc (Obj.cells #[Value.int IntKind.i64 b.f0, Value.int IntKind.i64 b.f1, Value.int IntKind.i64 b.f2, Value.int IntKind.i64 b.f3, Value.int IntKind.i64 b.f4, Value.int IntKind.i64 b.f5] 48)).cell? ⟨wr.heap.size, 0, none⟩ = some (.int .i64 b.f0) := by simp
        have c1 : (wr.alloc (Obj.cells #[Value.int IntKind.i64 b.f0, Value.int IntKind.i64 b.f1, Value.int IntKind.i64 b.f2, Value.int IntKind.i64 b.f3, Value.int IntKind.i64 b.f4, Value.int IntKind.i64 b.f5] 48)).cell? ⟨wr.heap.size, 1, none⟩ = some (.int .i64 b.f1) := by simp
        have c2 : (wr.alloc (Obj.cells #[Value.int IntKind.i64 b.f0, Value.int IntKind.i64 b.f1, Value.int IntKind.i64 b.f2, Value.int IntKind.i64 b.f3, Value.int IntKind.i64 b.f4, Value.int IntKind.i64 b.f5] 48)).cell? ⟨wr.heap.size, 2, none⟩ = some (.int .i64 b.f2) := by simp
        have c3 : (wr.alloc (Obj.cells #[Value.int IntKind.i64 b.f0, Value.int IntKind.i64 b.f1, Value.int IntKind.i64 b.f2, Value.int IntKind.i64 b.f3, Value.int IntKind.i64 b.f4, Value.int IntKind.i64 b.f5] 48)).cell? ⟨wr.heap.size, 3, none⟩ = some (.int .i64 b.f3) := by simp
        have c4 : (wr.alloc (Obj.cells #[Value.int IntKind.i64 b.f0, Value.int IntKind.i64 b.f1, Value.int IntKind.i64 b.f2, Value.int IntKind.i64 b.f3, Value.int IntKind.i64 b.f4, Value.int IntKind.i64 b.f5] 48)).cell? ⟨wr.heap.size, 4, none⟩ = some (.int .i64 b.f4) := by simp
        have c5 : (wr.alloc (Obj.cells #[Value.int IntKind.i64 b.f0, Value.int IntKind.i64 b.f1, Value.int IntKind.i64 b.f2, Value.int IntKind.i64 b.f3, Value.int IntKind.i64 b.f4, Value.int IntKind.i64 b.f5] 48)).cell? ⟨wr.heap.size, 5, none⟩ = some (.int .i64 b.f5) := by simp
        have hx1 : Aside0 (Below wr.heap.size wr (wr.alloc (Obj.cells #[Value.int IntKind.i64 b.f0, Value.int IntKind.i64 b.f1, Value.int IntKind.i64 b.f2, Value.int IntKind.i64 b.f3, Value.int IntKind.i64 b.f4, Value.int IntKind.i64 b.f5] 48))) := ⟨below_alloc (Below.refl _ _) _⟩
        have hx2 : wr.heap.size < (wr.alloc (Obj.cells #[Value.int IntKind.i64 b.f0, Value.int IntKind.i64 b.f1, Value.int IntKind.i64 b.f2, Value.int IntKind.i64 b.f3, Value.int IntKind.i64 b.f4, Value.int IntKind.i64 b.f5] 48)).heap.size := by simp
        generalize wr.alloc (Obj.cells #[Value.int IntKind.i64 b.f0, Value.int IntKind.i64 b.f1, Value.int IntKind.i64 b.f2, Value.int IntKind.i64 b.f3, Value.int IntKind.i64 b.f4, Value.int IntKind.i64 b.f5] 48) = X at *
        have xa' := (hx1.out.cell (p := ⟨ba, oa + b.f0.toNat, none⟩) hbaw).trans xa
        have w0' := (hx1.out.cell (p := ⟨W.heap.size, 0, none⟩) hsr').trans y0
        have w1' := (hx1.out.cell (p := ⟨W.heap.size, 1, none⟩) hsr').trans y1
        have w2' := (hx1.out.frozen (p := ⟨W.heap.size, 0, none⟩) hsr').trans y2
        have w3' := (hx1.out.frozen (p := ⟨W.heap.size, 1, none⟩) hsr').trans y3
        have hWX : Aside0 (Below W.heap.size W X) := ⟨hWr.out.trans (hx1.out.mono hWr.out.size)⟩
        have hWsX : W.heap.size < X.heap.size := by omega
        clear x0 x1 x2 x3 x4 x5 f0 p0 p3 p4 l1 l2 l3 xa y0 y1 y2 y3 hbk
        try go_wp2_with fail
        have g1 : IntKind.i64.wrap (ra + so) = ra + so := by rw [i64_w]; unfold wrap64; omega
        have g2 : IntKind.i64.wrap (ra + b.f1) = ra + b.f1 := by rw [i64_w]; unfold wrap64; omega
        go_region_held3 (fun w' => w'.cell? ⟨wr.heap.size, 0, none⟩ = some (.int .i64 b.f0) ∧ w'.cell? ⟨wr.heap.size, 1, none⟩ = some (.int .i64 b.f1) ∧ w'.cell? ⟨wr.heap.size, 2, none⟩ = some (.int .i64 b.f2) ∧ w'.cell? ⟨wr.heap.size, 3, none⟩ = some (.int .i64 b.f3) ∧ w'.cell? ⟨wr.heap.size, 4, none⟩ = some (.int .i64 b.f4) ∧ w'.cell? ⟨wr.heap.size, 5, none⟩ = some (.int .i64 b.f5))
          (first
            | go_keep
            | (go_split_ands
               refine ⟨(hc1.cell hx2).trans c0, (hc1.cell hx2).trans c1, (hc1.cell hx2).trans c2, (hc1.cell hx2).trans c3, (hc1.cell hx2).trans c4, (hc1.cell hx2).trans c5⟩))
          (first
            | (go_at_call 60; refine (HS.out _ (hWX.out.drew)).mono ?_; rintro e w1 ⟨rfl, hc0⟩; have hc1 : Below X.heap.size X w1 := (below_drew (Below.refl _ _)).trans hc0)
            | (go_at_call 55; refine (HNu.out _).mono ?_; rintro e w2 ⟨rfl, ⟨n2, rfl⟩⟩))
        clear g1 g2
        have k3 := (hc1.cell (p := ⟨wr.heap.size, 3, none⟩) hx2).trans c3
        have k4 := (hc1.cell (p := ⟨wr.heap.size, 4, none⟩) hx2).trans c4
        have k5 := (hc1.cell (p := ⟨wr.heap.size, 5, none⟩) hx2).trans c5
        have v0 := (hc1.cell (p := ⟨W.heap.size, 0, none⟩) hWsX).trans w0'
        have v1 := (hc1.cell (p := ⟨W.heap.size, 1, none⟩) hWsX).trans w1'
        have v2 := (hc1.frozen (p := ⟨W.heap.size, 0, none⟩) hWsX).trans w2'
        have v3 := (hc1.frozen (p := ⟨W.heap.size, 1, none⟩) hWsX).trans w3'
        have hW1 : Aside0 (Below W.heap.size W w1) := ⟨hWX.out.trans (hc1.mono hWX.out.size)⟩
        have hbw1 : Aside0 (Below w0.heap.size w0 w1) := ⟨(hb.out.trans (hx1.out.mono hb.out.size)).trans (hc1.mono (Nat.le_trans hb.out.size hx1.out.size))⟩
        have hsz1 : W.heap.size < w1.heap.size := Nat.lt_of_lt_of_le hWsX hc1.size
        clear c0 c1 c2 c3 c4 c5 w0' w1' w2' w3' hc0 hc1 xa'
        change (w1.drewN n2).cell? _ = _ at k3
        change (w1.drewN n2).cell? _ = _ at k4
        change (w1.drewN n2).cell? _ = _ at k5
        change (w1.drewN n2).cell? _ = _ at v0
        change (w1.drewN n2).cell? _ = _ at v1
        change (w1.drewN n2).frozen? _ = _ at v2
        change (w1.drewN n2).frozen? _ = _ at v3
        replace hW1 : Aside0 (Below W.heap.size W (w1.drewN n2)) := ⟨pw_below_drewN hW1.out _⟩
        replace hbw1 : Aside0 (Below w0.heap.size w0 (w1.drewN n2)) := ⟨pw_below_drewN hbw1.out _⟩
        change W.heap.size < (w1.drewN n2).heap.size at hsz1
        generalize w1.drewN n2 = wq at *
        cases fv with
        | false =>
          have H := go_out (by rw [hgc]; simp)
          rw [hgc] at H
          clear hgc go_on go_out hsc
          go_wp2
          refine bodyPost_ret (v := .agg #[.int .i64 16, .int .i64 (1000 + (i : Int))]) (by simp [results, Try.results51, go_sem, v0, v1]) rfl ⟨by rw [H.out]; rfl, ?_⟩
          exact ((hW1.out).setCell (by simp) _).setCell (by simp) _
        | true =>
          have hob4 := hok.f4
          have g1 : IntKind.i64.wrap (av + b.f3) = av + b.f3 := by rw [i64_w]; unfold wrap64; omega
          go_wp2_with fail
          go_quiet ((go_at_call 56; exact quiet_drawn (HAd.out _ (by repeat (first | exact hW1.out | apply pw_below_drewN)))))
          clear g1
          by_cases hlo : av + b.f3 < 0
          · have H := go_out (by rw [hgc, if_neg (by simp), if_neg (by simp), if_neg (by omega)]; simp)
            rw [hgc, if_neg (by simp), if_neg (by simp), if_neg (by omega)] at H
            clear hgc go_on go_out hsc
            go_wp2
            refine bodyPost_ret (v := .agg #[.int .i64 16, .int .i64 (1000 + (i : Int))]) (by simp [results, Try.results51, go_sem, v0, v1]) rfl ⟨by rw [H.out], ?_⟩
            exact ((pw_below_drewN hW1.out _).setCell (by simp) _).setCell (by simp) _
          · by_cases hhi : 4294967295 < av + b.f3
            · have H := go_out (by rw [hgc, if_neg (by simp), if_neg (by simp), if_neg (by omega)]; simp)
              rw [hgc, if_neg (by simp), if_neg (by simp), if_neg (by omega)] at H
              clear hgc go_on go_out hsc
              go_wp2
              refine bodyPost_ret (v := .agg #[.int .i64 16, .int .i64 (1000 + (i : Int))]) (by simp [results, Try.results51, go_sem, v0, v1]) rfl ⟨by rw [H.out], ?_⟩
              exact ((pw_below_drewN hW1.out _).setCell (by simp) _).setCell (by simp) _
            · have H := go_on (by rw [hgc, if_neg (by simp), if_neg (by simp), if_pos (by omega)])
              clear hgc go_on go_out hsc
              go_wp2
              go_roundg (bs.length - (i + 1))
              case measure => have := hk.out; omega
              case rel => exact ⟨i + 1, hlt, by go_num, ⟨rfl⟩, H, ⟨pw_below_drewN hbw1.out _⟩⟩
    · have H := hV.out
      rw [hsc.out, scan_end hlt] at H
      replace H := Aside0.mk H
      go_wp2
      refine bodyPost_ret (v := .agg #[.int .i64 0, .int .i64 0]) (by simp [results, Try.results51, go_sem, y0, y1]) rfl ⟨by rw [← H.out], ?_⟩
      exact (hWr.out.setCell (by simp) _).setCell (by simp) _
end Go.Proofs.Ytogcgcjhoebooaa
end
section
set_option linter.unusedVariables false
set_option linter.unusedSimpArgs false
namespace Go.Proofs.Ytogcgcjhoebooaa
open Go.RowKit Go.Proofs.YtogcgcjhoebooaaW.PrintWords Go.Proofs.Ytogcgcjhoebooaa.PVeneerMatchesSpec
theorem upTo_ge {n al : Int} (h : 1 ≤ al) : n ≤ upTo n al := by
  unfold upTo
  have h1 := Int.mul_ediv_add_emod (n + al - 1) al
  have h2 := Int.emod_lt_of_pos (n + al - 1) (show 0 < al by omega)
  rw [Int.mul_comm] at h1
  omega
theorem assignItems_ge {items : List S57} (h : OkI items) (k : Int) : ∀ (d i : Nat) (at_ : Int) (ad : List Int), i + d ≤ items.length → at_ ≤ (assignItems items k d i at_ ad).1
 | 0, _, _, _, _ => Int.le_refl _
 | d + 1, i, at_, ad, hi => by
  obtain ⟨h1, h2, h3, h4⟩ := h.x i (by omega)
  rw [assignItems]
  split
  ·have := upTo_ge (n := at_) h3
   have := assignItems_ge h k d (i + 1) (upTo at_ (items.getD i z57).f2 + (items.getD i z57).f1) (ad.set i (upTo at_ (items.getD i z57).f2)) (by omega)
   omega
  ·exact assignItems_ge h k d (i + 1) at_ ad (by omega)
def InB (n : Nat) (ad : List Int) : Prop := ad.length = n ∧ ∀ j : Nat, 0 ≤ ad.getD j 0 ∧ ad.getD j 0 ≤ 1048576
theorem InB.set {n : Nat} {ad : List Int} (h : InB n ad) (i : Nat) {v : Int} (h0 : 0 ≤ v) (h1 : v ≤ 1048576) : InB n (ad.set i v) := by
  refine ⟨by rw [List.length_set]; exact h.1, fun j => ?_⟩
  have := h.2 j
  rw [List.getD_eq_getElem?_getD] at this ⊢
  rw [List.getElem?_set]
  split
  · split
    · exact ⟨h0, h1⟩
    · simp
  · exact this
theorem assignItems_in {items : List S57} (h : OkI items) (k : Int) {n : Nat} : ∀ (d i : Nat) (at_ : Int) (ad : List Int), i + d ≤ items.length → 0 ≤ at_ → InB n ad → (assignItems items k d i at_ ad).1 ≤ 1048576 → InB n (assignItems items k d i at_ ad).2
 | 0, _, _, _, _, _, h, _ => h
 | d + 1, i, at_, ad, hi, h0, ha, hr => by
  obtain ⟨h1, h2, h3, h4⟩ := h.x i (by omega)
  rw [assignItems] at hr ⊢
  split
  ·rename_i hk
   rw [if_pos hk] at hr
   have hu := upTo_ge (n := at_) h3
   have hm := assignItems_ge h k d (i + 1) (upTo at_ (items.getD i z57).f2 + (items.getD i z57).f1) (ad.set i (upTo at_ (items.getD i z57).f2)) (by omega)
   exact assignItems_in h k d (i + 1) _ _ (by omega) (by omega) (ha.set i (by omega) (by omega)) hr
  ·rename_i hk
   rw [if_neg hk] at hr
   exact assignItems_in h k d (i + 1) at_ ad (by omega) h0 ha hr
theorem assignFrom_in {os : List S72} {items : List S57} (hv : ValidO os) (h : OkI items) {n : Nat} : ∀ (d k : Nat) (end_ : Int) (ad : List Int) (sp : List S80), k + d ≤ os.length → 0 ≤ end_ → InB n ad → (assignFrom os items d k end_ ad sp).code = 0 → InB n (assignFrom os items d k end_ ad sp).ad ∧ (assignFrom os items d k end_ ad sp).idx = 0
 | 0, _, _, _, _, _, _, ha, _ => ⟨ha, rfl⟩
 | d + 1, k, end_, ad, sp, hk, h0, ha, hc => by
  obtain ⟨o1, o2, o3, o4⟩ := hv.o k (by omega)
  simp only [assignFrom] at hc ⊢
  have hs : 0 ≤ (if (os.getD k z72).f1 < 0 then upTo (upTo end_ 256) (os.getD k z72).f2 else (os.getD k z72).f1) := by
   split
   ·have := upTo_ge (n := end_) (al := 256) (by omega)
    have := upTo_ge (n := upTo end_ 256) o3
    omega
   ·omega
  generalize (if (os.getD k z72).f1 < 0 then upTo (upTo end_ 256) (os.getD k z72).f2 else (os.getD k z72).f1) = start at *
  split
  ·rename_i hx; rw [if_pos hx] at hc; cases hc
  ·rename_i hx
   rw [if_neg hx] at hc
   split
   ·rename_i hy; rw [if_pos hy] at hc; cases hc
   ·rename_i hy
    rw [if_neg hy] at hc
    have hg := assignItems_ge h k items.length 0 start ad (by omega)
    exact assignFrom_in hv h d (k + 1) _ _ _ (by omega) (by omega) (assignItems_in h k items.length 0 start ad (by omega) hs ha (by omega)) hc
theorem assign_in {os : List S72} {items : List S57} (hv : ValidO os) (h : OkI items) (hc : (assign os items).code = 0) : OkA items.length (assign os items).ad ∧ (assign os items).idx = 0 := by
 obtain ⟨h1, h2⟩ := assignFrom_in hv h (n := items.length) os.length 0 256 (List.replicate items.length 0) [] (by omega) (by omega) ⟨by simp, fun j => by rw [List.getD_eq_getElem?_getD, List.getElem?_replicate]; split <;> simp⟩ hc
 refine ⟨⟨h1.1, fun i hi _ => ?_⟩, h2⟩
 have := h1.2 i.toNat
 exact ⟨this.1, Int.le_trans this.2 (by omega)⟩
def mkStub (items : List S57) (i k : Nat) (g : S89) : S54 := ⟨i, (items.getD i z57).f1 + 5 * k, g.f0, g.f1, g.f2⟩
def OrdL (items : List S57) (L : List S54) : Prop := ∀ i : Nat, L.filter (fun s => decide (s.f0 = (i : Int))) = (goals L i).mapIdx (mkStub items i)
theorem OrdL.nil (items : List S57) : OrdL items [] := fun i => rfl
theorem OrdL.add {items : List S57} {L : List S54} (h : OrdL items L) (b : S48) (hb : 0 ≤ b.f0) : OrdL items (addStub items L b) := by
 unfold addStub
 split
 ·exact h
 ·intro i
  rw [List.filter_append, goals_snoc, h i]
  by_cases hi : (newStub items L b).f0 = (i : Int)
  ·have hi' : b.f0 = (i : Int) := hi
   rw [if_pos hi, List.mapIdx_append]
   congr 1
   simp only [List.filter_cons, hi, decide_true, if_true, List.filter_nil, List.mapIdx_cons, List.mapIdx_nil]
   simp only [mkStub, newStub, hi', goals_length, Nat.zero_add]
   rfl
  ·rw [if_neg hi]
   simp [hi]
structure J (items : List S57) (bs : List S48) (far : List Bool) (L : List S54) : Prop where
  fl : far.length = bs.length
  n : L.length ≤ far.count true
  o : OrdL items L
  q : ∀ b : S48, 0 ≤ b.f0 → L.any (serve · b) = true → stubOff items L b = (L.getD (stubAt L b) z54).f1
  s : ∀ i, i < bs.length → far.getD i false = true → L.any (serve · (bs.getD i z48)) = true
theorem J.init (items : List S57) (bs : List S48) : J items bs (List.replicate bs.length false) [] := by
  refine ⟨by simp, by simp, OrdL.nil _, fun b _ h => by simp at h, fun i hi h => ?_⟩
  rw [List.getD_eq_getElem?_getD, List.getElem?_replicate, if_pos hi] at h
  cases h
theorem count_set_true : ∀ (far : List Bool) (i : Nat), i < far.length → far.getD i false = false → (far.set i true).count true = far.count true + 1
 | [], i, h, _ => by simp at h
 | x :: l, 0, _, h => by
  have : x = false := h
  subst this
  simp
 | x :: l, i + 1, hi, h => by
  have := count_set_true l i (by simpa using hi) (by simpa using h)
  rw [List.set_cons_succ, List.count_cons, List.count_cons, this]
  omega
theorem any_snoc (L : List S54) (s : S54) (b : S48) : (L ++ [s]).any (serve · b) = (L.any (serve · b) || serve s b) := by simp
theorem serve_new {items : List S57} {L : List S54} {b b' : S48} : serve (newStub items L b') b = true ↔ b'.f0 = b.f0 ∧ b'.f4 = b.f4 ∧ b'.f5 = b.f5 ∧ b'.f3 = b.f3 := by
  unfold serve newStub
  exact decide_eq_true_iff
theorem goals_prefix (L : List S54) (s : S54) (j : Nat) : ∃ t, goals (L ++ [s]) j = goals L j ++ t := by
  rw [goals_snoc]; split
  · exact ⟨_, rfl⟩
  · exact ⟨[], by simp⟩
theorem J.q_add {items : List S57} {L : List S54} (q : ∀ b : S48, 0 ≤ b.f0 → L.any (serve · b) = true → stubOff items L b = (L.getD (stubAt L b) z54).f1) (b' : S48) (hb' : 0 ≤ b'.f0) :
  ∀ b : S48, 0 ≤ b.f0 → (addStub items L b').any (serve · b) = true → stubOff items (addStub items L b') b = ((addStub items L b').getD (stubAt (addStub items L b') b) z54).f1 := by
 intro b hb h
 unfold addStub at h ⊢
 split
 ·rename_i ha; rw [if_pos ha] at h; exact q b hb h
 ·rename_i ha
  rw [if_neg ha] at h
  cases hL : L.any (serve · b) with
  | true =>
   have hlt : L.findIdx (serve · b) < L.length := List.findIdx_lt_length.2 (by simpa using hL)
   have e1 : stubAt (L ++ [newStub items L b']) b = stubAt L b := by
    unfold stubAt; rw [List.findIdx_append, if_pos hlt]
   have e2 : (L ++ [newStub items L b']).getD (stubAt L b) z54 = L.getD (stubAt L b) z54 := by
    unfold stubAt
    rw [List.getD_eq_getElem?_getD, List.getElem?_append_left hlt, List.getD_eq_getElem?_getD]
   rw [e1, e2, ← q b hb hL]
   unfold stubOff
   congr 2
   obtain ⟨t, ht⟩ := goals_prefix L (newStub items L b') b.f0.toNat
   rw [ht]
   have hh := hasGoal_goals (L := L) (b := b) hb
   rw [hL] at hh
   unfold hasGoal at hh
   unfold idxOf
   rw [List.any_append, hh]
   simp only [Bool.true_or, if_true]
   have hlt2 := List.findIdx_lt_length.2 (by simpa using hh : ∃ x, x ∈ goals L b.f0.toNat ∧ (fun x : S89 => decide (x.f0 = b.f4 ∧ x.f1 = b.f5 ∧ x.f2 = b.f3)) x = true)
   rw [List.findIdx_append, if_pos hlt2]
  | false =>
   rw [any_snoc, hL, Bool.false_or, serve_new] at h
   obtain ⟨e0, e4, e5, e3⟩ := h
   have hnl : ¬ L.findIdx (serve · b) < L.length := fun hh => by
    have := List.findIdx_lt_length.1 hh
    rw [← List.any_eq_true] at this
    rw [this] at hL; cases hL
   have hle : L.findIdx (serve · b) = L.length := by have := List.findIdx_le_length (xs := L) (p := (serve · b)); omega
   have hsv : serve (newStub items L b') b = true := serve_new.2 ⟨e0, e4, e5, e3⟩
   have e1 : stubAt (L ++ [newStub items L b']) b = L.length := by
    unfold stubAt; rw [List.findIdx_append, if_neg hnl]; simp [List.findIdx_cons, hsv]
   rw [e1]
   have e2 : (L ++ [newStub items L b']).getD L.length z54 = newStub items L b' := by simp [List.getD_eq_getElem?_getD]
   rw [e2]
   have hh := hasGoal_goals (L := L) (b := b) hb
   rw [hL] at hh
   have hg : goals (L ++ [newStub items L b']) b.f0.toNat = goals L b.f0.toNat ++ [⟨b.f4, b.f5, b.f3⟩] := by
    rw [goals_snoc, if_pos (show (newStub items L b').f0 = _ by simp [newStub, e0]; omega)]
    simp [newStub, e4, e5, e3]
   unfold stubOff
   rw [hg]
   have hi : idxOf (goals L b.f0.toNat ++ [⟨b.f4, b.f5, b.f3⟩]) ⟨b.f4, b.f5, b.f3⟩ = (goals L b.f0.toNat).length := by
    unfold idxOf
    rw [List.any_append]
    unfold hasGoal at hh
    rw [hh]
    have hn2 : ¬ (goals L b.f0.toNat).findIdx (fun x : S89 => decide (x.f0 = b.f4 ∧ x.f1 = b.f5 ∧ x.f2 = b.f3)) < (goals L b.f0.toNat).length := fun h' => by
     have := List.findIdx_lt_length.1 h'
     rw [← List.any_eq_true] at this
     rw [this] at hh; cases hh
    rw [List.findIdx_append, if_neg hn2]
    simp [List.findIdx_cons]
   rw [hi, goals_length]
   show _ = (newStub items L b').f1
   simp only [newStub]
   rw [show ((b.f0.toNat : Nat) : Int) = b.f0 by omega, e0]
theorem J.add {items : List S57} {bs : List S48} {far : List Bool} {L : List S54} (h : J items bs far L) {i : Nat} (hi : i < bs.length) (hf : far.getD i false = false) (hb : 0 ≤ (bs.getD i z48).f0) :
  J items bs (far.set i true) (addStub items L (bs.getD i z48)) := by
 have hc := count_set_true far i (by rw [h.fl]; exact hi) hf
 refine ⟨by simpa using h.fl, ?_, h.o.add _ hb, J.q_add h.q _ hb, fun j hj hfj => ?_⟩
 ·rw [hc]
  have := h.n
  unfold addStub
  split
  ·omega
  ·simp; omega
 ·by_cases hji : i = j
  ·subst hji
   unfold addStub
   split
   ·assumption
   ·rw [any_snoc, serve_new.2 ⟨rfl, rfl, rfl, rfl⟩]; simp
  ·rw [List.getD_eq_getElem?_getD, List.getElem?_set, if_neg hji, ← List.getD_eq_getElem?_getD] at hfj
   have := h.s j hj hfj
   unfold addStub
   split
   ·exact this
   ·rw [any_snoc, this]; rfl
theorem J.le {items : List S57} {bs : List S48} {far : List Bool} {L : List S54} (h : J items bs far L) (hb : bs.length ≤ 400) : L.length ≤ 400 := by
  have := h.n; have := h.fl; have := List.count_le_length (a := true) (l := far); omega
end Go.Proofs.Ytogcgcjhoebooaa
end
section
set_option linter.unusedVariables false
set_option linter.unusedSimpArgs false
namespace Go.Proofs.Ytogcgcjhoebooaa
open Go.RowKit Go.Proofs.YtogcgcjhoebooaaW.PrintWords Go.Proofs.Ytogcgcjhoebooaa.PVeneerMatchesSpec
theorem RowI.step {base : Nat} {W W' : World} {v : Value} {xs : List Int} (h : RowI base W v xs) {B : Nat} (hb : Below B W W') (hB : ∀ A n c, v = .slice (some A) n c → A.block < B) : RowI base W' v xs := by
  obtain ⟨A, c, e, hc, hC, hA⟩ := h
  refine ⟨A, c, e, hc, ?_, hA⟩
  exact C_fr (fun _ _ _ _ h => h) hC (fun ad had p hp => hb.cell (by rw [hp]; exact hB ad _ _ (by rw [e, had])))
theorem C_int_fr {W W' : World} {gf gs : Nat} {A : Option Addr} {xs : List Int} (h : Kd.C (Kd.int .i64) W A xs.length xs) (hF : Fr W W' gf gs) (hA : ∀ ad, A = some ad → ad.block ≠ gf ∧ ad.block ≠ gs) : Kd.C (Kd.int .i64) W' A xs.length xs := by
 rcases Nat.eq_zero_or_pos xs.length with h0 | h0
 ·exact ⟨h.1, h.2.1, fun hp => absurd hp (by omega)⟩
 ·obtain ⟨ba, oa, e, hba, _⟩ := openI h h0
  exact C_fr (fun _ _ _ _ h => h) h (fun ad had p hp => hF.cell (by rw [hp]; rw [had] at e; injection e with e; rw [e]; exact hba) (by rw [hp]; exact (hA ad had).1) (by rw [hp]; exact (hA ad had).2))
theorem alloc_block (W : World) (o : Obj) : (W.alloc o).heap[W.heap.size]? = some o := by
  show (W.heap.push o)[W.heap.size]? = some o
  simp
theorem Pl.setRes {w W : World} {g gf gs r t : Nat} {fr : Nat × Nat} {vs vs' : Array Value} {ni : Nat} {far : List Bool} {L : List S54} (h : Pl w W g gf gs vs ni far L) (hr : W.heap[r]? = some (.cells vs' t fr)) (hsz : vs'.size ≤ 2) (hge : w.heap.size ≤ r) (hne : r ≠ g ∧ r ≠ gf ∧ r ≠ gs) (i : Nat) (u : Value) :
  Pl w (W.setCell ⟨r, i, none⟩ u) g gf gs vs ni far L := by
 obtain ⟨a1, a2, a3⟩ := h.ap
 obtain ⟨n1, n2, n3⟩ := hne
 obtain ⟨sv, s1, s2, s3⟩ := h.sb
 refine ⟨h.below.setCell hge _, blk_far (p := ⟨r, i, none⟩) h.blk (by simpa using n1.symm) u, h.vsz, blk_far (p := ⟨r, i, none⟩) h.fb (by simpa using n2.symm) u, ⟨sv, blk_far (p := ⟨r, i, none⟩) s1 (by simpa using n3.symm) u, s2, fun j v hv => ?_⟩, h.ap, h.ge⟩
 obtain ⟨A, c, e, hc, hC, hA⟩ := s3 j v hv
 refine ⟨A, c, e, hc, ?_, hA⟩
 rcases Nat.eq_zero_or_pos (goals L j).length with h0 | h0
 ·exact ⟨hC.1, hC.2.1, fun hp => absurd hp (by omega)⟩
 ·obtain ⟨b, o, e', hb, hx⟩ := C_open hC h0 (by decide : 0 < 3) z89
  refine C_set k89_any hC (fun ad had => ?_)
  rw [had] at e'
  injection e' with e'
  subst e'
  show b ≠ r
  intro hbr
  subst hbr
  obtain ⟨c', hcl, hk, hcc⟩ := hx 0 h0
  obtain rfl := k89_open hk
  have := hcc 2 _ rfl
  simp only [World.cell?, hr] at this
  rw [Array.getElem?_eq_none (by omega)] at this
  cases this
set_option maxHeartbeats 4000000 in
set_option maxRecDepth 100000 in
theorem settle_calls (hAs : AssignCalls) (hG : GoalCalls) (hC : ContCalls) (hX : IndexCalls) (hN : NumCalls 55) (hAd : AddrCalls)
  {w W : World} {g gf gs : Nat} {A0 A1 A2 AB : Option Addr} {c0 c1 c2 cB : Nat} {os : List S72} {rs : List S76} {items : List S57} {bs : List S48} {far : List Bool} {L : List S54} {m : Nat}
  (hp : Pl w W g gf gs #[.slice A0 os.length c0, .slice A1 rs.length c1, .slice A2 items.length c2, .slice AB bs.length cB] items.length far L)
  (h0 : Kd.C k72 w A0 os.length os) (hc0 : os.length ≤ c0) (h1 : Kd.C k76 w A1 rs.length rs) (hc1 : rs.length ≤ c1) (h2 : Kd.C k57 w A2 items.length items) (hc2 : items.length ≤ c2) (hB : Kd.C k48 w AB bs.length bs)
  (hvo : ValidO os) (hvi : ValidI items m) (hbl : bs.length ≤ 400) (hob : ∀ i, i < bs.length → OkB items.length (bs.getD i z48)) (hJ : J items bs far L)
  (n : Nat) (hn : bs.length - far.count true < n) :
  Calls Try.prog 42 #[.pointer (some ⟨g, 0, none⟩)] W fun e W' => ∃ v0 v1 : Value, e = .returned (.tuple #[v0, v1, .agg #[.int .i64 (settleFrom os items bs n far L).code, .int .i64 (settleFrom os items bs n far L).idx]]) ∧
   Below w.heap.size w W' ∧ IsSl v0 ∧ IsSl v1 ∧
   ((settleFrom os items bs n far L).code = 0 → (settleFrom os items bs n far L).idx = 0 ∧ RowI W.heap.size W' v0 (settleFrom os items bs n far L).ad ∧ J items bs (settleFrom os items bs n far L).far (settleFrom os items bs n far L).L ∧
    Pl w W' g gf gs #[.slice A0 os.length c0, .slice A1 rs.length c1, .slice A2 items.length c2, .slice AB bs.length cB] items.length (settleFrom os items bs n far L).far (settleFrom os items bs n far L).L) := by
 have hu29 := Try.underlying29
 have hu48 := Try.underlying48
 have HP := Aside0.mk hp
 obtain ⟨l1, l2, l3⟩ := hp.lt
 obtain ⟨e1, e2, e3⟩ := hp.ge
 generalize hR : settleFrom os items bs n far L = R
 have HR := Aside0.mk hR
 have HJ := Aside0.mk hJ
 clear hR
 go_enter Try.func42, Try.ntmps42
 go_wp2_with fail
 have z0 : (W.alloc (Obj.cells #[Value.int IntKind.i64 0, Value.int IntKind.i64 0] 29)).cell? ⟨W.heap.size, 0, none⟩ = some (.int .i64 0) := by simp
 have z1 : (W.alloc (Obj.cells #[Value.int IntKind.i64 0, Value.int IntKind.i64 0] 29)).cell? ⟨W.heap.size, 1, none⟩ = some (.int .i64 0) := by simp
 have z2 : ∀ j, (W.alloc (Obj.cells #[Value.int IntKind.i64 0, Value.int IntKind.i64 0] 29)).frozen? ⟨W.heap.size, j, none⟩ = false := by intro j; simp
 have hW0 : Below W.heap.size W (W.alloc (Obj.cells #[Value.int IntKind.i64 0, Value.int IntKind.i64 0] 29)) := below_alloc (Below.refl _ _) _
 have hs0 : (W.alloc (Obj.cells #[Value.int IntKind.i64 0, Value.int IntKind.i64 0] 29)).heap.size = W.heap.size + 1 := by simp
 have zb : (W.alloc (Obj.cells #[Value.int IntKind.i64 0, Value.int IntKind.i64 0] 29)).heap[W.heap.size]? = some (.cells #[Value.int IntKind.i64 0, Value.int IntKind.i64 0] 29 (0, 0)) := alloc_block _ _
 replace zb := Aside0.mk zb
 generalize W.alloc (Obj.cells #[Value.int IntKind.i64 0, Value.int IntKind.i64 0] 29) = w0 at *
 have Z := Aside0.mk (And.intro z0 (And.intro z1 (And.intro z2 (And.intro hW0 hs0))))
 have HP0 := Aside0.mk (hp.step hW0)
 clear z0 z1 z2 hW0 hs0
 go_loopg [] (bs.length - far.count true) (fun k wr => ∃ far L n, Aside0 (k = bs.length - far.count true ∧ k < n ∧ settleFrom os items bs n far L = R ∧ J items bs far L) ∧ Aside0 (Pl w wr g gf gs #[.slice A0 os.length c0, .slice A1 rs.length c1, .slice A2 items.length c2, .slice AB bs.length cB] items.length far L) ∧ Aside0 (Fr w0 wr gf gs))
 case atStart => exact ⟨far, L, n, ⟨rfl, hn, HR.out, HJ.out⟩, HP0, ⟨Fr.refl _ _ _⟩⟩
 case round =>
  obtain ⟨wo, rfl⟩ : ∃ wo : World, wo = wr := ⟨_, rfl⟩
  obtain ⟨far, L, n, hst, hPr, hFr⟩ := hrel
  clear HP0 HP hp HJ HR hJ hn
  obtain ⟨hk, hkn, hset, hj⟩ := hst.out
  obtain ⟨n, rfl⟩ : ∃ n', n = n' + 1 := ⟨n - 1, by omega⟩
  rw [settleFrom] at hset
  have hL := hj.le hbl
  obtain ⟨ap1, ap2, ap3⟩ := hPr.out.ap
  have hpl := place_calls hAs hPr.out h0 hc0 h1 hc1 h2 hc2 hvo hvi hL
  have hin := assign_in hvo (okI_ext hvi hL)
  have hel : (ext items L).length = items.length := by simp [ext]
  rw [hel] at hin
  generalize hga : assign os (ext items L) = ga at *
  obtain ⟨ad, spn, code, idx⟩ := ga
  simp only at hset hpl hin
  obtain ⟨y0, y1, y2, hW0, hs0⟩ := Z.out
  have hsr := hFr.out.size
  have hWg : g ≠ W.heap.size ∧ gf ≠ W.heap.size ∧ gs ≠ W.heap.size := by omega
  have z0 := (hFr.out.cell (p := ⟨W.heap.size, 0, none⟩) (by simp; omega) hWg.2.1.symm hWg.2.2.symm).trans y0
  have z1 := (hFr.out.cell (p := ⟨W.heap.size, 1, none⟩) (by simp; omega) hWg.2.1.symm hWg.2.2.symm).trans y1
  have z2 := (hFr.out.frozen (p := ⟨W.heap.size, 0, none⟩) (by simp; omega) hWg.2.1.symm hWg.2.2.symm).trans (y2 0)
  have z3 := (hFr.out.frozen (p := ⟨W.heap.size, 1, none⟩) (by simp; omega) hWg.2.1.symm hWg.2.2.symm).trans (y2 1)
  replace hset := Aside0.mk hset
  replace hin := Aside0.mk hin
  replace hk := Aside0.mk hk
  have hst2 := Aside0.mk hj
  clear y0 y1 y2 hW0 hst hga hel hj
  go_wp2_with (go_at_call 48; refine hpl.mono ?_)
  rintro e w1 ⟨v0, v1, rfl, hr0, hr1, hb1⟩
  have HP1 := Aside0.mk (hPr.out.step hb1)
  have HF1 := Aside0.mk (hFr.out.step hb1)
  have y0 := (hb1.cell (p := ⟨W.heap.size, 0, none⟩) (by simp; omega)).trans z0
  have y1 := (hb1.cell (p := ⟨W.heap.size, 1, none⟩) (by simp; omega)).trans z1
  have y2 := (hb1.frozen (p := ⟨W.heap.size, 0, none⟩) (by simp; omega)).trans z2
  have y3 := (hb1.frozen (p := ⟨W.heap.size, 1, none⟩) (by simp; omega)).trans z3
  have hsw := hb1.size
  clear z0 z1 z2 z3 hpl
  replace hr0 := Aside0.mk hr0
  replace hr1 := Aside0.mk hr1
  replace hb1 := Aside0.mk hb1
  by_cases hcz : code = 0
  ·obtain ⟨hOA, hz⟩ := hin.out hcz
   subst hcz
   subst hz
   have hset' := hset.out
   rw [if_neg (by simp)] at hset'
   clear hin hset
   replace hset' := Aside0.mk hset'
   replace hOA := Aside0.mk hOA
   obtain ⟨p0, p1, p2, p3, p4, p5⟩ := HP1.out.cells
   obtain ⟨lg, lf, ls⟩ := HP1.out.lt
   clear p0 p1 p2 p4 p5
   have hb2 : Below w1.heap.size w1 (w1.alloc (Obj.cells #[Value.int IntKind.i64 0, Value.int IntKind.i64 0] 29)) := below_alloc (Below.refl _ _) _
   go_wp2_with fail
   have q2 := (hb2.cell (p := ⟨W.heap.size, 0, none⟩) (by simp; omega)).trans y0
   have q3 := (hb2.cell (p := ⟨W.heap.size, 1, none⟩) (by simp; omega)).trans y1
   have q4 := (hb2.frozen (p := ⟨W.heap.size, 0, none⟩) (by simp; omega)).trans y2
   have q5 := (hb2.frozen (p := ⟨W.heap.size, 1, none⟩) (by simp; omega)).trans y3
   have HP2 := Aside0.mk (HP1.out.step hb2)
   have HF2 := Aside0.mk (HF1.out.step hb2)
   obtain ⟨Aa, ca, rfl, hca, hCa, hgea⟩ := hr0.out
   have hr2 := Aside0.mk (Kd.C_below hCa hb2)
   replace hgea := Aside0.mk hgea
   have hX2 := hb2.size
   generalize hX : w1.alloc (Obj.cells #[Value.int IntKind.i64 0, Value.int IntKind.i64 0] 29) = X at *
   have Y := Aside0.mk (And.intro q2 (And.intro q3 (And.intro q4 q5)))
   clear q2 q3 q4 q5 y0 y1 y2 y3 hb2 hCa hX p3 lg lf ls
   go_loopg [26, 8] bs.length (fun k v26 v8 wi => ∃ (i : Nat) (far' : List Bool) (L' : List S54) (ag : Bool), i ≤ bs.length ∧ v26 = .int .i64 i ∧ v8 = .bool ag ∧ Aside0 (k = bs.length - i) ∧
    Aside0 (pass items bs ad bs.length 0 far L false = pass items bs ad (bs.length - i) i far' L' ag ∧ J items bs far' L' ∧ (ag = true → far.count true < far'.count true) ∧ far.count true ≤ far'.count true) ∧
    Aside0 (Pl w wi g gf gs #[.slice A0 os.length c0, .slice A1 rs.length c1, .slice A2 items.length c2, .slice AB bs.length cB] items.length far' L') ∧ Aside0 (Fr X wi gf gs))
   case atStart => exact ⟨0, far, L, false, Nat.zero_le _, rfl, rfl, ⟨rfl⟩, ⟨rfl, hst2.out, (fun h => by cases h), Nat.le_refl _⟩, HP2, ⟨Fr.refl _ _ _⟩⟩
   case round =>
    obtain ⟨i, far', L', ag, hi, rfl, rfl, hk', hpa, hPi, hFi⟩ := hrel
    obtain ⟨hpas, hji, hag, hcn⟩ := hpa.out
    have hli := hji.le hbl
    have hfl := hji.fl
    have hgA : ∀ ad, Aa = some ad → ad.block ≠ gf ∧ ad.block ≠ gs := fun ad had => by have := hgea.out ad had; omega
    by_cases hlt : i < bs.length
    ·have hok := hob i hlt
     obtain ⟨f0, f1⟩ := hPi.out.far_cell i (by omega)
     obtain ⟨p0, p1, p2, p3, p4, p5⟩ := hPi.out.cells
     obtain ⟨lg, lf, ls⟩ := hPi.out.lt
     obtain ⟨bk, o, e, hbk, hx⟩ := open48 (Kd.C_below hB hPi.out.below) (by omega)
     subst e
     obtain ⟨x0, x1, x2, x3, x4, x5⟩ := hx i hlt
     have hCi := C_int_fr hr2.out hFi.out hgA
     have hok0 := hok.f0
     have hRE := Aside0.mk (fun (W' : World) (pv : Value) (hW : Below wr.heap.size wr W') => reaches_calls hN hAd pv Aa ca items.length ad (bs.getD i z48) W' (Kd.C_below hCi hW) hca hOA.out hok)
     have hAD := Aside0.mk (fun (W' : World) (hW : Below wr.heap.size wr W') (hf : far'.getD i false = false) => add_calls hG hC (items := items) (hPi.out.step hW) hB hlt hfl hok hli rfl hbl)
     have hjadd := Aside0.mk (fun hf => hji.add hlt hf hok0.1)
     have hcad := Aside0.mk (fun hf => count_set_true far' i (by omega) hf)
     rw [show bs.length - i = (bs.length - (i + 1)) + 1 by omega, pass] at hpas
     clear p0 p1 p2 p3 p5 hx f1 hCi hli
     generalize hbb : bs.getD i z48 = b at *
     cases hf : far'.getD i false with
     | true =>
      rw [hf, Bool.true_or, if_pos rfl] at hpas
      rw [hf] at f0
      replace hpas := Aside0.mk hpas
      replace hji := Aside0.mk hji
      clear hAD hRE hjadd hcad hok hbb
      go_wp2
      go_roundg (bs.length - (i + 1))
      case measure => have := hk'.out; omega
      case rel => exact ⟨i + 1, far', L', ag, hlt, by go_num, rfl, ⟨rfl⟩, ⟨hpas.out, hji.out, hag, hcn⟩, ⟨hPi.out.step (below_alloc (Below.refl _ _) _)⟩, ⟨hFi.out.step (below_alloc (Below.refl _ _) _)⟩⟩
     | false =>
      rw [hf, Bool.false_or] at hpas
      rw [hf] at f0
      have hja := hjadd.out hf
      have hca' := hcad.out hf
      cases hre : reach ad b with
      | true =>
       rw [hre, if_pos rfl] at hpas
       rw [hre] at hRE
       replace hpas := Aside0.mk hpas
       replace hji := Aside0.mk hji
       clear hAD hjadd hcad hok hbb hja
       go_wp2_with (go_at_call 49; refine (hRE.out _ _ (below_alloc (Below.refl _ _) _)).mono ?_; rintro e w2 ⟨rfl, hb2⟩; replace hb2 := Aside0.mk ((below_alloc (Below.refl _ _) _).trans (hb2.mono (by simp))))
       go_roundg (bs.length - (i + 1))
       case measure => have := hk'.out; omega
       case rel => exact ⟨i + 1, far', L', ag, hlt, by go_num, rfl, ⟨rfl⟩, ⟨hpas.out, hji.out, hag, hcn⟩, ⟨hPi.out.step hb2.out⟩, ⟨hFi.out.step hb2.out⟩⟩
      | false =>
       rw [hre, if_neg (by simp)] at hpas
       rw [hre] at hRE
       replace hpas := Aside0.mk hpas
       replace hji := Aside0.mk hji
       replace hja := Aside0.mk hja
       clear hjadd hcad hok hbb
       go_wp2_with (go_at_call 49; refine (hRE.out _ _ (below_alloc (Below.refl _ _) _)).mono ?_; rintro e w2 ⟨rfl, hb2⟩; replace hb2 := Aside0.mk ((below_alloc (Below.refl _ _) _).trans (hb2.mono (by simp))))
       refine (hAD.out _ hb2.out hf).mono ?_
       rintro e w3 ⟨rfl, hP3, hF3⟩
       replace hP3 := Aside0.mk hP3
       replace hF3 := Aside0.mk ((hFi.out.step hb2.out).trans hF3)
       go_wp2
       go_roundg (bs.length - (i + 1))
       case measure => have := hk'.out; omega
       case rel => exact ⟨i + 1, far'.set i true, addStub items L' b, true, hlt, by go_num, rfl, ⟨rfl⟩, ⟨hpas.out, hja.out, fun _ => by omega, by omega⟩, hP3, hF3⟩
    ·rw [show bs.length - i = 0 by omega, pass] at hpas
     have hs := hset'.out
     obtain ⟨q2, q3, q4, q5⟩ := Y.out
     have r2 := (hFi.out.cell (p := ⟨W.heap.size, 0, none⟩) (by simp; omega) hWg.2.1.symm hWg.2.2.symm).trans q2
     have r3 := (hFi.out.cell (p := ⟨W.heap.size, 1, none⟩) (by simp; omega) hWg.2.1.symm hWg.2.2.symm).trans q3
     have r4 := (hFi.out.frozen (p := ⟨W.heap.size, 0, none⟩) (by simp; omega) hWg.2.1.symm hWg.2.2.symm).trans q4
     have r5 := (hFi.out.frozen (p := ⟨W.heap.size, 1, none⟩) (by simp; omega) hWg.2.1.symm hWg.2.2.symm).trans q5
     have hlr := hPi.out.lt.1
     have hsz := hFi.out.size
     clear q2 q3 q4 q5
     cases ag with
     | true =>
      simp only [hpas, if_true] at hs
      replace hs := Aside0.mk hs
      have hcl := List.count_le_length (a := true) (l := far')
      have hag' := hag rfl
      clear hpas hset'
      go_wp2
      go_roundg (bs.length - far'.count true)
      case measure => have := hk.out; omega
      case rel => exact ⟨far', L', n, ⟨rfl, by have := hk.out; omega, hs.out, hji⟩, hPi, ⟨HF2.out.trans hFi.out⟩⟩
     | false =>
      simp only [hpas, Bool.false_eq_true, if_false] at hs
      have hck := check_calls hG hX hN hAd hPi.out h2 hB hvi hli hbl hfl hob hOA.out (C_int_fr hr2.out hFi.out hgA) hca (fun j hj hfj => hji.q _ (hob j hj).f0.1 (hji.s j hj hfj))
      clear hpas hset'
      cases hsc : scan (checkCode bs ad far' L') bs.length 0 with
      | none =>
       rw [hsc] at hs hck
       subst hs
       replace hji := Aside0.mk hji
       go_wp2_with (go_at_call 51; refine hck.mono ?_; rintro e w2 ⟨rfl, hb2⟩; have k0 := (hb2.cell (p := ⟨W.heap.size, 0, none⟩) (by simp; omega)).trans r2; have k1 := (hb2.cell (p := ⟨W.heap.size, 1, none⟩) (by simp; omega)).trans r3; have k2 := (hb2.frozen (p := ⟨W.heap.size, 0, none⟩) (by simp; omega)).trans r4; have k3 := (hb2.frozen (p := ⟨W.heap.size, 1, none⟩) (by simp; omega)).trans r5; replace hb2 := Aside0.mk hb2)
       refine bodyPost_ret (v := .tuple #[.slice Aa ad.length ca, v1, .agg #[.int .i64 0, .int .i64 0]]) (by simp [results, Try.results42, go_sem, k0, k1]) rfl ⟨_, _, rfl, ?_, ⟨_, _, _, rfl⟩, hr1.out, ?_, hji.out, ?_⟩
       ·have hP2 := hPi.out.step hb2.out
        exact (hP2.below.setCell (by simp; omega) _).setCell (by simp; omega) _
       ·have hC2 := Kd.C_below (C_int_fr hr2.out hFi.out hgA) hb2.out
        exact ⟨Aa, ca, rfl, hca, C_set (fun _ _ _ _ h => h) (C_set (fun _ _ _ _ h => h) hC2 (fun ad had => by have := hgea.out ad had; simp; omega)) (fun ad had => by have := hgea.out ad had; simp; omega), fun ad had => by have := hgea.out ad had; omega⟩
       ·have hz := zb.out
        have hbk := (hb2.out.block W.heap.size (by omega)).trans ((hFi.out.block W.heap.size (by omega) hWg.2.1.symm hWg.2.2.symm).trans ((HF2.out.block W.heap.size (by omega) hWg.2.1.symm hWg.2.2.symm).trans hz))
        refine Pl.setRes (Pl.setRes (hPi.out.step hb2.out) hbk (by simp) (by omega) ⟨hWg.1.symm, hWg.2.1.symm, hWg.2.2.symm⟩ _ _) (blk_set hbk _ _) (by simp) (by omega) ⟨hWg.1.symm, hWg.2.1.symm, hWg.2.2.symm⟩ _ _
      | some ie =>
       obtain ⟨ii, ee⟩ := ie
       rw [hsc] at hs hck
       subst hs
       simp only at hck
       go_wp2_with (go_at_call 51; refine hck.mono ?_; rintro e w2 ⟨rfl, hb2⟩; have k0 := (hb2.cell (p := ⟨W.heap.size, 0, none⟩) (by simp; omega)).trans r2; have k1 := (hb2.cell (p := ⟨W.heap.size, 1, none⟩) (by simp; omega)).trans r3; have k2 := (hb2.frozen (p := ⟨W.heap.size, 0, none⟩) (by simp; omega)).trans r4; have k3 := (hb2.frozen (p := ⟨W.heap.size, 1, none⟩) (by simp; omega)).trans r5; replace hb2 := Aside0.mk hb2)
       refine bodyPost_ret (v := .tuple #[.slice Aa ad.length ca, v1, .agg #[.int .i64 ee, .int .i64 (1000 + (ii : Int))]]) (by simp [results, Try.results42, go_sem, k0, k1]) rfl ⟨_, _, rfl, ?_, ⟨_, _, _, rfl⟩, hr1.out, ?_⟩
       ·have hP2 := hPi.out.step hb2.out
        exact (hP2.below.setCell (by simp; omega) _).setCell (by simp; omega) _
       ·intro h; exact absurd h (scan_some _ _ hsc)
  ·have hset' := hset.out
   rw [if_pos hcz] at hset'
   replace hset' := Aside0.mk hset'
   clear hset hin
   have hcz' : (code != 0) = true := by simpa using hcz
   have hb2 : Below w1.heap.size w1 (w1.alloc (Obj.cells #[Value.int IntKind.i64 code, Value.int IntKind.i64 idx] 29)) := below_alloc (Below.refl _ _) _
   go_wp2_with fail
   have q0 : (w1.alloc (Obj.cells #[Value.int IntKind.i64 code, Value.int IntKind.i64 idx] 29)).cell? ⟨w1.heap.size, 0, none⟩ = some (.int .i64 code) := by simp
   have q1 : (w1.alloc (Obj.cells #[Value.int IntKind.i64 code, Value.int IntKind.i64 idx] 29)).cell? ⟨w1.heap.size, 1, none⟩ = some (.int .i64 idx) := by simp
   have q2 := (hb2.cell (p := ⟨W.heap.size, 0, none⟩) (by simp; omega)).trans y0
   have q3 := (hb2.cell (p := ⟨W.heap.size, 1, none⟩) (by simp; omega)).trans y1
   have q4 := (hb2.frozen (p := ⟨W.heap.size, 0, none⟩) (by simp; omega)).trans y2
   have q5 := (hb2.frozen (p := ⟨W.heap.size, 1, none⟩) (by simp; omega)).trans y3
   have HP2 := Aside0.mk (HP1.out.step hb2)
   generalize w1.alloc (Obj.cells #[Value.int IntKind.i64 code, Value.int IntKind.i64 idx] 29) = X at *
   clear y0 y1 y2 y3 hb2
   go_still_tail 3, (by kernel_rfl)
   go_wp2
   have hR := hset'.out
   subst hR
   refine bodyPost_ret (v := .tuple #[.slice none 0 0, .slice none 0 0, .agg #[.int .i64 code, .int .i64 idx]]) (by simp [results, Try.results42, go_sem, q2, q3]) rfl ⟨_, _, rfl, ?_, ⟨_, _, _, rfl⟩, ⟨_, _, _, rfl⟩, ?_⟩
   ·have hX := HP2.out.below
    exact (((below_drew hX)).setCell (by simp; omega) _).setCell (by simp; omega) _
   ·intro h; exact absurd h hcz
end Go.Proofs.Ytogcgcjhoebooaa
end
section
set_option linter.unusedVariables false
set_option linter.unusedSimpArgs false
namespace Go.Proofs.Ytogcgcjhoebooaa
open Go.RowKit Go.Proofs.YtogcgcjhoebooaaW.PrintWords Go.Proofs.YtogcgcjhoebooaaW.PrintLast Go.Proofs.Ytogcgcjhoebooaa.PVeneerMatchesSpec
def cells54 (l : List S54) : List Value := l.flatMap fun x => [.int .i64 x.f0, .int .i64 x.f1, .int .i64 x.f2, .int .i64 x.f3, .int .i64 x.f4]
theorem cells54_length (l : List S54) : (cells54 l).length = l.length * 5 := by
  induction l with
  | nil => rfl
  | cons x l ih => simp only [cells54, List.flatMap_cons, List.length_append, List.length_cons, List.length_nil] at ih ⊢; rw [ih]; omega
theorem cells54_append (l m : List S54) : cells54 (l ++ m) = cells54 l ++ cells54 m := by simp [cells54]
theorem cells54_at (l : List S54) : ∀ (i : Nat), i < l.length → (cells54 l)[i * 5]? = some (.int .i64 (l.getD i z54).f0) ∧ (cells54 l)[i * 5 + 1]? = some (.int .i64 (l.getD i z54).f1) ∧ (cells54 l)[i * 5 + 2]? = some (.int .i64 (l.getD i z54).f2) ∧ (cells54 l)[i * 5 + 3]? = some (.int .i64 (l.getD i z54).f3) ∧ (cells54 l)[i * 5 + 4]? = some (.int .i64 (l.getD i z54).f4) := by
 induction l with
 | nil => intro i hi; simp at hi
 | cons x l ih =>
  intro i hi
  have hc : cells54 (x :: l) = .int .i64 x.f0 :: .int .i64 x.f1 :: .int .i64 x.f2 :: .int .i64 x.f3 :: .int .i64 x.f4 :: cells54 l := rfl
  rw [hc]
  cases i with
  | zero => exact ⟨rfl, rfl, rfl, rfl, rfl⟩
  | succ i =>
   have h := ih i (by simpa using hi)
   rw [show (i + 1) * 5 = i * 5 + 5 by omega]
   simpa using h
theorem C54_of_own {w : World} {base : Nat} {v : Value} {l : List S54} (h : w.ownsRow base 54 5 v l.length (cells54 l)) (hm : l.length ≤ 9223372036854775807) : ∃ A c, v = .slice A l.length c ∧ l.length ≤ c ∧ Kd.C k54 w A l.length l ∧ ∀ ad, A = some ad → base ≤ ad.block := by
 rcases h.2 with ⟨rfl, h0⟩ | ⟨g, cap, cur, rfl, hb, hg, hn, hc, hs, ht⟩
 ·refine ⟨none, 0, by rw [h0], by omega, ⟨rfl, hm, fun hp => absurd hp (by omega)⟩, fun ad h => by cases h⟩
 ·refine ⟨_, cap, rfl, hn, ⟨rfl, hm, fun hp => ⟨_, rfl, fun j p hj => ?_⟩⟩, fun ad h => by cases h; exact hb⟩
  have hjl : j < l.length := (List.getElem?_eq_some_iff.1 hj).1
  have hp' : l.getD j z54 = p := by rw [List.getD_eq_getElem?_getD, hj]; rfl
  obtain ⟨a0, a1, a2, a3, a4⟩ := cells54_at l j hjl
  rw [hp'] at a0 a1 a2 a3 a4
  have hcell := h.cells (g := g) rfl
  refine ⟨[.int .i64 p.f0, .int .i64 p.f1, .int .i64 p.f2, .int .i64 p.f3, .int .i64 p.f4], rfl, k54_mk w p, fun i u hu => ?_⟩
  have h3 : k54.sz = 5 := rfl
  rw [h3]
  refine hcell _ _ ?_
  match i, hu with
  | 0, hu => simp at hu; subst hu; exact a0
  | 1, hu => simp at hu; subst hu; exact a1
  | 2, hu => simp at hu; subst hu; exact a2
  | 3, hu => simp at hu; subst hu; exact a3
  | 4, hu => simp at hu; subst hu; exact a4
  | i + 5, hu => simp at hu
theorem info54 : (Try.prog.info? 54).map (fun i => (i.zero, i.size, i.bytes)) = some (some (.agg #[(.int .i64 0), (.int .i64 0), (.int .i64 0), (.int .i64 0), (.int .i64 0)]), 5, 40) := by kernel_rfl
theorem info4 : (Try.prog.info? 4).map (fun i => (i.zero, i.size, i.bytes)) = some (some (.bool false), 1, 1) := by kernel_rfl
theorem info87 : (Try.prog.info? 87).map (fun i => (i.zero, i.size, i.bytes)) = some (some (.slice none 0 0), 1, 24) := by kernel_rfl
end Go.Proofs.Ytogcgcjhoebooaa
end
section
set_option linter.unusedVariables false
set_option linter.unusedSimpArgs false
namespace Go.Proofs.Ytogcgcjhoebooaa
open Go.RowKit Go.Proofs.YtogcgcjhoebooaaW.PrintWords Go.Proofs.YtogcgcjhoebooaaW.PrintLast Go.Proofs.Ytogcgcjhoebooaa.PVeneerMatchesSpec
def RowD {α : Type} (d : Kd α) (base : Nat) (W : World) (v : Value) (xs : List α) : Prop :=
  ∃ A c, v = .slice A xs.length c ∧ xs.length ≤ c ∧ Kd.C d W A xs.length xs ∧ ∀ ad, A = some ad → base ≤ ad.block
theorem made_list (z : Value) (n : Nat) : madeCells #[z] n = (List.replicate n z).toArray := by
  unfold madeCells
  apply Array.ext
  · simp
  · intro i h1 h2
    simp [Nat.mod_one]
theorem pl_stub0 (W : World) (g gf gs n i : Nat) (v : Value) (h : (List.replicate n (Value.slice none 0 0))[i]? = some v) : StubRow W g gf gs v (goals [] i) := by
  rw [List.getElem?_replicate] at h
  split at h
  · injection h with h
    subst h
    exact ⟨none, 0, rfl, Nat.le_refl _, ⟨rfl, Nat.zero_le _, fun h => absurd h (Nat.lt_irrefl 0)⟩, fun ad h => by cases h⟩
  · cases h
theorem plA {w0 : World} (vs : Array Value) (hvs : vs.size = 4) (n m : Nat) : Pl w0 (((w0.drew.alloc (.cells (madeCells #[.bool false] n) 4)).alloc (.cells (madeCells #[.slice none 0 0] m) 87)).alloc (.cells (vs ++ #[.slice (some ⟨w0.heap.size, 0, none⟩) n n, .slice (some ⟨w0.heap.size + 1, 0, none⟩) m m]) 85)) (w0.heap.size + 2) w0.heap.size (w0.heap.size + 1) vs m (List.replicate n false) [] := by
 have hA : (w0.drew.alloc (.cells (madeCells #[.bool false] n) 4)).heap.size = w0.heap.size + 1 := by simp
 have hB : ((w0.drew.alloc (.cells (madeCells #[.bool false] n) 4)).alloc (.cells (madeCells #[.slice none 0 0] m) 87)).heap.size = w0.heap.size + 2 := by simp
 refine ⟨below_alloc (below_alloc (below_alloc (below_drew (Below.refl _ _)) _) _) _, ?_, hvs, ?_, ⟨List.replicate m (.slice none 0 0), ?_, by simp, fun i v hv => pl_stub0 _ _ _ _ _ _ _ hv⟩, by omega, by omega⟩
 ·have h := alloc_block ((w0.drew.alloc (.cells (madeCells #[.bool false] n) 4)).alloc (.cells (madeCells #[.slice none 0 0] m) 87)) (.cells (vs ++ #[.slice (some ⟨w0.heap.size, 0, none⟩) n n, .slice (some ⟨w0.heap.size + 1, 0, none⟩) m m]) 85)
  rw [hB] at h
  rw [h, List.length_replicate]
 ·have h := alloc_block w0.drew (.cells (madeCells #[.bool false] n) 4)
  rw [made_list, show (List.replicate n (Value.bool false)) = (List.replicate n false).map Value.bool by simp] at h ⊢
  exact blk_alloc (blk_alloc h _) _
 ·have h := alloc_block (w0.drew.alloc (.cells (madeCells #[.bool false] n) 4)) (.cells (madeCells #[.slice none 0 0] m) 87)
  rw [hA] at h
  rw [made_list (.slice none 0 0)] at h ⊢
  exact blk_alloc h _
theorem plB {w0 : World} (vs : Array Value) (hvs : vs.size = 4) (n m : Nat) : Pl w0 (((w0.drew.alloc (.cells (madeCells #[.slice none 0 0] m) 87)).alloc (.cells (madeCells #[.bool false] n) 4)).alloc (.cells (vs ++ #[.slice (some ⟨w0.heap.size + 1, 0, none⟩) n n, .slice (some ⟨w0.heap.size, 0, none⟩) m m]) 85)) (w0.heap.size + 2) (w0.heap.size + 1) w0.heap.size vs m (List.replicate n false) [] := by
 have hA : (w0.drew.alloc (.cells (madeCells #[.slice none 0 0] m) 87)).heap.size = w0.heap.size + 1 := by simp
 have hB : ((w0.drew.alloc (.cells (madeCells #[.slice none 0 0] m) 87)).alloc (.cells (madeCells #[.bool false] n) 4)).heap.size = w0.heap.size + 2 := by simp
 refine ⟨below_alloc (below_alloc (below_alloc (below_drew (Below.refl _ _)) _) _) _, ?_, hvs, ?_, ⟨List.replicate m (.slice none 0 0), ?_, by simp, fun i v hv => pl_stub0 _ _ _ _ _ _ _ hv⟩, by omega, by omega⟩
 ·have h := alloc_block ((w0.drew.alloc (.cells (madeCells #[.slice none 0 0] m) 87)).alloc (.cells (madeCells #[.bool false] n) 4)) (.cells (vs ++ #[.slice (some ⟨w0.heap.size + 1, 0, none⟩) n n, .slice (some ⟨w0.heap.size, 0, none⟩) m m]) 85)
  rw [hB] at h
  rw [h, List.length_replicate]
 ·have h := alloc_block (w0.drew.alloc (.cells (madeCells #[.slice none 0 0] m) 87)) (.cells (madeCells #[.bool false] n) 4)
  rw [hA] at h
  rw [made_list (.bool false), show (List.replicate n (Value.bool false)) = (List.replicate n false).map Value.bool by simp] at h ⊢
  exact blk_alloc h _
 ·have h := alloc_block w0.drew (.cells (madeCells #[.slice none 0 0] m) 87)
  rw [made_list (.slice none 0 0)] at h ⊢
  exact blk_alloc (blk_alloc h _) _
theorem below_grown_row {B : Nat} {W W1 : World} {row : Option Nat} (h : W.grownBy W1 row) (hB : B ≤ W.heap.size) (hr : ∀ g, row = some g → B ≤ g) : Below B W W1 :=
  ⟨h.os, h.tape, h.output, h.size, fun k hk => h.block k (by omega) (fun e => by have := hr k e.symm; omega)⟩
theorem C_bool_blk {w : World} {g : Nat} {l : List Bool} (h : w.heap[g]? = some (.cells (l.map Value.bool).toArray 4 (0, 0))) (hm : l.length ≤ 1000) : Kd.C Kd.bool w (some ⟨g, 0, none⟩) l.length l := by
 refine ⟨rfl, by omega, fun hp => ⟨_, rfl, fun j p hj => ⟨[.bool p], rfl, rfl, fun i u hu => ?_⟩⟩⟩
 match i, hu with
 | 0, hu =>
  have h1 : Kd.bool.sz = 1 := rfl
  simp at hu
  subst hu
  rw [h1, show j * 1 + 0 = j by omega]
  have ha : (⟨g, 0, none⟩ : Addr).add j = ⟨g, j, none⟩ := by unfold Addr.add; split <;> simp_all
  rw [ha]
  simp [World.cell?, h, hj]
 | i + 1, hu => simp at hu
theorem k54_any (W W' : World) (x : S54) (cs : List Value) (h : k54.K W x cs) : k54.K W' x cs := by
  obtain rfl := k54_open h
  exact k54_mk W' x
theorem Below6 {B b1 b2 : Nat} {w W : World} {u0 u1 u2 u3 v0 v1 : Value} (h : Below B w W) (h1 : B ≤ b1) (h2 : B ≤ b2) :
  Below B w ((((((W.setCell ⟨b1, 0, none⟩ u0).setCell ⟨b1, 1, none⟩ u1).setCell ⟨b1, 2, none⟩ u2).setCell ⟨b1, 3, none⟩ u3).setCell ⟨b2, 0, none⟩ v0).setCell ⟨b2, 1, none⟩ v1) :=
 ((((((h.setCell (p := ⟨b1, 0, none⟩) h1 _).setCell (p := ⟨b1, 1, none⟩) h1 _).setCell (p := ⟨b1, 2, none⟩) h1 _).setCell (p := ⟨b1, 3, none⟩) h1 _).setCell (p := ⟨b2, 0, none⟩) h2 _).setCell (p := ⟨b2, 1, none⟩) h2 _)
theorem blk6 {b1 b2 g : Nat} {W : World} {u0 u1 u2 u3 v0 v1 : Value} {t : TypeId} {cs : Array Value} (h : W.heap[g]? = some (.cells cs t (0, 0))) (h1 : g ≠ b1) (h2 : g ≠ b2) :
  ((((((W.setCell ⟨b1, 0, none⟩ u0).setCell ⟨b1, 1, none⟩ u1).setCell ⟨b1, 2, none⟩ u2).setCell ⟨b1, 3, none⟩ u3).setCell ⟨b2, 0, none⟩ v0).setCell ⟨b2, 1, none⟩ v1).heap[g]? = some (.cells cs t (0, 0)) :=
 blk_far (p := ⟨b2, 1, none⟩) (blk_far (p := ⟨b2, 0, none⟩) (blk_far (p := ⟨b1, 3, none⟩) (blk_far (p := ⟨b1, 2, none⟩) (blk_far (p := ⟨b1, 1, none⟩) (blk_far (p := ⟨b1, 0, none⟩) h h1 _) h1 _) h1 _) h1 _) h2 _) h2 _
theorem C_set6 {α : Type} {d : Kd α} (hd : ∀ (W W' : World) (x : α) (cs : List Value), d.K W x cs → d.K W' x cs) {b1 b2 n : Nat} {W : World} {A : Option Addr} {xs : List α} {u0 u1 u2 u3 v0 v1 : Value} (h : d.C W A n xs) (hA : ∀ ad, A = some ad → ad.block ≠ b1 ∧ ad.block ≠ b2) :
  d.C ((((((W.setCell ⟨b1, 0, none⟩ u0).setCell ⟨b1, 1, none⟩ u1).setCell ⟨b1, 2, none⟩ u2).setCell ⟨b1, 3, none⟩ u3).setCell ⟨b2, 0, none⟩ v0).setCell ⟨b2, 1, none⟩ v1) A n xs :=
 C_set hd (C_set hd (C_set hd (C_set hd (C_set hd (C_set hd h (p := ⟨b1, 0, none⟩) (fun a ha => (hA a ha).1)) (p := ⟨b1, 1, none⟩) (fun a ha => (hA a ha).1)) (p := ⟨b1, 2, none⟩) (fun a ha => (hA a ha).1)) (p := ⟨b1, 3, none⟩) (fun a ha => (hA a ha).1)) (p := ⟨b2, 0, none⟩) (fun a ha => (hA a ha).2)) (p := ⟨b2, 1, none⟩) (fun a ha => (hA a ha).2)
def stubsOf (items : List S57) (L : List S54) (i : Nat) : List S54 := (goals L i).mapIdx (mkStub items i)
def outTo (items : List S57) (L : List S54) (n : Nat) : List S54 := (List.range n).flatMap (stubsOf items L)
theorem outTo_succ (items : List S57) (L : List S54) (n : Nat) : outTo items L (n + 1) = outTo items L n ++ stubsOf items L n := by simp [outTo, List.range_succ]
theorem stubsOf_length (items : List S57) (L : List S54) (i : Nat) : (stubsOf items L i).length = (goals L i).length := by simp [stubsOf]
theorem stubsOf_take (items : List S57) (L : List S54) (i j : Nat) (hj : j < (goals L i).length) : (stubsOf items L i).take (j + 1) = (stubsOf items L i).take j ++ [mkStub items i j ((goals L i).getD j z89)] := by
  rw [List.take_add_one, List.getElem?_eq_getElem (by rw [stubsOf_length]; exact hj)]
  simp [stubsOf, List.getD_eq_getElem?_getD, hj]
theorem outTo_ordered {items : List S57} {L : List S54} (h : OrdL items L) (n : Nat) : outTo items L n = ordered L n := by
  unfold outTo ordered stubsOf
  congr 1
  funext i
  exact (h i).symm
theorem outTo_le (items : List S57) {L : List S54} (h : OrdL items L) (n : Nat) : (outTo items L n).length ≤ n * L.length := by
  induction n with
  | zero => simp [outTo]
  | succ n ih =>
    rw [outTo_succ, List.length_append, stubsOf_length, goals_length]
    have := cnt_le L n
    rw [Nat.succ_mul]
    omega
theorem open89 {w : World} {A : Option Addr} {n : Nat} {xs : List S89} (h : Kd.C k89 w A n xs) (hn : 0 < n) : ∃ b o, A = some ⟨b, o, none⟩ ∧ b < w.heap.size ∧ ∀ i, i < n → w.cell? ⟨b, o + i * 3, none⟩ = some (.int .i64 (xs.getD i z89).f0) ∧ w.cell? ⟨b, o + i * 3 + 1, none⟩ = some (.int .i64 (xs.getD i z89).f1) ∧ w.cell? ⟨b, o + i * 3 + 2, none⟩ = some (.int .i64 (xs.getD i z89).f2) := by
 obtain ⟨b, o, hA, hb, hc⟩ := C_open h hn (by decide : 0 < 3) z89
 refine ⟨b, o, hA, hb, fun i hi => ?_⟩
 obtain ⟨c, hcl, hk, hx⟩ := hc i hi
 obtain rfl := k89_open hk
 exact ⟨hx 0 _ rfl, hx 1 _ rfl, hx 2 _ rfl⟩
theorem settled_def (os : List S72) (items : List S57) (bs : List S48) : settled os items bs = settleFrom os items bs (bs.length + 1) (List.replicate bs.length false) [] := rfl
set_option maxHeartbeats 4000000 in
set_option maxRecDepth 100000 in
theorem plan_calls (hAs : AssignCalls) (hG : GoalCalls) (hC : ContCalls) (hX : IndexCalls) (hN : NumCalls 55) (hAd : AddrCalls)
  {w : World} {A0 A1 A2 AB : Option Addr} {c0 c1 c2 cB : Nat} {os : List S72} {rs : List S76} {items : List S57} {bs : List S48} {m : Nat}
  (h0 : Kd.C k72 w A0 os.length os) (hc0 : os.length ≤ c0) (h1 : Kd.C k76 w A1 rs.length rs) (hc1 : rs.length ≤ c1) (h2 : Kd.C k57 w A2 items.length items) (hc2 : items.length ≤ c2) (hB : Kd.C k48 w AB bs.length bs) (hcB : bs.length ≤ cB)
  (hvo : ValidO os) (hvi : ValidI items m) (hbl : bs.length ≤ 400) (hob : ∀ i, i < bs.length → OkB items.length (bs.getD i z48)) :
  Calls Try.prog 28 #[.agg #[.slice A0 os.length c0, .slice A1 rs.length c1], .slice A2 items.length c2, .slice AB bs.length cB] w fun e W' => ∃ vf vs va vsp : Value, e = .returned (.tuple #[.agg #[vf, vs, va, vsp], .agg #[.int .i64 (settled os items bs).code, .int .i64 (settled os items bs).idx]]) ∧
   Below w.heap.size w W' ∧ (IsSl vf ∧ IsSl vs ∧ IsSl va ∧ IsSl vsp) ∧ ((settled os items bs).code = 0 → (settled os items bs).idx = 0 ∧ RowD Kd.bool w.heap.size W' vf (settled os items bs).far ∧ RowD k54 w.heap.size W' vs (ordered (settled os items bs).L items.length) ∧ RowD (Kd.int .i64) w.heap.size W' va (settled os items bs).ad) := by
 have hu29 := Try.underlying29
 have hlen := hvi.len
 have hmk31 := print_make_of (P := Try.prog) 31 4 (.bool false) 1 Try.underlying31 info4 rfl (by decide) bs.length (by omega)
 have hmk83 := print_make_of (P := Try.prog) 83 87 (.slice none 0 0) 24 Try.underlying83 info87 rfl (by decide) items.length (by omega)
 generalize hR : settled os items bs = R
 have HR := Aside0.mk hR
 clear hR
 go_enter Try.func28, Try.ntmps28
 go_upto_region 1 with fail
 generalize hw0 : ((w.alloc (Obj.cells #[Value.slice A0 os.length c0, Value.slice A1 rs.length c1] 25)).alloc (Obj.cells #[Value.slice none 0 0, Value.slice none 0 0, Value.slice none 0 0, Value.slice none 0 0] 66)).alloc (Obj.cells #[Value.int IntKind.i64 0, Value.int IntKind.i64 0] 29) = w0
 have hsz : w0.heap.size = w.heap.size + 3 := by rw [← hw0]; simp
 have hww : Below w.heap.size w w0 := by rw [← hw0]; exact below_alloc (below_alloc (below_alloc (Below.refl _ _) _) _) _
 have z0 : w0.cell? ⟨w.heap.size, 0, none⟩ = some (.slice A0 os.length c0) := by rw [← hw0]; exact (World.cell?_alloc_past _ _ _ (by simp; omega)).trans ((World.cell?_alloc_past _ _ _ (by simp)).trans (World.cell?_alloc_at _ _ _ _ rfl))
 have z1 : w0.cell? ⟨w.heap.size, 1, none⟩ = some (.slice A1 rs.length c1) := by rw [← hw0]; exact (World.cell?_alloc_past _ _ _ (by simp; omega)).trans ((World.cell?_alloc_past _ _ _ (by simp)).trans (World.cell?_alloc_at _ _ _ _ rfl))
 have hA1 : (w.alloc (Obj.cells #[Value.slice A0 os.length c0, Value.slice A1 rs.length c1] 25)).heap.size = w.heap.size + 1 := by simp
 have hA2 : ((w.alloc (Obj.cells #[Value.slice A0 os.length c0, Value.slice A1 rs.length c1] 25)).alloc (Obj.cells #[Value.slice none 0 0, Value.slice none 0 0, Value.slice none 0 0, Value.slice none 0 0] 66)).heap.size = w.heap.size + 1 + 1 := by simp
 have zb : w0.heap[w.heap.size + 1]? = some (.cells #[Value.slice none 0 0, Value.slice none 0 0, Value.slice none 0 0, Value.slice none 0 0] 66 (0, 0)) := by rw [← hw0]; exact blk_alloc (by have := alloc_block (w.alloc (Obj.cells #[Value.slice A0 os.length c0, Value.slice A1 rs.length c1] 25)) (Obj.cells #[Value.slice none 0 0, Value.slice none 0 0, Value.slice none 0 0, Value.slice none 0 0] 66); rw [hA1] at this; exact this) _
 have zc : w0.heap[w.heap.size + 1 + 1]? = some (.cells #[Value.int IntKind.i64 0, Value.int IntKind.i64 0] 29 (0, 0)) := by rw [← hw0]; have := alloc_block ((w.alloc (Obj.cells #[Value.slice A0 os.length c0, Value.slice A1 rs.length c1] 25)).alloc (Obj.cells #[Value.slice none 0 0, Value.slice none 0 0, Value.slice none 0 0, Value.slice none 0 0] 66)) (Obj.cells #[Value.int IntKind.i64 0, Value.int IntKind.i64 0] 29); rw [hA2] at this; exact this
 clear hw0
 have hsd : w0.drew.heap.size = w.heap.size + 3 := hsz
 have h0' := Aside0.mk (Kd.C_below h0 hww)
 have h1' := Aside0.mk (Kd.C_below h1 hww)
 have h2' := Aside0.mk (Kd.C_below h2 hww)
 have hB' := Aside0.mk (Kd.C_below hB hww)
 have Z := Aside0.mk (And.intro hsz (And.intro hww (And.intro zb zc)))
 clear h0 h1 h2 hB zb zc
 go_cut [8] from 17 to 27 (fun s8 wx => ∃ g gf gs : Nat, s8 = .pointer (some ⟨g, 0, none⟩) ∧ Aside0 (Pl w0 wx g gf gs #[.slice A0 os.length c0, .slice A1 rs.length c1, .slice A2 items.length c2, .slice AB bs.length cB] items.length (List.replicate bs.length false) []))
 case first =>
  refine start_ (n := 12) (S := (fun w' => w'.cell? ⟨w.heap.size, 0, none⟩ = some (.slice A0 os.length c0) ∧ w'.cell? ⟨w.heap.size, 1, none⟩ = some (.slice A1 rs.length c1))) (ds := []) #[false, false, false, false, false, false, false, false, false, false, false, false] (by kernel_rfl) rfl rfl ⟨z0, z1⟩ (fun hHeld => ?_)
  refine take_ (i := 0) (N := (some 17)) (v := ?_) (a' := ?_) #[true, false, false, false, false, false, false, false, false, false, false, false] rfl rfl (by kernel_rfl) (fun _ _ _ h => h) (Or.inl ⟨by rfl, ?_⟩) hHeld ?_ ?_
  rotate_left
  ·rintro w' ⟨s0, s1⟩
   go_simp
   with_reducible rfl
  rotate_left
  ·simp only [Act.put, List.setIfInBounds_toArray, List.set_cons_zero, List.set_cons_succ, i64_w, i32_w]
   rfl
  refine take_ (i := 1) (N := (some 18)) (v := ?_) (a' := ?_) #[true, true, false, false, false, false, false, false, false, false, false, false] rfl rfl (by kernel_rfl) (fun _ _ _ h => h) (Or.inl ⟨by rfl, ?_⟩) hHeld ?_ ?_
  rotate_left
  ·rintro w' ⟨s0, s1⟩
   go_simp
   with_reducible rfl
  rotate_left
  ·simp only [Act.put, List.setIfInBounds_toArray, List.set_cons_zero, List.set_cons_succ, i64_w, i32_w]
   rfl
  refine take_ (i := 2) (N := (some 19)) (v := ?_) (a' := ?_) #[true, true, true, false, false, false, false, false, false, false, false, false] rfl rfl (by kernel_rfl) (fun _ _ _ h => h) (Or.inl ⟨by rfl, ?_⟩) hHeld ?_ ?_
  rotate_left
  ·rintro w' ⟨s0, s1⟩
   go_simp
   with_reducible rfl
  rotate_left
  ·simp only [Act.put, List.setIfInBounds_toArray, List.set_cons_zero, List.set_cons_succ, i64_w, i32_w]
   rfl
  refine take_ (i := 3) (N := (some 20)) (v := ?_) (a' := ?_) #[true, true, true, true, false, false, false, false, false, false, false, false] rfl rfl (by kernel_rfl) (fun _ _ _ h => h) (Or.inl ⟨by rfl, ?_⟩) hHeld ?_ ?_
  rotate_left
  ·rintro w' ⟨s0, s1⟩
   go_simp
   with_reducible rfl
  rotate_left
  ·simp only [Act.put, List.setIfInBounds_toArray, List.set_cons_zero, List.set_cons_succ, i64_w, i32_w]
   rfl
  refine take_ (i := 4) (N := (some 21)) (v := ?_) (a' := ?_) #[true, true, true, true, true, false, false, false, false, false, false, false] rfl rfl (by kernel_rfl) (fun _ _ _ h => h) (Or.inl ⟨by rfl, ?_⟩) hHeld ?_ ?_
  rotate_left
  ·rintro w' ⟨s0, s1⟩
   go_simp
   with_reducible rfl
  rotate_left
  ·simp only [Act.put, List.setIfInBounds_toArray, List.set_cons_zero, List.set_cons_succ, i64_w, i32_w]
   rfl
  refine take_ (i := 6) (N := (some 23)) (v := ?_) (a' := ?_) #[true, true, true, true, true, false, true, false, false, false, false, false] rfl rfl (by kernel_rfl) (fun _ _ _ h => h) (Or.inl ⟨by rfl, ?_⟩) hHeld ?_ ?_
  rotate_left
  ·rintro w' ⟨s0, s1⟩
   go_simp
   with_reducible rfl
  rotate_left
  ·simp only [Act.put, List.setIfInBounds_toArray, List.set_cons_zero, List.set_cons_succ, i64_w, i32_w]
   rfl
  refine take_ (i := 7) (N := (some 24)) (v := ?_) (a' := ?_) #[true, true, true, true, true, false, true, true, false, false, false, false] rfl rfl (by kernel_rfl) (fun _ _ _ h => h) (Or.inl ⟨by rfl, ?_⟩) hHeld ?_ ?_
  rotate_left
  ·rintro w' ⟨s0, s1⟩
   go_simp
   with_reducible rfl
  rotate_left
  ·simp only [Act.put, List.setIfInBounds_toArray, List.set_cons_zero, List.set_cons_succ, i64_w, i32_w]
   rfl
  refine two_ (i := 5) (j := 8) (Ni := some 22) (Nj := some 25) #[true, true, true, true, true, true, true, true, false, false, false, false] #[true, true, true, true, true, false, true, true, true, false, false, false] rfl rfl rfl rfl (by kernel_rfl) (by decide) (by decide) (fun K hK => ?_) (fun K hK => ?_)
  ·refine value_ (v := .slice (some ⟨w0.heap.size, 0, none⟩) bs.length bs.length) (w1 := w0.drew.alloc (.cells (madeCells #[.bool false] bs.length) 4)) (by rfl) rfl ?_ ?_
   ·first | (go_simp; done) | (unfold execOp; simp [Act.eval, hmk31, go_sem])
   refine hK.out _ _ ⟨(World.cell?_alloc_past _ _ _ (by omega)).trans z0, (World.cell?_alloc_past _ _ _ (by omega)).trans z1⟩ (fun hHeld => ?_)
   clear hK K
   refine norm_ (a' := ?_) ?_ ?_
   rotate_left
   ·simp only [Act.put, List.setIfInBounds_toArray, List.set_cons_zero, List.set_cons_succ, i64_w, i32_w]
    rfl
   refine one_ (i := 8) (N := (some 25)) #[true, true, true, true, true, true, true, true, true, false, false, false] rfl rfl (by kernel_rfl) (by decide) (fun K hK => ?_)
   refine value_ (v := .slice (some ⟨w0.heap.size + 1, 0, none⟩) items.length items.length) (w1 := (w0.drew.alloc (.cells (madeCells #[.bool false] bs.length) 4)).alloc (.cells (madeCells #[.slice none 0 0] items.length) 87)) (by rfl) rfl ?_ ?_
   ·first | (go_simp; done) | (unfold execOp; simp [Act.eval, hmk83, go_sem])
   refine hK.out _ _ ⟨(World.cell?_alloc_past _ _ _ (by simp; omega)).trans ((World.cell?_alloc_past _ _ _ (by omega)).trans z0), (World.cell?_alloc_past _ _ _ (by simp; omega)).trans ((World.cell?_alloc_past _ _ _ (by omega)).trans z1)⟩ (fun hHeld => ?_)
   clear hK K
   refine norm_ (a' := ?_) ?_ ?_
   rotate_left
   ·simp only [Act.put, List.setIfInBounds_toArray, List.set_cons_zero, List.set_cons_succ, i64_w, i32_w]
    rfl
   refine take_ (i := 9) (N := (some 26)) (v := ?_) (a' := ?_) #[true, true, true, true, true, true, true, true, true, true, false, false] rfl rfl (by kernel_rfl) (fun _ _ _ h => h) (Or.inl ⟨by rfl, ?_⟩) hHeld ?_ ?_
   rotate_left
   ·rintro w' ⟨s0, s1⟩
    go_simp
    with_reducible rfl
   rotate_left
   ·simp only [Act.put, List.setIfInBounds_toArray, List.set_cons_zero, List.set_cons_succ, i64_w, i32_w]
    rfl
   refine one_ (i := 10) (N := (some 27)) #[true, true, true, true, true, true, true, true, true, true, true, false] rfl rfl (by kernel_rfl) (by decide) (fun K hK => ?_)
   refine value_ (v := .pointer (some ⟨w0.heap.size + 2, 0, none⟩)) (w1 := ((w0.drew.alloc (.cells (madeCells #[.bool false] bs.length) 4)).alloc (.cells (madeCells #[.slice none 0 0] items.length) 87)).alloc (.cells #[.slice A0 os.length c0, .slice A1 rs.length c1, .slice A2 items.length c2, .slice AB bs.length cB, .slice (some ⟨w0.heap.size, 0, none⟩) bs.length bs.length, .slice (some ⟨w0.heap.size + 1, 0, none⟩) items.length items.length] 85)) (by rfl) rfl ?_ ?_
   ·go_simp
   refine hK.out _ _ ⟨(World.cell?_alloc_past _ _ _ (by simp; omega)).trans ((World.cell?_alloc_past _ _ _ (by simp; omega)).trans ((World.cell?_alloc_past _ _ _ (by omega)).trans z0)), (World.cell?_alloc_past _ _ _ (by simp; omega)).trans ((World.cell?_alloc_past _ _ _ (by simp; omega)).trans ((World.cell?_alloc_past _ _ _ (by omega)).trans z1))⟩ (fun hHeld => ?_)
   clear hK K
   refine norm_ (a' := ?_) ?_ ?_
   rotate_left
   ·simp only [Act.put, List.setIfInBounds_toArray, List.set_cons_zero, List.set_cons_succ, i64_w, i32_w]
    rfl
   refine take_ (i := 11) (N := (some 8)) (v := ?_) (a' := ?_) #[true, true, true, true, true, true, true, true, true, true, true, true] rfl rfl (by kernel_rfl) (fun _ _ _ h => h) (Or.inl ⟨by rfl, ?_⟩) hHeld ?_ ?_
   rotate_left
   ·rintro w' ⟨s0, s1⟩
    go_simp
    with_reducible rfl
   rotate_left
   ·simp only [Act.put, List.setIfInBounds_toArray, List.set_cons_zero, List.set_cons_succ, i64_w, i32_w]
    rfl
   refine done_ (by kernel_rfl) ?_
   go_wp2_with fail
   go_meet
   refine ⟨_, w0.heap.size, w0.heap.size + 1, rfl, ⟨?_⟩⟩
   rw [show w.heap.size + 3 + 2 = w0.heap.size + 2 by omega]
   exact plA #[.slice A0 os.length c0, .slice A1 rs.length c1, .slice A2 items.length c2, .slice AB bs.length cB] rfl bs.length items.length
  ·refine value_ (v := .slice (some ⟨w0.heap.size, 0, none⟩) items.length items.length) (w1 := w0.drew.alloc (.cells (madeCells #[.slice none 0 0] items.length) 87)) (by rfl) rfl ?_ ?_
   ·first | (go_simp; done) | (unfold execOp; simp [Act.eval, hmk83, go_sem])
   refine hK.out _ _ ⟨(World.cell?_alloc_past _ _ _ (by omega)).trans z0, (World.cell?_alloc_past _ _ _ (by omega)).trans z1⟩ (fun hHeld => ?_)
   clear hK K
   refine norm_ (a' := ?_) ?_ ?_
   rotate_left
   ·simp only [Act.put, List.setIfInBounds_toArray, List.set_cons_zero, List.set_cons_succ, i64_w, i32_w]
    rfl
   refine one_ (i := 5) (N := (some 22)) #[true, true, true, true, true, true, true, true, true, false, false, false] rfl rfl (by kernel_rfl) (by decide) (fun K hK => ?_)
   refine value_ (v := .slice (some ⟨w0.heap.size + 1, 0, none⟩) bs.length bs.length) (w1 := (w0.drew.alloc (.cells (madeCells #[.slice none 0 0] items.length) 87)).alloc (.cells (madeCells #[.bool false] bs.length) 4)) (by rfl) rfl ?_ ?_
   ·first | (go_simp; done) | (unfold execOp; simp [Act.eval, hmk31, go_sem])
   refine hK.out _ _ ⟨(World.cell?_alloc_past _ _ _ (by simp; omega)).trans ((World.cell?_alloc_past _ _ _ (by omega)).trans z0), (World.cell?_alloc_past _ _ _ (by simp; omega)).trans ((World.cell?_alloc_past _ _ _ (by omega)).trans z1)⟩ (fun hHeld => ?_)
   clear hK K
   refine norm_ (a' := ?_) ?_ ?_
   rotate_left
   ·simp only [Act.put, List.setIfInBounds_toArray, List.set_cons_zero, List.set_cons_succ, i64_w, i32_w]
    rfl
   refine take_ (i := 9) (N := (some 26)) (v := ?_) (a' := ?_) #[true, true, true, true, true, true, true, true, true, true, false, false] rfl rfl (by kernel_rfl) (fun _ _ _ h => h) (Or.inl ⟨by rfl, ?_⟩) hHeld ?_ ?_
   rotate_left
   ·rintro w' ⟨s0, s1⟩
    go_simp
    with_reducible rfl
   rotate_left
   ·simp only [Act.put, List.setIfInBounds_toArray, List.set_cons_zero, List.set_cons_succ, i64_w, i32_w]
    rfl
   refine one_ (i := 10) (N := (some 27)) #[true, true, true, true, true, true, true, true, true, true, true, false] rfl rfl (by kernel_rfl) (by decide) (fun K hK => ?_)
   refine value_ (v := .pointer (some ⟨w0.heap.size + 2, 0, none⟩)) (w1 := ((w0.drew.alloc (.cells (madeCells #[.slice none 0 0] items.length) 87)).alloc (.cells (madeCells #[.bool false] bs.length) 4)).alloc (.cells #[.slice A0 os.length c0, .slice A1 rs.length c1, .slice A2 items.length c2, .slice AB bs.length cB, .slice (some ⟨w0.heap.size + 1, 0, none⟩) bs.length bs.length, .slice (some ⟨w0.heap.size, 0, none⟩) items.length items.length] 85)) (by rfl) rfl ?_ ?_
   ·go_simp
   refine hK.out _ _ ⟨(World.cell?_alloc_past _ _ _ (by simp; omega)).trans ((World.cell?_alloc_past _ _ _ (by simp; omega)).trans ((World.cell?_alloc_past _ _ _ (by omega)).trans z0)), (World.cell?_alloc_past _ _ _ (by simp; omega)).trans ((World.cell?_alloc_past _ _ _ (by simp; omega)).trans ((World.cell?_alloc_past _ _ _ (by omega)).trans z1))⟩ (fun hHeld => ?_)
   clear hK K
   refine norm_ (a' := ?_) ?_ ?_
   rotate_left
   ·simp only [Act.put, List.setIfInBounds_toArray, List.set_cons_zero, List.set_cons_succ, i64_w, i32_w]
    rfl
   refine take_ (i := 11) (N := (some 8)) (v := ?_) (a' := ?_) #[true, true, true, true, true, true, true, true, true, true, true, true] rfl rfl (by kernel_rfl) (fun _ _ _ h => h) (Or.inl ⟨by rfl, ?_⟩) hHeld ?_ ?_
   rotate_left
   ·rintro w' ⟨s0, s1⟩
    go_simp
    with_reducible rfl
   rotate_left
   ·simp only [Act.put, List.setIfInBounds_toArray, List.set_cons_zero, List.set_cons_succ, i64_w, i32_w]
    rfl
   refine done_ (by kernel_rfl) ?_
   go_wp2_with fail
   go_meet
   refine ⟨_, w0.heap.size + 1, w0.heap.size, rfl, ⟨?_⟩⟩
   rw [show w.heap.size + 3 + 2 = w0.heap.size + 2 by omega]
   exact plB #[.slice A0 os.length c0, .slice A1 rs.length c1, .slice A2 items.length c2, .slice AB bs.length cB] rfl bs.length items.length
 case rest =>
 obtain ⟨g, gf, gs, rfl, hPl⟩ := hcut
 have hs := settle_calls hAs hG hC hX hN hAd hPl.out h0'.out hc0 h1'.out hc1 h2'.out hc2 hB'.out hvo hvi hbl hob (J.init items bs) (bs.length + 1) (by omega)
 rw [← settled_def, HR.out] at hs
 obtain ⟨l1, l2, l3⟩ := hPl.out.lt
 obtain ⟨e1, e2, e3⟩ := hPl.out.ge
 have hwc := Aside0.mk hPl.out.below
 have hPsz := hPl.out.below.size
 clear hPl z0 z1 hmk31 hmk83
 go_wp2_with (go_at_call 42; refine hs.mono ?_)
 rintro e w1 ⟨va, vsp, rfl, hb1, ⟨Ava, nva, cva, hva⟩, ⟨Avs, nvs, cvs, hvs⟩, him⟩
 subst hva hvs
 obtain ⟨hsz, hww, zb, zc⟩ := Z.out
 have zb1 := (hb1.block _ (by omega)).trans zb
 have zc1 := (hb1.block _ (by omega)).trans zc
 have hsz1 := hb1.size
 have hW1 := Aside0.mk (hww.trans (hb1.mono (by omega)))
 replace hb1 := Aside0.mk hb1
 replace him := Aside0.mk him
 clear zb zc
 obtain ⟨far, L, ad, spn, code, idx⟩ := R
 simp only at him hs
 by_cases hcz : code = 0
 ·subst hcz
  obtain ⟨hz, hrow, hJ, hPl⟩ := him.out rfl
  subst hz
  obtain ⟨lg, lf, ls⟩ := hPl.lt
  obtain ⟨p0, p1, p2, p3, p4, p5⟩ := hPl.cells
  have hge := hPl.ge
  replace hrow := Aside0.mk hrow
  replace hJ := Aside0.mk hJ
  replace hPl := Aside0.mk hPl
  clear p0 p1 p2 p3 him
  go_wp2_with fail
  have hbX : Below w1.heap.size w1 ((w1.alloc (Obj.cells #[Value.int IntKind.i64 0, Value.int IntKind.i64 0] 29)).alloc (Obj.cells #[Value.slice (some ⟨gf, 0, none⟩) far.length far.length, Value.slice none 0 0, Value.slice Ava nva cva, Value.slice Avs nvs cvs] 66)) := below_alloc (below_alloc (Below.refl _ _) _) _
  have hsX : ((w1.alloc (Obj.cells #[Value.int IntKind.i64 0, Value.int IntKind.i64 0] 29)).alloc (Obj.cells #[Value.slice (some ⟨gf, 0, none⟩) far.length far.length, Value.slice none 0 0, Value.slice Ava nva cva, Value.slice Avs nvs cvs] 66)).heap.size = w1.heap.size + 2 := by simp
  have hBX : ((w1.alloc (Obj.cells #[Value.int IntKind.i64 0, Value.int IntKind.i64 0] 29)).alloc (Obj.cells #[Value.slice (some ⟨gf, 0, none⟩) far.length far.length, Value.slice none 0 0, Value.slice Ava nva cva, Value.slice Avs nvs cvs] 66)).heap[w1.heap.size + 1]? = some (.cells #[Value.slice (some ⟨gf, 0, none⟩) far.length far.length, Value.slice none 0 0, Value.slice Ava nva cva, Value.slice Avs nvs cvs] 66 (0, 0)) := by
   have h := alloc_block (w1.alloc (Obj.cells #[Value.int IntKind.i64 0, Value.int IntKind.i64 0] 29)) (Obj.cells #[Value.slice (some ⟨gf, 0, none⟩) far.length far.length, Value.slice none 0 0, Value.slice Ava nva cva, Value.slice Avs nvs cvs] 66)
   rw [show (w1.alloc (Obj.cells #[Value.int IntKind.i64 0, Value.int IntKind.i64 0] 29)).heap.size = w1.heap.size + 1 by simp] at h
   exact h
  generalize (w1.alloc (Obj.cells #[Value.int IntKind.i64 0, Value.int IntKind.i64 0] 29)).alloc (Obj.cells #[Value.slice (some ⟨gf, 0, none⟩) far.length far.length, Value.slice none 0 0, Value.slice Ava nva cva, Value.slice Avs nvs cvs] 66) = X at *
  have HX := Aside0.mk (And.intro hbX (And.intro hsX hBX))
  clear hbX hsX hBX p4 p5 hs
  go_loopg [51] items.length (fun k v51 wr => ∃ (i : Nat) (v : Value), i ≤ items.length ∧ v51 = .int .i64 i ∧ Aside0 (k = items.length - i) ∧ Aside0 (wr.heap[w1.heap.size + 1]? = some (.cells #[Value.slice (some ⟨gf, 0, none⟩) far.length far.length, v, Value.slice Ava nva cva, Value.slice Avs nvs cvs] 66 (0, 0))) ∧
   Aside0 (wr.ownsRow (w1.heap.size + 2) 54 5 v (outTo items L i).length (cells54 (outTo items L i))) ∧ Aside0 (Below w1.heap.size w1 wr) ∧ Aside0 (X.heap.size ≤ wr.heap.size))
  case atStart => exact ⟨0, _, Nat.zero_le _, rfl, ⟨rfl⟩, ⟨HX.out.2.2⟩, ⟨⟨rfl, .inl ⟨rfl, rfl⟩⟩⟩, ⟨HX.out.1⟩, ⟨Nat.le_refl _⟩⟩
  case round =>
   obtain ⟨wo, rfl⟩ : ∃ wo : World, wo = wr := ⟨_, rfl⟩
   obtain ⟨i, v, hi, rfl, hk, hbk, hown, hbo, hxs⟩ := hrel
   by_cases hlt : i < items.length
   ·obtain ⟨Ar, cr, r0, r1, r2, r3, r4⟩ := hPl.out.stub_cell i hlt
    replace r0 := (hbo.out.cell (p := ⟨gs, i, none⟩) ls).trans r0
    replace r2 := Aside0.mk r2
    clear r3 r4
    go_wp2_with fail
    go_loopg [58] (goals L i).length (fun k v58 wr => ∃ (j : Nat) (v : Value), j ≤ (goals L i).length ∧ v58 = .int .i64 j ∧ Aside0 (k = (goals L i).length - j) ∧ Aside0 (wr.heap[w1.heap.size + 1]? = some (.cells #[Value.slice (some ⟨gf, 0, none⟩) far.length far.length, v, Value.slice Ava nva cva, Value.slice Avs nvs cvs] 66 (0, 0))) ∧
     Aside0 (wr.ownsRow (w1.heap.size + 2) 54 5 v (outTo items L i ++ (stubsOf items L i).take j).length (cells54 (outTo items L i ++ (stubsOf items L i).take j))) ∧ Aside0 (Below w1.heap.size w1 wr) ∧ Aside0 (X.heap.size ≤ wr.heap.size))
    case atStart => exact ⟨0, v, Nat.zero_le _, rfl, ⟨rfl⟩, hbk, ⟨by simpa using hown.out⟩, hbo, hxs⟩
    case round =>
     obtain ⟨j, v', hj, rfl, hk', hbk', hown', hbo', hxs'⟩ := hrel
     have hJo := hJ.out.o
     have hLl := hJ.out.le hbl
     have hgl : (goals L i).length ≤ 400 := by rw [goals_length]; exact Nat.le_trans (cnt_le L i) hLl
     have hol : (outTo items L i).length ≤ 80000 := Nat.le_trans (outTo_le items hJo i) (Nat.le_trans (Nat.mul_le_mul (show i ≤ 200 by omega) hLl) (by decide))
     obtain ⟨hXb, hXs, _⟩ := HX.out
     have hszr := hxs'.out
     by_cases hjl : j < (goals L i).length
     ·obtain ⟨bg, og, e, hbg, hx⟩ := open89 (Kd.C_below r2.out hbo'.out) (by omega)
      subst e
      obtain ⟨x0c, x1c, x2c⟩ := hx j hjl
      obtain ⟨bi, oi, e, hbi0, hy⟩ := open57 (Kd.C_below h2'.out hb1.out) (by omega)
      subst e
      have hbi1 : bi < w0.heap.size := by
       obtain ⟨bi', oi', e', hb', _⟩ := open57 h2'.out (by omega)
       cases e'; exact hb'
      obtain ⟨_, y1c, _⟩ := hy i hlt
      replace y1c := (hbo'.out.cell (p := ⟨bi, oi + i * 3 + 1, none⟩) (by simp; omega)).trans y1c
      obtain ⟨_, _, hz0, hz1, _, _⟩ := hvi.x i hlt
      have hnew : Aside0 (mkStub items i j ((goals L i).getD j z89) = ⟨i, (items.getD i z57).f1 + 5 * (j : Int), ((goals L i).getD j z89).f0, ((goals L i).getD j z89).f1, ((goals L i).getD j z89).f2⟩) := ⟨rfl⟩
      have htk := Aside0.mk (stubsOf_take items L i j hjl)
      have htl : ((stubsOf items L i).take j).length = j := by rw [List.length_take, stubsOf_length]; omega
      have hbir : bi < wr.heap.size := by omega
      clear hx hy
      generalize (items.getD i z57).f1 = sz at *
      generalize ((goals L i).getD j z89).f0 = x0 at *
      generalize ((goals L i).getD j z89).f1 = x1 at *
      generalize ((goals L i).getD j z89).f2 = x2 at *
      go_wp2_with fail
      have b1 : Below wr.heap.size wr (wr.alloc (Obj.cells #[Value.int IntKind.i64 x0, Value.int IntKind.i64 x1, Value.int IntKind.i64 x2] 89)) := below_alloc (Below.refl _ _) _
      have t0 : (wr.alloc (Obj.cells #[Value.int IntKind.i64 x0, Value.int IntKind.i64 x1, Value.int IntKind.i64 x2] 89)).cell? ⟨wr.heap.size, 0, none⟩ = some (.int .i64 x0) := by simp
      have t1 : (wr.alloc (Obj.cells #[Value.int IntKind.i64 x0, Value.int IntKind.i64 x1, Value.int IntKind.i64 x2] 89)).cell? ⟨wr.heap.size, 1, none⟩ = some (.int .i64 x1) := by simp
      have t2 : (wr.alloc (Obj.cells #[Value.int IntKind.i64 x0, Value.int IntKind.i64 x1, Value.int IntKind.i64 x2] 89)).cell? ⟨wr.heap.size, 2, none⟩ = some (.int .i64 x2) := by simp
      have hs2 : (wr.alloc (Obj.cells #[Value.int IntKind.i64 x0, Value.int IntKind.i64 x1, Value.int IntKind.i64 x2] 89)).heap.size = wr.heap.size + 1 := by simp
      have hown2 := Aside0.mk (hown'.out.alloc (Obj.cells #[Value.int IntKind.i64 x0, Value.int IntKind.i64 x1, Value.int IntKind.i64 x2] 89))
      have hlto := Aside0.mk hown'.out.lt
      generalize wr.alloc (Obj.cells #[Value.int IntKind.i64 x0, Value.int IntKind.i64 x1, Value.int IntKind.i64 x2] 89) = Y at *
      have hbk2 := (b1.block _ (by omega)).trans hbk'.out
      have c1 := (blk_cell hbk2 1).trans rfl
      have y1 := (b1.cell (p := ⟨bi, oi + i * 3 + 1, none⟩) hbir).trans y1c
      have hbY := Aside0.mk (hbo'.out.trans (b1.mono hbo'.out.size))
      obtain ⟨i0, hi0, hzz⟩ := Option.map_eq_some_iff.1 info54
      simp only [Prod.mk.injEq] at hzz
      obtain ⟨hzA, hzB, hzC⟩ := hzz
      have HI := Aside0.mk (And.intro hi0 (And.intro hzA (And.intro hzB hzC)))
      have HK2 := Aside0.mk hbk2
      clear b1 x0c x1c x2c y1c hi0 hzA hzB hzC hbk2
      have g1 : IntKind.i64.wrap (5 * (j : Int)) = 5 * j := by rw [i64_w]; unfold wrap64; omega
      have g2 : IntKind.i64.wrap (sz + 5 * (j : Int)) = sz + 5 * j := by rw [i64_w]; unfold wrap64; omega
      refine start_ (n := 22) (S := (fun w' => w'.cell? ⟨w1.heap.size + 1, 1, none⟩ = some v' ∧ w'.cell? ⟨bi, oi + i * 3 + 1, none⟩ = some (.int .i64 sz) ∧ w'.cell? ⟨wr.heap.size, 0, none⟩ = some (.int .i64 x0) ∧ w'.cell? ⟨wr.heap.size, 1, none⟩ = some (.int .i64 x1) ∧ w'.cell? ⟨wr.heap.size, 2, none⟩ = some (.int .i64 x2))) (ds := [21]) #[false, false, false, false, false, false, false, false, false, false, false, false, false, false, false, false, false, false, false, false, false, false] (by kernel_rfl) rfl rfl ⟨c1, y1, t0, t1, t2⟩ (fun hHeld => ?_)
      refine take_ (i := 0) (N := (some 63)) (v := ?_) (a' := ?_) #[true, false, false, false, false, false, false, false, false, false, false, false, false, false, false, false, false, false, false, false, false, false] rfl rfl (by kernel_rfl) (fun _ _ _ h => h) (Or.inl ⟨by rfl, ?_⟩) hHeld ?_ ?_
      rotate_left
      ·rintro w' ⟨s0, s1, s2, s3, s4⟩
       go_simp
       with_reducible rfl
      rotate_left
      ·simp only [Act.put, List.setIfInBounds_toArray, List.set_cons_zero, List.set_cons_succ, i64_w, i32_w]
       rfl
      refine take_ (i := 1) (N := (some 64)) (v := ?_) (a' := ?_) #[true, true, false, false, false, false, false, false, false, false, false, false, false, false, false, false, false, false, false, false, false, false] rfl rfl (by kernel_rfl) (fun _ _ _ h => h) (Or.inl ⟨by rfl, ?_⟩) hHeld ?_ ?_
      rotate_left
      ·rintro w' ⟨s0, s1, s2, s3, s4⟩
       go_simp
       with_reducible rfl
      rotate_left
      ·simp only [Act.put, List.setIfInBounds_toArray, List.set_cons_zero, List.set_cons_succ, i64_w, i32_w]
       rfl
      refine take_ (i := 2) (N := (some 65)) (v := ?_) (a' := ?_) #[true, true, true, false, false, false, false, false, false, false, false, false, false, false, false, false, false, false, false, false, false, false] rfl rfl (by kernel_rfl) (fun _ _ _ h => h) (Or.inl ⟨by rfl, ?_⟩) hHeld ?_ ?_
      rotate_left
      ·rintro w' ⟨s0, s1, s2, s3, s4⟩
       go_simp
       with_reducible rfl
      rotate_left
      ·simp only [Act.put, List.setIfInBounds_toArray, List.set_cons_zero, List.set_cons_succ, i64_w, i32_w]
       rfl
      refine take_ (i := 3) (N := (some 66)) (v := ?_) (a' := ?_) #[true, true, true, true, false, false, false, false, false, false, false, false, false, false, false, false, false, false, false, false, false, false] rfl rfl (by kernel_rfl) (fun _ _ _ h => h) (Or.inl ⟨by rfl, ?_⟩) hHeld ?_ ?_
      rotate_left
      ·rintro w' ⟨s0, s1, s2, s3, s4⟩
       go_simp
       with_reducible rfl
      rotate_left
      ·simp only [Act.put, List.setIfInBounds_toArray, List.set_cons_zero, List.set_cons_succ, i64_w, i32_w]
       rfl
      refine take_ (i := 4) (N := (some 67)) (v := ?_) (a' := ?_) #[true, true, true, true, true, false, false, false, false, false, false, false, false, false, false, false, false, false, false, false, false, false] rfl rfl (by kernel_rfl) (fun _ _ _ h => h) (Or.inl ⟨by rfl, ?_⟩) hHeld ?_ ?_
      rotate_left
      ·rintro w' ⟨s0, s1, s2, s3, s4⟩
       go_simp
       with_reducible rfl
      rotate_left
      ·simp only [Act.put, List.setIfInBounds_toArray, List.set_cons_zero, List.set_cons_succ, i64_w, i32_w]
       rfl
      refine take_ (i := 5) (N := (some 68)) (v := ?_) (a' := ?_) #[true, true, true, true, true, true, false, false, false, false, false, false, false, false, false, false, false, false, false, false, false, false] rfl rfl (by kernel_rfl) (fun _ _ _ h => h) (Or.inl ⟨by rfl, ?_⟩) hHeld ?_ ?_
      rotate_left
      ·rintro w' ⟨s0, s1, s2, s3, s4⟩
       go_simp
       with_reducible rfl
      rotate_left
      ·simp only [Act.put, List.setIfInBounds_toArray, List.set_cons_zero, List.set_cons_succ, i64_w, i32_w]
       rfl
      refine take_ (i := 6) (N := (some 69)) (v := ?_) (a' := ?_) #[true, true, true, true, true, true, true, false, false, false, false, false, false, false, false, false, false, false, false, false, false, false] rfl rfl (by kernel_rfl) (fun _ _ _ h => h) (Or.inl ⟨by rfl, ?_⟩) hHeld ?_ ?_
      rotate_left
      ·rintro w' ⟨s0, s1, s2, s3, s4⟩
       go_simp
       with_reducible rfl
      rotate_left
      ·simp only [Act.put, List.setIfInBounds_toArray, List.set_cons_zero, List.set_cons_succ, i64_w, i32_w]
       rfl
      refine take_ (i := 7) (N := (some 70)) (v := ?_) (a' := ?_) #[true, true, true, true, true, true, true, true, false, false, false, false, false, false, false, false, false, false, false, false, false, false] rfl rfl (by kernel_rfl) (fun _ _ _ h => h) (Or.inl ⟨by rfl, ?_⟩) hHeld ?_ ?_
      rotate_left
      ·rintro w' ⟨s0, s1, s2, s3, s4⟩
       go_simp
       with_reducible rfl
      rotate_left
      ·simp only [Act.put, List.setIfInBounds_toArray, List.set_cons_zero, List.set_cons_succ, i64_w, i32_w]
       rfl
      refine take_ (i := 8) (N := (some 71)) (v := ?_) (a' := ?_) #[true, true, true, true, true, true, true, true, true, false, false, false, false, false, false, false, false, false, false, false, false, false] rfl rfl (by kernel_rfl) (fun _ _ _ h => h) (Or.inl ⟨by rfl, ?_⟩) hHeld ?_ ?_
      rotate_left
      ·rintro w' ⟨s0, s1, s2, s3, s4⟩
       go_simp
       with_reducible rfl
      rotate_left
      ·simp only [Act.put, List.setIfInBounds_toArray, List.set_cons_zero, List.set_cons_succ, i64_w, i32_w]
       rfl
      refine take_ (i := 9) (N := (some 72)) (v := ?_) (a' := ?_) #[true, true, true, true, true, true, true, true, true, true, false, false, false, false, false, false, false, false, false, false, false, false] rfl rfl (by kernel_rfl) (fun _ _ _ h => h) (Or.inl ⟨by rfl, ?_⟩) hHeld ?_ ?_
      rotate_left
      ·rintro w' ⟨s0, s1, s2, s3, s4⟩
       go_simp
       with_reducible rfl
      rotate_left
      ·simp only [Act.put, List.setIfInBounds_toArray, List.set_cons_zero, List.set_cons_succ, i64_w, i32_w]
       rfl
      refine take_ (i := 10) (N := (some 73)) (v := ?_) (a' := ?_) #[true, true, true, true, true, true, true, true, true, true, true, false, false, false, false, false, false, false, false, false, false, false] rfl rfl (by kernel_rfl) (fun _ _ _ h => h) (Or.inl ⟨by rfl, ?_⟩) hHeld ?_ ?_
      rotate_left
      ·rintro w' ⟨s0, s1, s2, s3, s4⟩
       go_simp
       with_reducible rfl
      rotate_left
      ·simp only [Act.put, List.setIfInBounds_toArray, List.set_cons_zero, List.set_cons_succ, i64_w, i32_w]
       rfl
      refine take_ (i := 11) (N := (some 74)) (v := ?_) (a' := ?_) #[true, true, true, true, true, true, true, true, true, true, true, true, false, false, false, false, false, false, false, false, false, false] rfl rfl (by kernel_rfl) (fun _ _ _ h => h) (Or.inl ⟨by rfl, ?_⟩) hHeld ?_ ?_
      rotate_left
      ·rintro w' ⟨s0, s1, s2, s3, s4⟩
       go_simp
       with_reducible rfl
      rotate_left
      ·simp only [Act.put, List.setIfInBounds_toArray, List.set_cons_zero, List.set_cons_succ, i64_w, i32_w]
       rfl
      refine take_ (i := 12) (N := (some 75)) (v := ?_) (a' := ?_) #[true, true, true, true, true, true, true, true, true, true, true, true, true, false, false, false, false, false, false, false, false, false] rfl rfl (by kernel_rfl) (fun _ _ _ h => h) (Or.inl ⟨by rfl, ?_⟩) hHeld ?_ ?_
      rotate_left
      ·rintro w' ⟨s0, s1, s2, s3, s4⟩
       go_simp
       with_reducible rfl
      rotate_left
      ·simp only [Act.put, List.setIfInBounds_toArray, List.set_cons_zero, List.set_cons_succ, i64_w, i32_w]
       rfl
      refine take_ (i := 13) (N := (some 76)) (v := ?_) (a' := ?_) #[true, true, true, true, true, true, true, true, true, true, true, true, true, true, false, false, false, false, false, false, false, false] rfl rfl (by kernel_rfl) (fun _ _ _ h => h) (Or.inl ⟨by rfl, ?_⟩) hHeld ?_ ?_
      rotate_left
      ·rintro w' ⟨s0, s1, s2, s3, s4⟩
       go_simp
       with_reducible rfl
      rotate_left
      ·simp only [Act.put, List.setIfInBounds_toArray, List.set_cons_zero, List.set_cons_succ, i64_w, i32_w]
       rfl
      refine take_ (i := 14) (N := (some 77)) (v := ?_) (a' := ?_) #[true, true, true, true, true, true, true, true, true, true, true, true, true, true, true, false, false, false, false, false, false, false] rfl rfl (by kernel_rfl) (fun _ _ _ h => h) (Or.inl ⟨by rfl, ?_⟩) hHeld ?_ ?_
      rotate_left
      ·rintro w' ⟨s0, s1, s2, s3, s4⟩
       go_simp
       with_reducible rfl
      rotate_left
      ·simp only [Act.put, List.setIfInBounds_toArray, List.set_cons_zero, List.set_cons_succ, i64_w, i32_w]
       rfl
      refine take_ (i := 15) (N := (some 78)) (v := ?_) (a' := ?_) #[true, true, true, true, true, true, true, true, true, true, true, true, true, true, true, true, false, false, false, false, false, false] rfl rfl (by kernel_rfl) (fun _ _ _ h => h) (Or.inl ⟨by rfl, ?_⟩) hHeld ?_ ?_
      rotate_left
      ·rintro w' ⟨s0, s1, s2, s3, s4⟩
       go_simp
       with_reducible rfl
      rotate_left
      ·simp only [Act.put, List.setIfInBounds_toArray, List.set_cons_zero, List.set_cons_succ, i64_w, i32_w]
       rfl
      refine take_ (i := 16) (N := (some 79)) (v := ?_) (a' := ?_) #[true, true, true, true, true, true, true, true, true, true, true, true, true, true, true, true, true, false, false, false, false, false] rfl rfl (by kernel_rfl) (fun _ _ _ h => h) (Or.inl ⟨by rfl, ?_⟩) hHeld ?_ ?_
      rotate_left
      ·rintro w' ⟨s0, s1, s2, s3, s4⟩
       go_simp
       with_reducible rfl
      rotate_left
      ·simp only [Act.put, List.setIfInBounds_toArray, List.set_cons_zero, List.set_cons_succ, i64_w, i32_w]
       rfl
      refine take_ (i := 17) (N := (some 80)) (v := ?_) (a' := ?_) #[true, true, true, true, true, true, true, true, true, true, true, true, true, true, true, true, true, true, false, false, false, false] rfl rfl (by kernel_rfl) (fun _ _ _ h => h) (Or.inl ⟨by rfl, ?_⟩) hHeld ?_ ?_
      rotate_left
      ·rintro w' ⟨s0, s1, s2, s3, s4⟩
       go_simp
       with_reducible rfl
      rotate_left
      ·simp only [Act.put, List.setIfInBounds_toArray, List.set_cons_zero, List.set_cons_succ, i64_w, i32_w]
       rfl
      refine one_ (i := 18) (N := (some 81)) #[true, true, true, true, true, true, true, true, true, true, true, true, true, true, true, true, true, true, true, false, false, false] rfl rfl (by kernel_rfl) (by decide) (fun K hK => ?_)
      refine value_ (v := .slice (some ⟨Y.heap.size, 0, none⟩) 1 1) (w1 := Y.drew.alloc (Obj.cells #[.int .i64 i, .int .i64 (sz + 5 * (j : Int)), .int .i64 x0, .int .i64 x1, .int .i64 x2] 54)) (by rfl) rfl ?_ ?_
      ·go_simp
      refine hK.out _ _ ⟨(World.cell?_alloc_past _ _ _ (show w1.heap.size + 1 < Y.heap.size by omega)).trans c1, (World.cell?_alloc_past _ _ _ (show bi < Y.heap.size by omega)).trans y1, (World.cell?_alloc_past _ _ _ (show wr.heap.size < Y.heap.size by omega)).trans t0, (World.cell?_alloc_past _ _ _ (show wr.heap.size < Y.heap.size by omega)).trans t1, (World.cell?_alloc_past _ _ _ (show wr.heap.size < Y.heap.size by omega)).trans t2⟩ (fun hHeld => ?_)
      clear hK K
      refine norm_ (a' := ?_) ?_ ?_
      rotate_left
      ·simp only [Act.put, List.setIfInBounds_toArray, List.set_cons_zero, List.set_cons_succ, i64_w, i32_w]
       rfl
      refine one_ (i := 19) (N := (some 82)) #[true, true, true, true, true, true, true, true, true, true, true, true, true, true, true, true, true, true, true, true, false, false] rfl rfl (by kernel_rfl) (by decide) (fun K hK => ?_)
      refine step_append_lies _ (by rfl) (.tmp 64) (.tmp 81) 32 (by rfl) (w1.heap.size + 2) 54 i0 _ 5 40 Try.underlying32 HI.out.1 HI.out.2.1 HI.out.2.2.1 HI.out.2.2.2 rfl (by decide) v' (outTo items L i ++ (stubsOf items L i).take j).length (cells54 (outTo items L i ++ (stubsOf items L i).take j)) (by rfl) (hown2.out.drew.alloc _) ⟨Y.heap.size, 0, none⟩ 1 1 [.int .i64 i, .int .i64 (sz + 5 * (j : Int)), .int .i64 x0, .int .i64 x1, .int .i64 x2] (by rfl) (by rfl) (World.news_of_block (cs := #[.int .i64 i, .int .i64 (sz + 5 * (j : Int)), .int .i64 x0, .int .i64 x1, .int .i64 x2]) (t := 54) (fr := (0, 0)) (heap_alloc_new Y _)) (by simp [Value.oneCell']) (by omega) (by simp only [maxLen, List.length_append]; omega) (by simp only [List.length_append]; omega) (by simp; omega) _ rfl ?_
      intro gq cap5 w5 hown5 hgrow hat hlt5
      have hne : ∀ p : Nat, (p < w1.heap.size + 2 ∨ p = wr.heap.size) → some p ≠ v'.ownBlock := fun p hp hpe => by have := hlto.out p hpe.symm; omega
      have hb5 : Below w1.heap.size w1 w5 := hbY.out.trans (((below_alloc (below_drew (Below.refl Y.heap.size Y)) _).mono hbY.out.size).trans (below_grown_row hgrow (by simp; have := hbY.out.size; omega) (fun g hg => by have := hlto.out g hg; omega)))
      have hK5 : w5.heap[w1.heap.size + 1]? = _ := (hgrow.block _ (by simp; omega) (hne _ (by omega))).trans (blk_alloc HK2.out _)
      refine hK.out _ _ ⟨(blk_cell hK5 1).trans rfl, hgrow.cell ((World.cell?_alloc_past _ _ _ (show bi < Y.heap.size by omega)).trans y1) (hne _ (by simp; omega)), hgrow.cell ((World.cell?_alloc_past _ _ _ (show wr.heap.size < Y.heap.size by omega)).trans t0) (hne _ (by simp)), hgrow.cell ((World.cell?_alloc_past _ _ _ (show wr.heap.size < Y.heap.size by omega)).trans t1) (hne _ (by simp)), hgrow.cell ((World.cell?_alloc_past _ _ _ (show wr.heap.size < Y.heap.size by omega)).trans t2) (hne _ (by simp))⟩ (fun hHeld => ?_)
      clear hK K
      refine norm_ (a' := ?_) ?_ ?_
      rotate_left
      ·simp only [Act.put, List.setIfInBounds_toArray, List.set_cons_zero, List.set_cons_succ, i64_w, i32_w]
       rfl
      have fz5 := blk_frozen hK5 1
      have cz5 := (blk_cell hK5 1).trans rfl
      refine one_ (i := 20) (N := (some 83)) #[true, true, true, true, true, true, true, true, true, true, true, true, true, true, true, true, true, true, true, true, true, false] rfl rfl (by kernel_rfl) (by decide) (fun K hK => ?_)
      refine value_ (v := .pointer (some ⟨w1.heap.size + 1, 1, none⟩)) (w1 := w5) (by rfl) rfl ?_ ?_
      ·go_simp
      refine hK.out _ _ hHeld (fun hHeld => ?_)
      clear hK K
      refine norm_ (a' := ?_) ?_ ?_
      rotate_left
      ·simp only [Act.put, List.setIfInBounds_toArray, List.set_cons_zero, List.set_cons_succ, i64_w, i32_w]
       rfl
      refine last_ (i := 21) (N := none) #[true, true, true, true, true, true, true, true, true, true, true, true, true, true, true, true, true, true, true, true, true, true] rfl rfl (by kernel_rfl) (by decide) (fun K hK => ?_)
      refine skip_ (w1 := w5.setCell ⟨w1.heap.size + 1, 1, none⟩ (.slice (some ⟨gq, 0, none⟩) ((outTo items L i ++ (stubsOf items L i).take j).length + 1) cap5)) (by rfl) rfl ?_ ?_
      ·go_simp
      refine hK.out _ _ ?_
      clear hK K
      refine done_ (by kernel_rfl) ?_
      go_wp2
      go_roundg ((goals L i).length - (j + 1))
      case measure => have := hk'.out; omega
      case rel =>
       refine ⟨j + 1, _, hjl, by go_num, ⟨rfl⟩, ⟨blk_put hK5 1 _ rfl⟩, ⟨?_⟩, ⟨hb5.setCell (by simp) _⟩, ⟨?_⟩⟩
       ·have h := ownsRow_setCell_below hown5 (a := ⟨w1.heap.size + 1, 1, none⟩) (by simp) (.slice (some ⟨gq, 0, none⟩) ((outTo items L i ++ (stubsOf items L i).take j).length + 1) cap5)
        have hlO : (outTo items L i ++ (stubsOf items L i).take j).length = (outTo items L i).length + j := by rw [List.length_append, htl]
        rw [htk.out, hnew.out, ← List.append_assoc, cells54_append, List.length_append (bs := [_])]
        rw [hlO] at h ⊢
        exact h
       ·have := hgrow.size; simp at this ⊢; omega
     ·have hje : j = (goals L i).length := by omega
      have htw : (stubsOf items L i).take j = stubsOf items L i := List.take_of_length_le (by rw [stubsOf_length]; omega)
      rw [htw, ← outTo_succ] at hown'
      go_wp2
      go_roundg (items.length - (i + 1))
      case measure => have := hk.out; omega
      case rel => exact ⟨i + 1, v', hlt, by go_num, ⟨rfl⟩, hbk', hown', hbo', hxs'⟩
   ·have hie : i = items.length := by omega
    subst hie
    rw [outTo_ordered hJ.out.o] at hown
    obtain ⟨Ast, cst, rfl, hcst, hCst, hgst⟩ := C54_of_own hown.out (by have := outTo_le items hJ.out.o items.length; rw [outTo_ordered hJ.out.o] at this; exact Nat.le_trans this (Nat.le_trans (Nat.mul_le_mul hlen (hJ.out.le hbl)) (by decide)))
    replace hCst := Aside0.mk hCst
    replace hgst := Aside0.mk hgst
    have zb2 := (hbo.out.block _ (by omega)).trans zb1
    have zc2 := (hbo.out.block _ (by omega)).trans zc1
    have f0 := blk_frozen zb2 0
    have f1 := blk_frozen zb2 1
    have f2 := blk_frozen zb2 2
    have f3 := blk_frozen zb2 3
    have f4 := blk_frozen zc2 0
    have f5 := blk_frozen zc2 1
    have d0 := (blk_cell zb2 0).trans rfl
    have d1 := (blk_cell zb2 1).trans rfl
    have d2 := (blk_cell zb2 2).trans rfl
    have d3 := (blk_cell zb2 3).trans rfl
    have d4 := (blk_cell zc2 0).trans rfl
    have d5 := (blk_cell zc2 1).trans rfl
    have k0 := (blk_cell hbk.out 0).trans rfl
    have k1 := (blk_cell hbk.out 1).trans rfl
    have k2 := (blk_cell hbk.out 2).trans rfl
    have k3 := (blk_cell hbk.out 3).trans rfl
    have hB2 := Aside0.mk (hW1.out.trans (hbo.out.mono hW1.out.size))
    have hPo := Aside0.mk (hPl.out.step hbo.out)
    obtain ⟨Aq, cq, hqe, hcq, hCq, hgq⟩ := hrow.out
    cases hqe
    replace hCq := Aside0.mk (Kd.C_below hCq hbo.out)
    replace hgq := Aside0.mk hgq
    go_wp2
    have hfl := hJ.out.fl
    refine bodyPost_ret (v := .tuple #[.agg #[.slice (some ⟨gf, 0, none⟩) far.length far.length, .slice Ast (ordered L items.length).length cst, .slice Ava ad.length cva, .slice Avs nvs cvs], .agg #[.int .i64 0, .int .i64 0]]) (by simp [results, Try.results28, go_sem, d0, d1, d2, d3, d4, d5]) rfl ⟨_, _, _, _, rfl, ?_, ⟨⟨_, _, _, rfl⟩, ⟨_, _, _, rfl⟩, ⟨_, _, _, rfl⟩, ⟨_, _, _, rfl⟩⟩, ⟨_, _, rfl, Nat.le_refl _, ?_, ?_⟩, ⟨_, _, rfl, hcst, ?_, ?_⟩, ⟨_, _, rfl, hcq, ?_, ?_⟩⟩
    ·exact Below6 hB2.out (Nat.le_add_right _ 1) (Nat.le_trans (Nat.le_add_right _ 1) (Nat.le_add_right _ 1))
    ·exact C_bool_blk (blk6 hPo.out.fb (by omega) (by omega)) (by omega)
    ·intro a ha; cases ha; exact (show w.heap.size ≤ gf by omega)
    ·exact C_set6 k54_any hCst.out (fun a ha => by have := hgst.out a ha; omega)
    ·intro a ha; have := hgst.out a ha; omega
    ·exact C_set6 (fun _ _ _ _ h => h) hCq.out (fun a ha => by have := hgq.out a ha; omega)
    ·intro a ha; have := hgq.out a ha; omega
 ·have hcz' : (code != 0) = true := by simpa using hcz
  have hb2 : Below w1.heap.size w1 (w1.alloc (Obj.cells #[Value.int IntKind.i64 code, Value.int IntKind.i64 idx] 29)) := below_alloc (Below.refl _ _) _
  go_wp2_with fail
  have q0 : (w1.alloc (Obj.cells #[Value.int IntKind.i64 code, Value.int IntKind.i64 idx] 29)).cell? ⟨w1.heap.size, 0, none⟩ = some (.int .i64 code) := by simp
  have q1 : (w1.alloc (Obj.cells #[Value.int IntKind.i64 code, Value.int IntKind.i64 idx] 29)).cell? ⟨w1.heap.size, 1, none⟩ = some (.int .i64 idx) := by simp
  have zb2 := (hb2.block _ (by omega)).trans zb1
  have zc2 := (hb2.block _ (by omega)).trans zc1
  have hW2 := Aside0.mk (hW1.out.trans (hb2.mono hW1.out.size))
  generalize w1.alloc (Obj.cells #[Value.int IntKind.i64 code, Value.int IntKind.i64 idx] 29) = X at *
  have f0 := blk_frozen zb2 0
  have f1 := blk_frozen zb2 1
  have f2 := blk_frozen zb2 2
  have f3 := blk_frozen zb2 3
  have f4 := blk_frozen zc2 0
  have f5 := blk_frozen zc2 1
  have d0 := (blk_cell zb2 0).trans rfl
  have d1 := (blk_cell zb2 1).trans rfl
  have d2 := (blk_cell zb2 2).trans rfl
  have d3 := (blk_cell zb2 3).trans rfl
  have d4 := (blk_cell zc2 0).trans rfl
  have d5 := (blk_cell zc2 1).trans rfl
  clear zb1 zc1 hb2
  go_region
  go_wp2
  refine bodyPost_ret (v := .tuple #[.agg #[.slice none 0 0, .slice none 0 0, .slice none 0 0, .slice none 0 0], .agg #[.int .i64 code, .int .i64 idx]]) (by simp [results, Try.results28, go_sem, d0, d1, d2, d3, d4, d5]) rfl ?_
  have hB := below_drew (Below6 (u0 := .slice none 0 0) (u1 := .slice none 0 0) (u2 := .slice none 0 0) (u3 := .slice none 0 0) (v0 := .int .i64 code) (v1 := .int .i64 idx) hW2.out (Nat.le_add_right _ 1) (Nat.le_trans (Nat.le_add_right _ 1) (Nat.le_add_right _ 1)))
  first | exact ⟨_, _, _, _, rfl, hB, ⟨⟨_, _, _, rfl⟩, ⟨_, _, _, rfl⟩, ⟨_, _, _, rfl⟩, ⟨_, _, _, rfl⟩⟩, fun h => absurd h hcz⟩ | exact ⟨_, _, _, _, rfl, hB, ⟨⟨_, _, _, rfl⟩, ⟨_, _, _, rfl⟩, ⟨_, _, _, rfl⟩, ⟨_, _, _, rfl⟩⟩⟩ | exact ⟨⟨_, _, _, _, rfl⟩, hB⟩ | exact ⟨_, _, _, _, rfl, hB⟩ | exact ⟨_, _, _, ⟨_, rfl⟩, hB⟩
end Go.Proofs.Ytogcgcjhoebooaa
end
section
set_option linter.unusedVariables false
set_option linter.unusedSimpArgs false
namespace Go.Proofs.Ytogcgcjhoebooaa
open Go.RowKit Go.Proofs.YtogcgcjhoebooaaW.PrintWords Go.Proofs.YtogcgcjhoebooaaW.PrintLast Go.Proofs.Ytogcgcjhoebooaa.PVeneerMatchesSpec
structure Ins where
  far : List Bool
  stubs : List S54
  ad : List Int
  code : Int
  idx : Int
def inserted (os : List S72) (rs : List S76) (items : List S57) (bs : List S48) : Ins :=
 if (insertFault os rs items bs).1 ≠ 0 then ⟨[], [], [], (insertFault os rs items bs).1, (insertFault os rs items bs).2⟩
 else if (settled os items bs).code ≠ 0 then ⟨[], [], [], (settled os items bs).code, (settled os items bs).idx⟩
 else ⟨(settled os items bs).far, ordered (settled os items bs).L items.length, (settled os items bs).ad, 0, 0⟩
theorem scriptFault_zero {os : List S72} {rs : List S76} (h : (scriptFault os rs).1 = 0) : (scriptFault os rs).2 = 0 := by
 unfold scriptFault at h ⊢
 split
 ·rename_i h8; rw [if_pos h8] at h; cases h
 ·rename_i h8
  rw [if_neg h8] at h
  cases hs : scan (outCode os) os.length 0 with
  | some p => rw [hs] at h; exact absurd h (scan_some _ _ hs)
  | none =>
   rw [hs] at h
   simp only at h ⊢
   split
   ·rename_i h12; rw [if_pos h12] at h; cases h
   ·rename_i h12
    rw [if_neg h12] at h
    cases hs2 : scan (fun j => ruleCode os.length (rs.getD j z76)) rs.length 0 with
    | some p => rw [hs2] at h; exact absurd h (scan_some _ _ hs2)
    | none => rfl
theorem itemsFault_zero {items : List S57} {n : Int} (h : (itemsFault items n).1 = 0) : (itemsFault items n).2 = 0 := by
 unfold itemsFault at h ⊢
 split
 ·rename_i h8; rw [if_pos h8] at h; cases h
 ·rename_i h8
  rw [if_neg h8] at h
  cases hs : scan (fun i => itemCode n (items.getD i z57)) items.length 0 with
  | some p => rw [hs] at h; exact absurd h (scan_some _ _ hs)
  | none => rfl
theorem okB_of {items : List S57} {n : Nat} {b : S48} (hv : ValidI items n) (h : brCode items b = 0) : OkB items.length b := by
 unfold brCode at h
 by_cases q1 : b.f2 ≠ 2 ∧ b.f2 ≠ 3
 ·rw [if_pos q1] at h; exact absurd h (by decide)
 rw [if_neg q1] at h
 by_cases g2 : 0 ≤ b.f0 ∧ b.f0 < items.length ∧ -1 ≤ b.f4 ∧ b.f4 < items.length
 rotate_left
 ·rw [if_pos g2] at h; exact absurd h (by decide)
 rw [if_neg (by simpa using g2)] at h
 by_cases g3 : 0 ≤ b.f1 ∧ b.f1 ≤ (rd_T57 items b.f0).f1 - kwidth b.f2
 rotate_left
 ·rw [if_pos g3] at h; exact absurd h (by decide)
 rw [if_neg (by simpa using g3)] at h
 by_cases g4 : 0 ≤ b.f5 ∧ b.f5 ≤ if b.f4 < 0 then 4294967295 else (rd_T57 items b.f4).f1
 rotate_left
 ·rw [if_pos g4] at h; exact absurd h (by decide)
 rw [if_neg (not_not_intro g4)] at h
 by_cases g5 : -1048576 ≤ b.f3 ∧ b.f3 ≤ 1048576
 rotate_left
 ·rw [if_pos g5] at h; exact absurd h (by decide)
 obtain ⟨a1, a2, a3, a4⟩ := g2
 obtain ⟨_, _, y1, y2, _, _⟩ := hv.x b.f0.toNat (by omega)
 have e1 : (rd_T57 items b.f0).f1 = (items.getD b.f0.toNat z57).f1 := rfl
 have hw : 0 ≤ kwidth b.f2 := by unfold kwidth; split <;> (try split) <;> omega
 refine ⟨⟨a1, a2⟩, ⟨g3.1, by omega⟩, g5, ⟨a3, a4⟩, ⟨g4.1, ?_⟩⟩
 have g4' := g4.2
 split at g4'
 ·exact g4'
 ·rename_i ht
  obtain ⟨_, _, z1, z2, _, _⟩ := hv.x b.f4.toNat (by omega)
  have e2 : (rd_T57 items b.f4).f1 = (items.getD b.f4.toNat z57).f1 := rfl
  omega
def ItemsCalls (f : Nat) : Prop := ∀ (A : Option Addr) (c : Nat) (items : List S57) (n : Int) (w : World), Kd.C k57 w A items.length items → items.length ≤ c → 0 ≤ n → n ≤ 8 →
  Calls Try.prog f #[.slice A items.length c, .int .i64 n] w fun e w' => e = .returned (.agg #[.int .i64 (itemsFault items n).1, .int .i64 (itemsFault items n).2]) ∧ Below w.heap.size w w'
def BranchCalls (f : Nat) : Prop := ∀ (A : Option Addr) (c : Nat) (items : List S57) (b : S48) (n : Nat) (w : World), Kd.C k57 w A items.length items → items.length ≤ c → ValidI items n →
  Calls Try.prog f #[.slice A items.length c, bv b] w fun e w' => e = .returned (.int .i64 (brCode items b)) ∧ Below w.heap.size w w'
theorem insertFault_1 {os : List S72} {rs : List S76} {items : List S57} {bs : List S48} (h : (scriptFault os rs).1 ≠ 0) : insertFault os rs items bs = scriptFault os rs := by unfold insertFault; rw [if_pos h]
theorem insertFault_2 {os : List S72} {rs : List S76} {items : List S57} {bs : List S48} (h1 : (scriptFault os rs).1 = 0) (h : (itemsFault items os.length).1 ≠ 0) : insertFault os rs items bs = itemsFault items os.length := by unfold insertFault; rw [if_neg (by simpa using h1), if_pos h]
theorem insertFault_3 {os : List S72} {rs : List S76} {items : List S57} {bs : List S48} (h1 : (scriptFault os rs).1 = 0) (h2 : (itemsFault items os.length).1 = 0) (h : 400 < bs.length) : insertFault os rs items bs = (2, -4) := by unfold insertFault; rw [if_neg (by simpa using h1), if_neg (by simpa using h2), if_pos h]
theorem insertFault_4 {os : List S72} {rs : List S76} {items : List S57} {bs : List S48} (h1 : (scriptFault os rs).1 = 0) (h2 : (itemsFault items os.length).1 = 0) (h : ¬ 400 < bs.length) : insertFault os rs items bs = (match scan (fun i => brCode items (bs.getD i z48)) bs.length 0 with
 | some (i, e) => (e, 1000 + (i : Int))
 | none => (0, 0)) := by unfold insertFault; rw [if_neg (by simpa using h1), if_neg (by simpa using h2), if_neg h]; rfl
theorem inserted_f {os : List S72} {rs : List S76} {items : List S57} {bs : List S48} {f : Int × Int} (h : insertFault os rs items bs = f) (h0 : f.1 ≠ 0) : inserted os rs items bs = ⟨[], [], [], f.1, f.2⟩ := by unfold inserted; rw [h, if_pos h0]
theorem RowD.nil {α : Type} (d : Kd α) (base : Nat) (W : World) : RowD d base W (.slice none 0 0) ([] : List α) := ⟨none, 0, rfl, Nat.le_refl _, ⟨rfl, Nat.zero_le _, fun h => absurd h (Nat.lt_irrefl 0)⟩, fun _ h => by cases h⟩
theorem RowD.weak {α : Type} {d : Kd α} {base base' : Nat} {W : World} {v : Value} {xs : List α} (h : RowD d base W v xs) (hb : base' ≤ base) : RowD d base' W v xs := by
  obtain ⟨A, c, e, hc, hC, hA⟩ := h
  exact ⟨A, c, e, hc, hC, fun ad had => Nat.le_trans hb (hA ad had)⟩
theorem RowD.set {α : Type} {d : Kd α} (hd : ∀ (W W' : World) (x : α) (cs : List Value), d.K W x cs → d.K W' x cs) {base : Nat} {W : World} {v : Value} {xs : List α} (h : RowD d base W v xs) {r i : Nat} {u : Value} (hr : r < base) : RowD d base (W.setCell ⟨r, i, none⟩ u) v xs := by
 obtain ⟨A, c, e, hc, hC, hA⟩ := h
 exact ⟨A, c, e, hc, C_set hd hC (fun ad had => by have := hA ad had; simp; omega), hA⟩
theorem RowD.alloc {α : Type} {d : Kd α} {base : Nat} {W : World} {v : Value} {xs : List α} (h : RowD d base W v xs) {o : Obj} : RowD d base (W.alloc o) v xs := by
  obtain ⟨A, c, e, hc, hC, hA⟩ := h
  exact ⟨A, c, e, hc, Kd.C_below hC (below_alloc (Below.refl _ _) _), hA⟩
theorem RowD.drew {α : Type} {d : Kd α} {base : Nat} {W : World} {v : Value} {xs : List α} (h : RowD d base W v xs) : RowD d base W.drew v xs := by
  obtain ⟨A, c, e, hc, hC, hA⟩ := h
  exact ⟨A, c, e, hc, Kd.C_below hC (below_drew (Below.refl _ _)), hA⟩
theorem k0_any (W W' : World) (x : Bool) (cs : List Value) (h : Kd.bool.K W x cs) : Kd.bool.K W' x cs := h
theorem k1_any (W W' : World) (x : Int) (cs : List Value) (h : (Kd.int .i64).K W x cs) : (Kd.int .i64).K W' x cs := h
set_option maxHeartbeats 4000000 in
set_option maxRecDepth 100000 in
theorem insert_calls (hNm : NameCalls) (hPt : PatCalls) (hIt : ItemsCalls 26) (hBr : BranchCalls 27) (hAs : AssignCalls) (hG : GoalCalls) (hC : ContCalls) (hX : IndexCalls) (hN : NumCalls 55) (hAd : AddrCalls)
  {w : World} {A0 A1 A2 AB : Option Addr} {c0 c1 c2 cB : Nat} {os : List S72} {rs : List S76} {items : List S57} {bs : List S48}
  (h0 : Kd.C k72 w A0 os.length os) (hc0 : os.length ≤ c0) (h1 : Kd.C k76 w A1 rs.length rs) (hc1 : rs.length ≤ c1) (h2 : Kd.C k57 w A2 items.length items) (hc2 : items.length ≤ c2) (hB : Kd.C k48 w AB bs.length bs) (hcB : bs.length ≤ cB)
  (hs0 : ∀ j, (os.getD j z72).f0.size ≤ 9223372036854775807) (hs1 : ∀ j, (rs.getD j z76).f0.size ≤ 9223372036854775807) :
  Calls Try.prog 8 #[.agg #[.slice A0 os.length c0, .slice A1 rs.length c1], .slice A2 items.length c2, .slice AB bs.length cB] w fun e W' => ∃ vf vs va : Value, e = .returned (.tuple #[vf, vs, va, .agg #[.int .i64 (inserted os rs items bs).code, .int .i64 (inserted os rs items bs).idx]]) ∧
   Below w.heap.size w W' ∧ RowD Kd.bool w.heap.size W' vf (inserted os rs items bs).far ∧ RowD k54 w.heap.size W' vs (inserted os rs items bs).stubs ∧ RowD (Kd.int .i64) w.heap.size W' va (inserted os rs items bs).ad := by
 have hu29 := Try.underlying29
 have hu25 := Try.underlying25
 have hu48 := Try.underlying48
 generalize hI : inserted os rs items bs = R
 have HR := Aside0.mk hI
 clear hI
 go_enter Try.func8, Try.ntmps8
 go_wp2_with fail
 generalize hw0 : (w.alloc (Obj.cells #[Value.slice A0 os.length c0, Value.slice A1 rs.length c1] 25)).alloc (Obj.cells #[Value.int IntKind.i64 0, Value.int IntKind.i64 0] 29) = w0
 have hsz : w0.heap.size = w.heap.size + 2 := by rw [← hw0]; simp
 have hww : Below w.heap.size w w0 := by rw [← hw0]; exact below_alloc (below_alloc (Below.refl _ _) _) _
 have z0 : w0.cell? ⟨w.heap.size, 0, none⟩ = some (.slice A0 os.length c0) := by rw [← hw0]; exact (World.cell?_alloc_past _ _ _ (by simp)).trans (World.cell?_alloc_at _ _ _ _ rfl)
 have z1 : w0.cell? ⟨w.heap.size, 1, none⟩ = some (.slice A1 rs.length c1) := by rw [← hw0]; exact (World.cell?_alloc_past _ _ _ (by simp)).trans (World.cell?_alloc_at _ _ _ _ rfl)
 have zc : w0.heap[w.heap.size + 1]? = some (.cells #[Value.int IntKind.i64 0, Value.int IntKind.i64 0] 29 (0, 0)) := by
  rw [← hw0]
  have h := alloc_block (w.alloc (Obj.cells #[Value.slice A0 os.length c0, Value.slice A1 rs.length c1] 25)) (Obj.cells #[Value.int IntKind.i64 0, Value.int IntKind.i64 0] 29)
  rw [show (w.alloc (Obj.cells #[Value.slice A0 os.length c0, Value.slice A1 rs.length c1] 25)).heap.size = w.heap.size + 1 by simp] at h
  exact h
 clear hw0
 have hv := validate_calls hNm hPt A0 c0 os A1 c1 rs w0 (Kd.C_below h0 hww) hc0 (Kd.C_below h1 hww) hs0 hs1
 refine hv.mono ?_
 rintro e w1 ⟨rfl, hb1⟩
 have hW1 := Aside0.mk (hww.trans (hb1.mono (by omega)))
 have hs1z := hb1.size
 have zc1 := (hb1.block _ (by omega)).trans zc
 replace z0 := (hb1.cell (p := ⟨w.heap.size, 0, none⟩) (by simp; omega)).trans z0
 replace z1 := (hb1.cell (p := ⟨w.heap.size, 1, none⟩) (by simp; omega)).trans z1
 replace h0 := Aside0.mk h0
 replace h1 := Aside0.mk h1
 replace h2 := Aside0.mk h2
 replace hB := Aside0.mk hB
 have hlo := validO_of (os := os) (rs := rs)
 have hlos := scriptFault_zero (os := os) (rs := rs)
 have hI1 := insertFault_1 (os := os) (rs := rs) (items := items) (bs := bs)
 have hI2 := insertFault_2 (os := os) (rs := rs) (items := items) (bs := bs)
 have hI3 := insertFault_3 (os := os) (rs := rs) (items := items) (bs := bs)
 have hI4 := insertFault_4 (os := os) (rs := rs) (items := items) (bs := bs)
 clear hv zc hb1 hww hs0 hs1
 generalize hsf : scriptFault os rs = sf at *
 obtain ⟨code, idx⟩ := sf
 simp only at hlo hlos hI1 hI2 hI3 hI4
 clear hsf
 by_cases hcz : code = 0
 ·subst hcz
  obtain rfl := hlos rfl
  have hvo := hlo rfl
  clear hlo hlos hI1
  have hol := hvo.len
  have hit := Aside0.mk (fun (W' : World) (hW : Below w.heap.size w W') => hIt A2 c2 items os.length W' (Kd.C_below h2.out hW) hc2 (by omega) (by omega))
  have hb2 : Below w.heap.size w (w1.alloc (Obj.cells #[Value.int IntKind.i64 0, Value.int IntKind.i64 0] 29)) := below_alloc hW1.out _
  have hlt1 : w.heap.size < w1.heap.size := by omega
  replace hvo := Aside0.mk hvo
  replace zc1 := Aside0.mk (blk_alloc zc1 (Obj.cells #[Value.int IntKind.i64 0, Value.int IntKind.i64 0] 29))
  go_wp2_with (go_at_call 26; refine (hit.out _ hb2).mono ?_)
  rintro e w2 ⟨rfl, hb3⟩
  have hW2 := Aside0.mk (hb2.trans (hb3.mono hb2.size))
  have hsX : w1.heap.size + 1 = (w1.alloc (Obj.cells #[Value.int IntKind.i64 0, Value.int IntKind.i64 0] 29)).heap.size := by simp
  have hs2z := hb3.size
  replace zc1 := Aside0.mk ((hb3.block _ (by omega)).trans zc1.out)
  replace z0 := (hb3.cell (p := ⟨w.heap.size, 0, none⟩) (by simp; omega)).trans ((World.cell?_alloc_past _ _ _ hlt1).trans z0)
  replace z1 := (hb3.cell (p := ⟨w.heap.size, 1, none⟩) (by simp; omega)).trans ((World.cell?_alloc_past _ _ _ hlt1).trans z1)
  have hli := validI_of (items := items) (n := os.length)
  have hlis := itemsFault_zero (items := items) (n := os.length)
  clear hb2 hb3 hit hsX
  generalize hsf : itemsFault items os.length = sf at *
  obtain ⟨code, idx⟩ := sf
  simp only at hli hlis hI2 hI3 hI4
  clear hsf
  by_cases hcz : code = 0
  ·subst hcz
   obtain rfl := hlis rfl
   have hvi := hli rfl
   clear hli hlis hI2
   by_cases h400 : 400 < bs.length
   ·have hR : R = ⟨[], [], [], 2, -4⟩ := by rw [← HR.out]; exact inserted_f (f := (2, -4)) (hI3 (by trivial) (by trivial) h400) (by decide)
    have zc2 := blk_alloc zc1.out (Obj.cells #[Value.int IntKind.i64 0, Value.int IntKind.i64 0] 29)
    have hW3 := Aside0.mk (below_alloc hW2.out (Obj.cells #[Value.int IntKind.i64 0, Value.int IntKind.i64 0] 29))
    have f4 := blk_frozen zc2 0
    have f5 := blk_frozen zc2 1
    have d4 := (blk_cell zc2 0).trans rfl
    have d5 := (blk_cell zc2 1).trans rfl
    go_wp2
    refine bodyPost_ret (v := .tuple #[.slice none 0 0, .slice none 0 0, .slice none 0 0, .agg #[.int .i64 2, .int .i64 (-4)]]) (by simp [results, Try.results8, go_sem, d4, d5]) rfl ?_
    subst hR
    first | exact ⟨_, _, _, rfl, (hW3.out.setCell (p := ⟨w.heap.size + 1, 0, none⟩) (Nat.le_add_right _ 1) _).setCell (p := ⟨w.heap.size + 1, 1, none⟩) (Nat.le_add_right _ 1) _, RowD.nil _ _ _, RowD.nil _ _ _, RowD.nil _ _ _⟩ | exact ⟨_, _, _, rfl, below_drew ((hW3.out.setCell (p := ⟨w.heap.size + 1, 0, none⟩) (Nat.le_add_right _ 1) _).setCell (p := ⟨w.heap.size + 1, 1, none⟩) (Nat.le_add_right _ 1) _), RowD.nil _ _ _, RowD.nil _ _ _, RowD.nil _ _ _⟩
   ·have hI := hI4 (by trivial) (by trivial) h400
    clear hI3 hI4
    have HC := Aside0.mk (fun (W' : World) (hW : Below w.heap.size w W') => Kd.C_below hB.out hW)
    have hBr' := Aside0.mk (fun (b : S48) (W' : World) (hW : Below w.heap.size w W') => hBr A2 c2 items b os.length W' (Kd.C_below h2.out hW) hc2 hvi)
    simp only [bv] at hBr'
    have hW3 := Aside0.mk (below_alloc hW2.out (Obj.cells #[Value.int IntKind.i64 0, Value.int IntKind.i64 0] 29))
    have hs3 : (w2.alloc (Obj.cells #[Value.int IntKind.i64 0, Value.int IntKind.i64 0] 29)).heap.size = w2.heap.size + 1 := by simp
    have hsw1 : (w1.alloc (Obj.cells #[Value.int IntKind.i64 0, Value.int IntKind.i64 0] 29)).heap.size = w1.heap.size + 1 := by simp
    replace zc1 := Aside0.mk (blk_alloc zc1.out (Obj.cells #[Value.int IntKind.i64 0, Value.int IntKind.i64 0] 29))
    replace z0 := (World.cell?_alloc_past (Obj.cells #[Value.int IntKind.i64 0, Value.int IntKind.i64 0] 29) w.heap.size 0 (show w.heap.size < w2.heap.size by omega)).trans z0
    replace z1 := (World.cell?_alloc_past (Obj.cells #[Value.int IntKind.i64 0, Value.int IntKind.i64 0] 29) w.heap.size 1 (show w.heap.size < w2.heap.size by omega)).trans z1
    replace hI := Aside0.mk hI
    go_wp2_with fail
    generalize w2.alloc (Obj.cells #[Value.int IntKind.i64 0, Value.int IntKind.i64 0] 29) = X at *
    have Z := Aside0.mk (And.intro z0 z1)
    clear z0 z1
    have hlb : bs.length ≤ 400 := by omega
    have hln := hvi.len
    replace hvi := Aside0.mk hvi
    go_loopg [37] bs.length (fun k v37 wr => ∃ i : Nat, i ≤ bs.length ∧ v37 = .int .i64 i ∧ Aside0 (k = bs.length - i) ∧ Aside0 (scan (fun i => brCode items (bs.getD i z48)) bs.length 0 = scan (fun i => brCode items (bs.getD i z48)) (bs.length - i) i) ∧ Aside0 (Below X.heap.size X wr))
    case atStart => exact ⟨0, Nat.zero_le _, rfl, ⟨rfl⟩, ⟨rfl⟩, ⟨Below.refl _ _⟩⟩
    case round =>
     obtain ⟨i, hi, rfl, hk, hsc, hb⟩ := hrel
     have hWr : Aside0 (Below w.heap.size w wr) := ⟨hW3.out.trans (hb.out.mono (by omega))⟩
     have hsr := hb.out.size
     by_cases hlt : i < bs.length
     ·obtain ⟨bk, o, e, hbk, hx⟩ := open48 (HC.out _ hWr.out) (by omega)
      subst e
      obtain ⟨x0, x1, x2, x3, x4, x5⟩ := hx i hlt
      have hbc := Aside0.mk (hBr'.out (bs.getD i z48))
      have hgo : brCode items (bs.getD i z48) = 0 → Aside0 (scan (fun i => brCode items (bs.getD i z48)) bs.length 0 = scan (fun i => brCode items (bs.getD i z48)) (bs.length - (i + 1)) (i + 1)) := fun h => ⟨hsc.out.trans (scan_step hlt h)⟩
      have hout : brCode items (bs.getD i z48) ≠ 0 → Aside0 (R = ⟨[], [], [], brCode items (bs.getD i z48), 1000 + (i : Int)⟩) := fun h => ⟨by
       rw [← HR.out]
       have hq := hI.out
       rw [hsc.out, scan_hit (f := fun i => brCode items (bs.getD i z48)) hlt h] at hq
       exact inserted_f (f := (brCode items (bs.getD i z48), 1000 + (i : Int))) hq h⟩
      generalize brCode items (bs.getD i z48) = cd at *
      generalize bs.getD i z48 = b at *
      clear hx hsc
      by_cases hcd : cd = 0
      ·have hH := hgo hcd
       subst hcd
       clear hgo hout
       go_wp2_with (go_at_call 27; refine (hbc.out _ (below_alloc hWr.out _)).mono ?_; rintro e wq ⟨rfl, hbq⟩; replace hbq := Aside0.mk ((below_alloc (Below.refl _ _) _).trans (hbq.mono (by simp))))
       go_roundg (bs.length - (i + 1))
       case measure => have := hk.out; omega
       case rel => exact ⟨i + 1, hlt, by go_num, ⟨rfl⟩, hH, ⟨hb.out.trans (hbq.out.mono hb.out.size)⟩⟩
      ·have hH := hout hcd
       clear hgo hout
       have hcd' : (cd != 0) = true := by simpa using hcd
       go_wp2_with (go_at_call 27; refine (hbc.out _ (below_alloc hWr.out _)).mono ?_)
       rintro e wq ⟨rfl, hbq⟩
       have hbq1 : Below wr.heap.size wr wq := (below_alloc (Below.refl _ _) _).trans (hbq.mono (by simp))
       have zc2 := (hbq1.block _ (by omega)).trans ((hb.out.block _ (by omega)).trans zc1.out)
       have hW4 := Aside0.mk (hWr.out.trans (hbq1.mono hWr.out.size))
       have f4 := blk_frozen zc2 0
       have f5 := blk_frozen zc2 1
       have d4 := (blk_cell zc2 0).trans rfl
       have d5 := (blk_cell zc2 1).trans rfl
       clear hbq hbq1
       go_wp2
       have hR := hH.out
       refine bodyPost_ret (v := .tuple #[.slice none 0 0, .slice none 0 0, .slice none 0 0, .agg #[.int .i64 cd, .int .i64 (1000 + (i : Int))]]) (by simp [results, Try.results8, go_sem, d4, d5]) rfl ?_
       subst hR
       first | exact ⟨_, _, _, rfl, (hW4.out.setCell (p := ⟨w.heap.size + 1, 0, none⟩) (Nat.le_add_right _ 1) _).setCell (p := ⟨w.heap.size + 1, 1, none⟩) (Nat.le_add_right _ 1) _, RowD.nil _ _ _, RowD.nil _ _ _, RowD.nil _ _ _⟩ | exact ⟨_, _, _, rfl, below_drew ((hW4.out.setCell (p := ⟨w.heap.size + 1, 0, none⟩) (Nat.le_add_right _ 1) _).setCell (p := ⟨w.heap.size + 1, 1, none⟩) (Nat.le_add_right _ 1) _), RowD.nil _ _ _, RowD.nil _ _ _, RowD.nil _ _ _⟩
     ·obtain ⟨z0, z1⟩ := Z.out
      have hie : i = bs.length := by omega
      subst hie
      have hsn := hsc.out
      rw [Nat.sub_self] at hsn
      have hq := hI.out
      rw [hsn] at hq
      simp only [scan] at hq
      have hob : ∀ j, j < bs.length → OkB items.length (bs.getD j z48) := fun j hj => okB_of hvi.out (scan_none (f := fun i => brCode items (bs.getD i z48)) bs.length 0 hsn j (by omega) (by omega))
      have hR0 : (if (settled os items bs).code ≠ 0 then (⟨[], [], [], (settled os items bs).code, (settled os items bs).idx⟩ : Ins) else ⟨(settled os items bs).far, ordered (settled os items bs).L items.length, (settled os items bs).ad, 0, 0⟩) = R := by
       rw [← HR.out]; unfold inserted; rw [if_neg (show ¬ (insertFault os rs items bs).1 ≠ 0 by rw [hq]; simp)]
      have hpl := plan_calls hAs hG hC hX hN hAd (Kd.C_below h0.out hWr.out) hc0 (Kd.C_below h1.out hWr.out) hc1 (Kd.C_below h2.out hWr.out) hc2 (Kd.C_below hB.out hWr.out) hcB hvo.out hvi.out hlb hob
      replace z0 := (hb.out.cell (p := ⟨w.heap.size, 0, none⟩) (by simp; omega)).trans z0
      replace z1 := (hb.out.cell (p := ⟨w.heap.size, 1, none⟩) (by simp; omega)).trans z1
      generalize settled os items bs = S at *
      obtain ⟨far, L, ad, spn, code, idx⟩ := S
      simp only at hR0 hpl
      clear hq hsn hsc hob
      go_wp2_with (go_at_call 28; refine hpl.mono ?_)
      rintro e w4 ⟨vf, vs, va, vsp, rfl, hb4, ⟨⟨Af, nf, cf, rfl⟩, ⟨As, ns, cs, rfl⟩, ⟨Aa, na, ca, rfl⟩, ⟨Ap, np, cp, rfl⟩⟩, him⟩
      have zc2 := (hb4.block _ (by omega)).trans ((hb.out.block _ (by omega)).trans zc1.out)
      have hW4 := Aside0.mk (hWr.out.trans (hb4.mono hWr.out.size))
      have hs4 := hb4.size
      clear hb4 z0 z1
      have f4 := blk_frozen zc2 0
      have f5 := blk_frozen zc2 1
      have d4 := (blk_cell zc2 0).trans rfl
      have d5 := (blk_cell zc2 1).trans rfl
      have hlt4 : w.heap.size + 1 < w4.heap.size := by omega
      by_cases hcz : code = 0
      ·subst hcz
       obtain ⟨hz, hrf, hrs, hra⟩ := him rfl
       subst hz
       rw [if_neg (by simp)] at hR0
       clear him
       replace hR0 := Aside0.mk hR0
       have hq2 : w.heap.size + 2 ≤ wr.heap.size := by omega
       replace hrf := Aside0.mk (hrf.weak hq2)
       replace hrs := Aside0.mk (hrs.weak hq2)
       replace hra := Aside0.mk (hra.weak hq2)
       clear hq2
       go_wp2_with fail
       have hsY : ((w4.setCell ⟨w.heap.size + 1, 0, none⟩ (.int .i64 0)).setCell ⟨w.heap.size + 1, 1, none⟩ (.int .i64 0)).heap.size = w4.heap.size := by simp [World.setCell]
       have zY : (((w4.setCell ⟨w.heap.size + 1, 0, none⟩ (.int .i64 0)).setCell ⟨w.heap.size + 1, 1, none⟩ (.int .i64 0)).alloc (Obj.cells #[Value.slice Af nf cf, Value.slice As ns cs, Value.slice Aa na ca, Value.slice Ap np cp] 66)).heap[w.heap.size + 1]? = some (.cells #[Value.int IntKind.i64 0, Value.int IntKind.i64 0] 29 (0, 0)) := blk_alloc (blk_put (blk_put zc2 0 _ rfl) 1 _ rfl) _
       have bY : Below w.heap.size w (((w4.setCell ⟨w.heap.size + 1, 0, none⟩ (.int .i64 0)).setCell ⟨w.heap.size + 1, 1, none⟩ (.int .i64 0)).alloc (Obj.cells #[Value.slice Af nf cf, Value.slice As ns cs, Value.slice Aa na ca, Value.slice Ap np cp] 66)) := below_alloc ((hW4.out.setCell (p := ⟨w.heap.size + 1, 0, none⟩) (Nat.le_add_right _ 1) _).setCell (p := ⟨w.heap.size + 1, 1, none⟩) (Nat.le_add_right _ 1) _) _
       have cY : ∀ i, (((w4.setCell ⟨w.heap.size + 1, 0, none⟩ (.int .i64 0)).setCell ⟨w.heap.size + 1, 1, none⟩ (.int .i64 0)).alloc (Obj.cells #[Value.slice Af nf cf, Value.slice As ns cs, Value.slice Aa na ca, Value.slice Ap np cp] 66)).cell? ⟨w4.heap.size, i, none⟩ = #[Value.slice Af nf cf, Value.slice As ns cs, Value.slice Aa na ca, Value.slice Ap np cp][i]? := fun i => World.cell?_alloc_at _ _ _ _ hsY.symm
       have y0 := (cY 0).trans rfl
       have y1 := (cY 1).trans rfl
       have y2 := (cY 2).trans rfl
       have y3 := (cY 3).trans rfl
       have hrf := Aside0.mk (((hrf.out.set k0_any (r := w.heap.size + 1) (i := 0) (u := .int .i64 0) (Nat.lt_succ_self _)).set k0_any (r := w.heap.size + 1) (i := 1) (u := .int .i64 0) (Nat.lt_succ_self _)).alloc (o := Obj.cells #[Value.slice Af nf cf, Value.slice As ns cs, Value.slice Aa na ca, Value.slice Ap np cp] 66))
       have hrs := Aside0.mk (((hrs.out.set k54_any (r := w.heap.size + 1) (i := 0) (u := .int .i64 0) (Nat.lt_succ_self _)).set k54_any (r := w.heap.size + 1) (i := 1) (u := .int .i64 0) (Nat.lt_succ_self _)).alloc (o := Obj.cells #[Value.slice Af nf cf, Value.slice As ns cs, Value.slice Aa na ca, Value.slice Ap np cp] 66))
       have hra := Aside0.mk (((hra.out.set k1_any (r := w.heap.size + 1) (i := 0) (u := .int .i64 0) (Nat.lt_succ_self _)).set k1_any (r := w.heap.size + 1) (i := 1) (u := .int .i64 0) (Nat.lt_succ_self _)).alloc (o := Obj.cells #[Value.slice Af nf cf, Value.slice As ns cs, Value.slice Aa na ca, Value.slice Ap np cp] 66))
       generalize (((w4.setCell ⟨w.heap.size + 1, 0, none⟩ (.int .i64 0)).setCell ⟨w.heap.size + 1, 1, none⟩ (.int .i64 0)).alloc (Obj.cells #[Value.slice Af nf cf, Value.slice As ns cs, Value.slice Aa na ca, Value.slice Ap np cp] 66)) = Y at *
       clear f4 f5 d4 d5 zc2 cY hsY
       have f4 := blk_frozen zY 0
       have f5 := blk_frozen zY 1
       have d4 := (blk_cell zY 0).trans rfl
       have d5 := (blk_cell zY 1).trans rfl
       replace bY := Aside0.mk bY
       clear zY
       go_region
       go_wp2
       have hwl : w.heap.size ≤ w.heap.size + 2 := Nat.le_add_right _ 2
       have hlr : w.heap.size + 1 < w.heap.size + 2 := Nat.lt_succ_self _
       refine bodyPost_ret (v := .tuple #[.slice Af nf cf, .slice As ns cs, .slice Aa na ca, .agg #[.int .i64 0, .int .i64 0]]) (by simp [results, Try.results8, go_sem, d4, d5]) rfl ?_
       have hR := hR0.out
       subst hR
       refine ⟨_, _, _, rfl, ?_, ?_, ?_, ?_⟩
       ·with_reducible repeat (first | apply below_drew | apply pw_below_drewN | refine Below.setCell ?_ (Nat.le_add_right _ 1) _ | apply below_alloc)
        exact bY.out
       ·refine RowD.weak (base := w.heap.size + 2) ?_ hwl
        with_reducible repeat (first | apply RowD.drew | apply RowD.alloc | refine RowD.set k0_any ?_ hlr)
        exact hrf.out
       ·refine RowD.weak (base := w.heap.size + 2) ?_ hwl
        with_reducible repeat (first | apply RowD.drew | apply RowD.alloc | refine RowD.set k54_any ?_ hlr)
        exact hrs.out
       ·refine RowD.weak (base := w.heap.size + 2) ?_ hwl
        with_reducible repeat (first | apply RowD.drew | apply RowD.alloc | refine RowD.set k1_any ?_ hlr)
        exact hra.out
      ·rw [if_pos hcz] at hR0
       have hcz' : (code != 0) = true := by simpa using hcz
       clear him
       replace hR0 := Aside0.mk hR0
       go_wp2_with fail
       have hsY : ((w4.setCell ⟨w.heap.size + 1, 0, none⟩ (.int .i64 code)).setCell ⟨w.heap.size + 1, 1, none⟩ (.int .i64 idx)).heap.size = w4.heap.size := by simp [World.setCell]
       have zY : (((w4.setCell ⟨w.heap.size + 1, 0, none⟩ (.int .i64 code)).setCell ⟨w.heap.size + 1, 1, none⟩ (.int .i64 idx)).alloc (Obj.cells #[Value.slice Af nf cf, Value.slice As ns cs, Value.slice Aa na ca, Value.slice Ap np cp] 66)).heap[w.heap.size + 1]? = some (.cells #[Value.int IntKind.i64 code, Value.int IntKind.i64 idx] 29 (0, 0)) := blk_alloc (blk_put (blk_put zc2 0 _ rfl) 1 _ rfl) _
       have bY : Below w.heap.size w (((w4.setCell ⟨w.heap.size + 1, 0, none⟩ (.int .i64 code)).setCell ⟨w.heap.size + 1, 1, none⟩ (.int .i64 idx)).alloc (Obj.cells #[Value.slice Af nf cf, Value.slice As ns cs, Value.slice Aa na ca, Value.slice Ap np cp] 66)) := below_alloc ((hW4.out.setCell (p := ⟨w.heap.size + 1, 0, none⟩) (Nat.le_add_right _ 1) _).setCell (p := ⟨w.heap.size + 1, 1, none⟩) (Nat.le_add_right _ 1) _) _
       have cY : ∀ i, (((w4.setCell ⟨w.heap.size + 1, 0, none⟩ (.int .i64 code)).setCell ⟨w.heap.size + 1, 1, none⟩ (.int .i64 idx)).alloc (Obj.cells #[Value.slice Af nf cf, Value.slice As ns cs, Value.slice Aa na ca, Value.slice Ap np cp] 66)).cell? ⟨w4.heap.size, i, none⟩ = #[Value.slice Af nf cf, Value.slice As ns cs, Value.slice Aa na ca, Value.slice Ap np cp][i]? := fun i => World.cell?_alloc_at _ _ _ _ hsY.symm
       have y0 := (cY 0).trans rfl
       have y1 := (cY 1).trans rfl
       have y2 := (cY 2).trans rfl
       have y3 := (cY 3).trans rfl
       generalize (((w4.setCell ⟨w.heap.size + 1, 0, none⟩ (.int .i64 code)).setCell ⟨w.heap.size + 1, 1, none⟩ (.int .i64 idx)).alloc (Obj.cells #[Value.slice Af nf cf, Value.slice As ns cs, Value.slice Aa na ca, Value.slice Ap np cp] 66)) = Y at *
       clear f4 f5 d4 d5 zc2 cY hsY
       have f4 := blk_frozen zY 0
       have f5 := blk_frozen zY 1
       have d4 := (blk_cell zY 0).trans rfl
       have d5 := (blk_cell zY 1).trans rfl
       replace bY := Aside0.mk bY
       clear zY
       go_region
       go_wp2
       refine bodyPost_ret (v := .tuple #[.slice none 0 0, .slice none 0 0, .slice none 0 0, .agg #[.int .i64 code, .int .i64 idx]]) (by simp [results, Try.results8, go_sem, d4, d5]) rfl ?_
       have hR := hR0.out
       subst hR
       refine ⟨_, _, _, rfl, ?_, ?_, ?_, ?_⟩
       ·with_reducible repeat (first | apply below_drew | apply pw_below_drewN | refine Below.setCell ?_ (Nat.le_add_right _ 1) _ | apply below_alloc)
        exact bY.out
       ·exact RowD.nil _ _ _
       ·exact RowD.nil _ _ _
       ·exact RowD.nil _ _ _
  ·have hR : R = ⟨[], [], [], code, idx⟩ := by rw [← HR.out]; exact inserted_f (f := (code, idx)) (hI2 (by trivial) hcz) hcz
   have hcz' : (code != 0) = true := by simpa using hcz
   go_wp2_with fail
   have q0 : (w2.alloc (Obj.cells #[Value.int IntKind.i64 code, Value.int IntKind.i64 idx] 29)).cell? ⟨w2.heap.size, 0, none⟩ = some (.int .i64 code) := by simp
   have q1 : (w2.alloc (Obj.cells #[Value.int IntKind.i64 code, Value.int IntKind.i64 idx] 29)).cell? ⟨w2.heap.size, 1, none⟩ = some (.int .i64 idx) := by simp
   have zc2 := blk_alloc zc1.out (Obj.cells #[Value.int IntKind.i64 code, Value.int IntKind.i64 idx] 29)
   have hW2 := Aside0.mk (below_alloc hW2.out (Obj.cells #[Value.int IntKind.i64 code, Value.int IntKind.i64 idx] 29))
   generalize w2.alloc (Obj.cells #[Value.int IntKind.i64 code, Value.int IntKind.i64 idx] 29) = X at *
   have f4 := blk_frozen zc2 0
   have f5 := blk_frozen zc2 1
   have d4 := (blk_cell zc2 0).trans rfl
   have d5 := (blk_cell zc2 1).trans rfl
   go_region
   go_wp2
   refine bodyPost_ret (v := .tuple #[.slice none 0 0, .slice none 0 0, .slice none 0 0, .agg #[.int .i64 code, .int .i64 idx]]) (by simp [results, Try.results8, go_sem, d4, d5]) rfl ?_
   subst hR
   first | exact ⟨_, _, _, rfl, (hW2.out.setCell (p := ⟨w.heap.size + 1, 0, none⟩) (Nat.le_add_right _ 1) _).setCell (p := ⟨w.heap.size + 1, 1, none⟩) (Nat.le_add_right _ 1) _, RowD.nil _ _ _, RowD.nil _ _ _, RowD.nil _ _ _⟩ | exact ⟨_, _, _, rfl, below_drew ((hW2.out.setCell (p := ⟨w.heap.size + 1, 0, none⟩) (Nat.le_add_right _ 1) _).setCell (p := ⟨w.heap.size + 1, 1, none⟩) (Nat.le_add_right _ 1) _), RowD.nil _ _ _, RowD.nil _ _ _, RowD.nil _ _ _⟩
 ·have hR : R = ⟨[], [], [], code, idx⟩ := by rw [← HR.out]; exact inserted_f (f := (code, idx)) (hI1 hcz) hcz
  have hcz' : (code != 0) = true := by simpa using hcz
  go_wp2_with fail
  have q0 : (w1.alloc (Obj.cells #[Value.int IntKind.i64 code, Value.int IntKind.i64 idx] 29)).cell? ⟨w1.heap.size, 0, none⟩ = some (.int .i64 code) := by simp
  have q1 : (w1.alloc (Obj.cells #[Value.int IntKind.i64 code, Value.int IntKind.i64 idx] 29)).cell? ⟨w1.heap.size, 1, none⟩ = some (.int .i64 idx) := by simp
  have zc2 := blk_alloc zc1 (Obj.cells #[Value.int IntKind.i64 code, Value.int IntKind.i64 idx] 29)
  have hW2 := Aside0.mk (below_alloc hW1.out (Obj.cells #[Value.int IntKind.i64 code, Value.int IntKind.i64 idx] 29))
  generalize w1.alloc (Obj.cells #[Value.int IntKind.i64 code, Value.int IntKind.i64 idx] 29) = X at *
  have f4 := blk_frozen zc2 0
  have f5 := blk_frozen zc2 1
  have d4 := (blk_cell zc2 0).trans rfl
  have d5 := (blk_cell zc2 1).trans rfl
  go_region
  go_wp2
  refine bodyPost_ret (v := .tuple #[.slice none 0 0, .slice none 0 0, .slice none 0 0, .agg #[.int .i64 code, .int .i64 idx]]) (by simp [results, Try.results8, go_sem, d4, d5]) rfl ?_
  subst hR
  first | exact ⟨_, _, _, rfl, (hW2.out.setCell (p := ⟨w.heap.size + 1, 0, none⟩) (Nat.le_add_right _ 1) _).setCell (p := ⟨w.heap.size + 1, 1, none⟩) (Nat.le_add_right _ 1) _, RowD.nil _ _ _, RowD.nil _ _ _, RowD.nil _ _ _⟩ | exact ⟨_, _, _, rfl, below_drew ((hW2.out.setCell (p := ⟨w.heap.size + 1, 0, none⟩) (Nat.le_add_right _ 1) _).setCell (p := ⟨w.heap.size + 1, 1, none⟩) (Nat.le_add_right _ 1) _), RowD.nil _ _ _, RowD.nil _ _ _, RowD.nil _ _ _⟩
end Go.Proofs.Ytogcgcjhoebooaa
end
section
set_option linter.unusedVariables false
set_option linter.unusedSimpArgs false
namespace Go.Proofs.Ytogcgcjhoebooaa.PVeneerMatchesSpec
open Go.RowKit Go.Proofs.YtogcgcjhoebooaaW.PrintWords Go.Proofs.YtogcgcjhoebooaaW.PrintLast Go.Proofs.YtogcgcjhoebooaaW.PrintMore
mutual
def veneer_branch.j0 : Nat → List (S57) → Bool → Int → Int → Int → Int → Int → Int → Option (Int)
 | 0, _, _, _, _, _, _, _, _ => none
 | k + 1, x0, x5, x284000, x284001, x284002, x284003, x284004, x284005 => if x5 = true then (some 4) else (if x284000 < 0 then (veneer_branch.j1 k x0 true x284000 x284001 x284002 x284003 x284004 x284005) else (if x284000 ≥ (x0.length : Int) then (veneer_branch.j1 k x0 true x284000 x284001 x284002 x284003 x284004 x284005) else (if x284004 < (-1) then (veneer_branch.j1 k x0 true x284000 x284001 x284002 x284003 x284004 x284005) else (veneer_branch.j1 k x0 (decide (x284004 ≥ (x0.length : Int))) x284000 x284001 x284002 x284003 x284004 x284005))))
def veneer_branch.j1 : Nat → List (S57) → Bool → Int → Int → Int → Int → Int → Int → Option (Int)
 | 0, _, _, _, _, _, _, _, _ => none
 | k + 1, x0, x14, x284000, x284001, x284002, x284003, x284004, x284005 => if x14 = true then (some 3) else (if x284001 < 0 then (veneer_branch.j2 k x0 true x284000 x284001 x284002 x284003 x284004 x284005) else (if 0 ≤ x284000 then (if x284000 < (x0.length : Int) then ((apply_Width.f k x284002).bind fun t285 => (veneer_branch.j2 k x0 (decide (x284001 > (wrap64 (((rd_T57 x0 x284000).f1) - t285)))) x284000 x284001 x284002 x284003 x284004 x284005)) else (none)) else (none)))
def veneer_branch.j2 : Nat → List (S57) → Bool → Int → Int → Int → Int → Int → Int → Option (Int)
 | 0, _, _, _, _, _, _, _, _ => none
 | k + 1, x0, x37, x284000, x284001, x284002, x284003, x284004, x284005 => if x37 = true then (some 3) else (if x284004 < 0 then (if x284005 < 0 then (veneer_branch.j3 k true x284000 x284001 x284002 x284003 x284004 x284005) else (if x284005 > 4294967295 then (veneer_branch.j3 k true x284000 x284001 x284002 x284003 x284004 x284005) else (if x284004 ≥ 0 then (if 0 ≤ x284004 then (if x284004 < (x0.length : Int) then (veneer_branch.j3 k (decide (x284005 > ((rd_T57 x0 x284004).f1))) x284000 x284001 x284002 x284003 x284004 x284005) else (none)) else (none)) else (veneer_branch.j3 k false x284000 x284001 x284002 x284003 x284004 x284005)))) else (if x284004 ≥ 0 then (if x284005 < 0 then (veneer_branch.j3 k true x284000 x284001 x284002 x284003 x284004 x284005) else (if 0 ≤ x284004 then (if x284004 < (x0.length : Int) then (veneer_branch.j3 k (decide (x284005 > ((rd_T57 x0 x284004).f1))) x284000 x284001 x284002 x284003 x284004 x284005) else (none)) else (none))) else (veneer_branch.j3 k false x284000 x284001 x284002 x284003 x284004 x284005)))
def veneer_branch.j3 : Nat → Bool → Int → Int → Int → Int → Int → Int → Option (Int)
  | 0, _, _, _, _, _, _, _ => none
  | k + 1, x56, x284000, x284001, x284002, x284003, x284004, x284005 => if x56 = true then (some 3) else (if x284003 < (-1048576) then (some 3) else (if x284003 > 1048576 then (some 3) else (some 0)))
end
def veneer_branch.f (k : Nat) (l0 : List (S57)) (a1_0 : Int) (a1_1 : Int) (a1_2 : Int) (a1_3 : Int) (a1_4 : Int) (a1_5 : Int) : Option (Int) := if a1_2 = 2 then (veneer_branch.j0 k l0 false a1_0 a1_1 a1_2 a1_3 a1_4 a1_5) else (veneer_branch.j0 k l0 (a1_2 != 3) a1_0 a1_1 a1_2 a1_3 a1_4 a1_5)
theorem veneer_branch.mono_l : ∀ k, (∀ y0 y1 y2 y3 y4 y5 y6 y7, LeO (veneer_branch.j0 k y0 y1 y2 y3 y4 y5 y6 y7) (veneer_branch.j0 (k + 1) y0 y1 y2 y3 y4 y5 y6 y7)) ∧ (∀ y0 y1 y2 y3 y4 y5 y6 y7, LeO (veneer_branch.j1 k y0 y1 y2 y3 y4 y5 y6 y7) (veneer_branch.j1 (k + 1) y0 y1 y2 y3 y4 y5 y6 y7)) ∧ (∀ y0 y1 y2 y3 y4 y5 y6 y7, LeO (veneer_branch.j2 k y0 y1 y2 y3 y4 y5 y6 y7) (veneer_branch.j2 (k + 1) y0 y1 y2 y3 y4 y5 y6 y7)) ∧ (∀ y0 y1 y2 y3 y4 y5 y6, LeO (veneer_branch.j3 k y0 y1 y2 y3 y4 y5 y6) (veneer_branch.j3 (k + 1) y0 y1 y2 y3 y4 y5 y6))
 | 0 => ⟨fun _ _ _ _ _ _ _ _ r h => by simp [veneer_branch.j0] at h, fun _ _ _ _ _ _ _ _ r h => by simp [veneer_branch.j1] at h, fun _ _ _ _ _ _ _ _ r h => by simp [veneer_branch.j2] at h, fun _ _ _ _ _ _ _ r h => by simp [veneer_branch.j3] at h⟩
 | k + 1 => by
  obtain ⟨ih0, ih1, ih2, ih3⟩ := veneer_branch.mono_l k
  refine ⟨?_, ?_, ?_, ?_⟩
  ·intro y0 y1 y2 y3 y4 y5 y6 y7
   unfold veneer_branch.j0
   repeat' first
   | (with_reducible exact ih0 _ _ _ _ _ _ _ _)
   | (with_reducible exact ih1 _ _ _ _ _ _ _ _)
   | (with_reducible exact ih2 _ _ _ _ _ _ _ _)
   | (with_reducible exact ih3 _ _ _ _ _ _ _)
   | (with_reducible exact apply_Width.mono _ _)
   | (with_reducible exact LeO.refl _)
   | (with_reducible exact LeO.none _)
   | (with_reducible refine LeO.ite ?_ ?_)
   | (with_reducible refine LeO.bind ?_ (fun _ => ?_))
   | exact ih0 _ _ _ _ _ _ _ _
   | exact ih1 _ _ _ _ _ _ _ _
   | exact ih2 _ _ _ _ _ _ _ _
   | exact ih3 _ _ _ _ _ _ _
   | exact apply_Width.mono _ _
   | exact LeO.none _
   | refine LeO.ite ?_ ?_
   | refine LeO.bind ?_ (fun _ => ?_)
  ·intro y0 y1 y2 y3 y4 y5 y6 y7
   unfold veneer_branch.j1
   repeat' first
   | (with_reducible exact ih0 _ _ _ _ _ _ _ _)
   | (with_reducible exact ih1 _ _ _ _ _ _ _ _)
   | (with_reducible exact ih2 _ _ _ _ _ _ _ _)
   | (with_reducible exact ih3 _ _ _ _ _ _ _)
   | (with_reducible exact apply_Width.mono _ _)
   | (with_reducible exact LeO.refl _)
   | (with_reducible exact LeO.none _)
   | (with_reducible refine LeO.ite ?_ ?_)
   | (with_reducible refine LeO.bind ?_ (fun _ => ?_))
   | exact ih0 _ _ _ _ _ _ _ _
   | exact ih1 _ _ _ _ _ _ _ _
   | exact ih2 _ _ _ _ _ _ _ _
   | exact ih3 _ _ _ _ _ _ _
   | exact apply_Width.mono _ _
   | exact LeO.none _
   | refine LeO.ite ?_ ?_
   | refine LeO.bind ?_ (fun _ => ?_)
  ·intro y0 y1 y2 y3 y4 y5 y6 y7
   unfold veneer_branch.j2
   repeat' first
   | (with_reducible exact ih0 _ _ _ _ _ _ _ _)
   | (with_reducible exact ih1 _ _ _ _ _ _ _ _)
   | (with_reducible exact ih2 _ _ _ _ _ _ _ _)
   | (with_reducible exact ih3 _ _ _ _ _ _ _)
   | (with_reducible exact apply_Width.mono _ _)
   | (with_reducible exact LeO.refl _)
   | (with_reducible exact LeO.none _)
   | (with_reducible refine LeO.ite ?_ ?_)
   | (with_reducible refine LeO.bind ?_ (fun _ => ?_))
   | exact ih0 _ _ _ _ _ _ _ _
   | exact ih1 _ _ _ _ _ _ _ _
   | exact ih2 _ _ _ _ _ _ _ _
   | exact ih3 _ _ _ _ _ _ _
   | exact apply_Width.mono _ _
   | exact LeO.none _
   | refine LeO.ite ?_ ?_
   | refine LeO.bind ?_ (fun _ => ?_)
  ·intro y0 y1 y2 y3 y4 y5 y6
   unfold veneer_branch.j3
   repeat' first
   | (with_reducible exact ih0 _ _ _ _ _ _ _ _)
   | (with_reducible exact ih1 _ _ _ _ _ _ _ _)
   | (with_reducible exact ih2 _ _ _ _ _ _ _ _)
   | (with_reducible exact ih3 _ _ _ _ _ _ _)
   | (with_reducible exact apply_Width.mono _ _)
   | (with_reducible exact LeO.refl _)
   | (with_reducible exact LeO.none _)
   | (with_reducible refine LeO.ite ?_ ?_)
   | (with_reducible refine LeO.bind ?_ (fun _ => ?_))
   | exact ih0 _ _ _ _ _ _ _ _
   | exact ih1 _ _ _ _ _ _ _ _
   | exact ih2 _ _ _ _ _ _ _ _
   | exact ih3 _ _ _ _ _ _ _
   | exact apply_Width.mono _ _
   | exact LeO.none _
   | refine LeO.ite ?_ ?_
   | refine LeO.bind ?_ (fun _ => ?_)
theorem veneer_branch.mono : ∀ a0 a1 a2 a3 a4 a5 a6 k, LeO (veneer_branch.f k a0 a1 a2 a3 a4 a5 a6) (veneer_branch.f (k + 1) a0 a1 a2 a3 a4 a5 a6) := by
 intro a0 a1 a2 a3 a4 a5 a6 k
 obtain ⟨ih0, ih1, ih2, ih3⟩ := veneer_branch.mono_l k
 unfold veneer_branch.f
 repeat' first
   | (with_reducible exact ih0 _ _ _ _ _ _ _ _)
   | (with_reducible exact ih1 _ _ _ _ _ _ _ _)
   | (with_reducible exact ih2 _ _ _ _ _ _ _ _)
   | (with_reducible exact ih3 _ _ _ _ _ _ _)
   | (with_reducible exact apply_Width.mono _ _)
   | (with_reducible exact LeO.refl _)
   | (with_reducible exact LeO.none _)
   | (with_reducible refine LeO.ite ?_ ?_)
   | (with_reducible refine LeO.bind ?_ (fun _ => ?_))
   | exact ih0 _ _ _ _ _ _ _ _
   | exact ih1 _ _ _ _ _ _ _ _
   | exact ih2 _ _ _ _ _ _ _ _
   | exact ih3 _ _ _ _ _ _ _
   | exact apply_Width.mono _ _
   | exact LeO.none _
   | refine LeO.ite ?_ ?_
   | refine LeO.bind ?_ (fun _ => ?_)
set_option maxHeartbeats 8000000 in
set_option maxRecDepth 100000 in
theorem veneer_branch.calls (k : Nat) (A0 : Option Addr) (c0 : Nat) (l0 : List (S57)) (a1_0 : Int) (a1_1 : Int) (a1_2 : Int) (a1_3 : Int) (a1_4 : Int) (a1_5 : Int) (r : Int) (w : World) (hr0 : Kd.C k57 w A0 l0.length l0) (hc0 : l0.length ≤ c0) (h : veneer_branch.f k l0 a1_0 a1_1 a1_2 a1_3 a1_4 a1_5 = some r) :
  Calls Try.prog 27 #[.slice A0 l0.length c0, .agg #[.int .i64 a1_0, .int .i64 a1_1, .int .i64 a1_2, .int .i64 a1_3, .int .i64 a1_4, .int .i64 a1_5]] w fun e w' => e = .returned (.int .i64 r) ∧ Below w.heap.size w w' := by
 have hu48 := Try.underlying48
 have HR0 := Aside0.mk hr0
 have HC0 := Aside0.mk hc0
 clear hr0 hc0
 have HB := Aside0.mk (Below.refl w.heap.size w)
 have H : (if a1_2 = 2 then (veneer_branch.j0 k l0 false a1_0 a1_1 a1_2 a1_3 a1_4 a1_5) else (veneer_branch.j0 k l0 (a1_2 != 3) a1_0 a1_1 a1_2 a1_3 a1_4 a1_5)) = some r := h
 clear h
 have HC3 := Aside0.mk H
 clear H
 go_enter Try.func27, Try.ntmps27
 go_upto_region 1 with (first | ((with_reducible refine gate_dst (N := 3) rfl ?_); (try (refine gate_guard (by rfl) ?_; dsimp only)); refine box_event ?hg (N := 3) ?hd (cs := #[.int .i64 a1_0, .int .i64 a1_1, .int .i64 a1_2, .int .i64 a1_3, .int .i64 a1_4, .int .i64 a1_5]) (t := 48) ?hr ?_; (case hd => rfl); (case hg => rfl); (case hr => first | (go_simp; done) | (go_simp; rfl)); intro gb283 hg w4 hbox hb; have n0_ := Aside0.mk (below_step (by repeat (first | (with_reducible first | exact HB.out | apply below_alloc | apply pw_below_drewN | apply below_drew1) | exact HB.out)) hb); have n1_ := Aside0.mk (hbox); have n2_ := Aside0.mk ((by rw [hg]; exact (below_size (by repeat (first | (with_reducible first | exact HB.out | apply below_alloc | apply pw_below_drewN | apply below_drew1) | exact HB.out))) : w.heap.size ≤ gb283)); have n3_ := Aside0.mk ((by rw [hg]; exact (below_size (by repeat (first | (with_reducible first | exact HB.out | apply below_alloc | apply pw_below_drewN | apply below_drew1) | exact HB.out))) : w.heap.size ≤ gb283)); clear HB; have HB := n0_; have BK283 := n1_; have GW283 := n2_; have GE283 := n3_; clear n0_ n1_ n2_ n3_; clear hb hbox hg))
 skip
 (try simp only [Act.put, List.setIfInBounds_toArray, List.set_cons_zero, List.set_cons_succ])
 go_cut [5] (fun v5 wc => ∃ (kq : Nat) (x5_2 : Bool), v5 = .bool x5_2 ∧ Aside0 (veneer_branch.j0 kq l0 x5_2 a1_0 a1_1 a1_2 a1_3 a1_4 a1_5 = some r) ∧ Aside0 (kq ≤ k) ∧ Aside0 (wc.heap[gb283]? = some (.cells #[.int .i64 a1_0, .int .i64 a1_1, .int .i64 a1_2, .int .i64 a1_3, .int .i64 a1_4, .int .i64 a1_5] 48 (0, 0))) ∧ Aside0 (Below w.heap.size w wc))
 case first =>
  have H := HC3.out
  clear HC3
  by_cases c5 : a1_2 = 2
  ·rw [if_pos c5] at H
   have c5b0 : (a1_2 == 2) = true := beq_iff_eq.mpr c5
   have c5b1 : (a1_2 != 2) = false := bne_eq_false_iff_eq.mpr c5
   clear c5
   (first | rw [c5b0] | (simp only [i64_w, i32_w]; rw [c5b0]) | skip)
   have H' := Aside0.mk H
   clear H
   have hcz6_0 : w4.cell? ⟨gb283, 0, none⟩ = some (.int .i64 a1_0) := (blk_cell BK283.out 0).trans rfl
   have hcz6_1 : w4.cell? ⟨gb283, 1, none⟩ = some (.int .i64 a1_1) := (blk_cell BK283.out 1).trans rfl
   have hcz6_2 : w4.cell? ⟨gb283, 2, none⟩ = some (.int .i64 a1_2) := (blk_cell BK283.out 2).trans rfl
   have hcz6_3 : w4.cell? ⟨gb283, 3, none⟩ = some (.int .i64 a1_3) := (blk_cell BK283.out 3).trans rfl
   have hcz6_4 : w4.cell? ⟨gb283, 4, none⟩ = some (.int .i64 a1_4) := (blk_cell BK283.out 4).trans rfl
   have hcz6_5 : w4.cell? ⟨gb283, 5, none⟩ = some (.int .i64 a1_5) := (blk_cell BK283.out 5).trans rfl
   have hfz6_0 := blk_frozen BK283.out 0
   have hfz6_1 := blk_frozen BK283.out 1
   have hfz6_2 := blk_frozen BK283.out 2
   have hfz6_3 := blk_frozen BK283.out 3
   have hfz6_4 := blk_frozen BK283.out 4
   have hfz6_5 := blk_frozen BK283.out 5
   go_wp2
   repeat (go_quiet (fail); try go_wp2)
   go_meet
   case rel => exact ⟨_, (false), (by first | rfl | (simp; done) | (simp [*]; done)), H', ⟨by first | omega | exact Nat.le_refl _⟩, ⟨by (with_reducible repeat (first | refine blk_drewN ?_ _ | refine blk_drew ?_ | refine blk_alloc ?_ _)); exact BK283.out⟩, ⟨by repeat (first | (with_reducible first | exact HB.out | apply below_alloc | apply pw_below_drewN | apply below_drew1 | refine below_set ?_ GE283.out) | exact HB.out)⟩⟩
  ·rw [if_neg c5] at H
   have c5b0 : (a1_2 == 2) = false := beq_eq_false_iff_ne.mpr c5
   have c5b1 : (a1_2 != 2) = true := bne_iff_ne.mpr c5
   (first | rw [c5b0] | (simp only [i64_w, i32_w]; rw [c5b0]) | skip)
   have H' := Aside0.mk H
   clear H
   have hcz7_0 : w4.cell? ⟨gb283, 0, none⟩ = some (.int .i64 a1_0) := (blk_cell BK283.out 0).trans rfl
   have hcz7_1 : w4.cell? ⟨gb283, 1, none⟩ = some (.int .i64 a1_1) := (blk_cell BK283.out 1).trans rfl
   have hcz7_2 : w4.cell? ⟨gb283, 2, none⟩ = some (.int .i64 a1_2) := (blk_cell BK283.out 2).trans rfl
   have hcz7_3 : w4.cell? ⟨gb283, 3, none⟩ = some (.int .i64 a1_3) := (blk_cell BK283.out 3).trans rfl
   have hcz7_4 : w4.cell? ⟨gb283, 4, none⟩ = some (.int .i64 a1_4) := (blk_cell BK283.out 4).trans rfl
   have hcz7_5 : w4.cell? ⟨gb283, 5, none⟩ = some (.int .i64 a1_5) := (blk_cell BK283.out 5).trans rfl
   have hfz7_0 := blk_frozen BK283.out 0
   have hfz7_1 := blk_frozen BK283.out 1
   have hfz7_2 := blk_frozen BK283.out 2
   have hfz7_3 := blk_frozen BK283.out 3
   have hfz7_4 := blk_frozen BK283.out 4
   have hfz7_5 := blk_frozen BK283.out 5
   go_wp2
   repeat (go_quiet (fail); try go_wp2)
   go_meet
   case rel => exact ⟨_, ((a1_2 != 3)), (by first | rfl | (simp; done) | (simp [*]; done)), H', ⟨by first | omega | exact Nat.le_refl _⟩, ⟨by (with_reducible repeat (first | refine blk_drewN ?_ _ | refine blk_drew ?_ | refine blk_alloc ?_ _)); exact BK283.out⟩, ⟨by repeat (first | (with_reducible first | exact HB.out | apply below_alloc | apply pw_below_drewN | apply below_drew1 | refine below_set ?_ GE283.out) | exact HB.out)⟩⟩
 case rest =>
  clear HC3
  try clear c2
  try clear p2
  try clear c5
  try clear c5b0
  try clear c5b1
  try clear hcz6_0
  try clear hcz6_1
  try clear hcz6_2
  try clear hcz6_3
  try clear hcz6_4
  try clear hcz6_5
  try clear hcz7_0
  try clear hcz7_1
  try clear hcz7_2
  try clear hcz7_3
  try clear hcz7_4
  try clear hcz7_5
  try clear hfz6_0
  try clear hfz6_1
  try clear hfz6_2
  try clear hfz6_3
  try clear hfz6_4
  try clear hfz6_5
  try clear hfz7_0
  try clear hfz7_1
  try clear hfz7_2
  try clear hfz7_3
  try clear hfz7_4
  try clear hfz7_5
  obtain ⟨kq, x5_2, rfl, HA, HJ2, BK283, HB⟩ := hcut
  cases kq with
  | zero => exact absurd HA.out (by simp [veneer_branch.j0])
  | succ kj2 =>
   have H := HA.out
   clear HA
   simp only [veneer_branch.j0] at H
   by_cases c8 : x5_2 = true
   ·subst c8
    have H1 : (some 4) = some r := by rw [if_pos rfl] at H; exact H
    clear H
    have H := H1
    clear H1
    obtain rfl := Option.some.inj H
    go_wp2
    repeat (go_quiet (fail); try go_wp2)
    go_ret
    exact ⟨by first | rfl | (simp [errW_none, errW_some] <;> rfl) | (simp [*, errW_none, errW_some] <;> rfl), by repeat (first | (with_reducible first | exact HB.out | apply below_alloc | apply pw_below_drewN | apply below_drew1 | refine below_set ?_ GE283.out) | exact HB.out)⟩
   ·replace c8 := Bool.eq_false_iff.mpr c8
    subst c8
    have H1 : (if a1_0 < 0 then (veneer_branch.j1 kj2 l0 true a1_0 a1_1 a1_2 a1_3 a1_4 a1_5) else (if a1_0 ≥ (l0.length : Int) then (veneer_branch.j1 kj2 l0 true a1_0 a1_1 a1_2 a1_3 a1_4 a1_5) else (if a1_4 < (-1) then (veneer_branch.j1 kj2 l0 true a1_0 a1_1 a1_2 a1_3 a1_4 a1_5) else (veneer_branch.j1 kj2 l0 (decide (a1_4 ≥ (l0.length : Int))) a1_0 a1_1 a1_2 a1_3 a1_4 a1_5)))) = some r := by rw [if_neg (show ¬ (false = true) by decide)] at H; exact H
    clear H
    have H := H1
    clear H1
    have HC9 := Aside0.mk H
    clear H
    go_upto_region 3 with (fail)
    repeat (go_quiet (fail); go_upto_region 3 with (fail))
    go_cut [14] (fun v14 wc => ∃ (kq : Nat) (x14_8 : Bool), v14 = .bool x14_8 ∧ Aside0 (veneer_branch.j1 kq l0 x14_8 a1_0 a1_1 a1_2 a1_3 a1_4 a1_5 = some r) ∧ Aside0 (kq ≤ kj2) ∧ Aside0 (wc.heap[gb283]? = some (.cells #[.int .i64 a1_0, .int .i64 a1_1, .int .i64 a1_2, .int .i64 a1_3, .int .i64 a1_4, .int .i64 a1_5] 48 (0, 0))) ∧ Aside0 (Below w.heap.size w wc))
    case first =>
     have H := HC9.out
     clear HC9
     by_cases c10 : a1_0 < 0
     ·rw [if_pos c10] at H
      have c10b0 : decide (a1_0 < 0) = true := decide_eq_true c10
      clear c10
      (first | rw [c10b0] | (simp only [i64_w, i32_w]; rw [c10b0]) | skip)
      have H' := Aside0.mk H
      clear H
      have hcz11_0 : wc.cell? ⟨gb283, 0, none⟩ = some (.int .i64 a1_0) := (blk_cell BK283.out 0).trans rfl
      have hcz11_1 : wc.cell? ⟨gb283, 1, none⟩ = some (.int .i64 a1_1) := (blk_cell BK283.out 1).trans rfl
      have hcz11_2 : wc.cell? ⟨gb283, 2, none⟩ = some (.int .i64 a1_2) := (blk_cell BK283.out 2).trans rfl
      have hcz11_3 : wc.cell? ⟨gb283, 3, none⟩ = some (.int .i64 a1_3) := (blk_cell BK283.out 3).trans rfl
      have hcz11_4 : wc.cell? ⟨gb283, 4, none⟩ = some (.int .i64 a1_4) := (blk_cell BK283.out 4).trans rfl
      have hcz11_5 : wc.cell? ⟨gb283, 5, none⟩ = some (.int .i64 a1_5) := (blk_cell BK283.out 5).trans rfl
      have hfz11_0 := blk_frozen BK283.out 0
      have hfz11_1 := blk_frozen BK283.out 1
      have hfz11_2 := blk_frozen BK283.out 2
      have hfz11_3 := blk_frozen BK283.out 3
      have hfz11_4 := blk_frozen BK283.out 4
      have hfz11_5 := blk_frozen BK283.out 5
      go_wp2
      repeat (go_quiet (fail); try go_wp2)
      go_meet
      case rel => exact ⟨_, (true), (by first | rfl | (simp; done) | (simp [*]; done)), H', ⟨by have := HJ2.out; first | omega | exact Nat.le_refl _⟩, ⟨by (with_reducible repeat (first | refine blk_drewN ?_ _ | refine blk_drew ?_ | refine blk_alloc ?_ _)); exact BK283.out⟩, ⟨by repeat (first | (with_reducible first | exact HB.out | apply below_alloc | apply pw_below_drewN | apply below_drew1 | refine below_set ?_ GE283.out) | exact HB.out)⟩⟩
     ·rw [if_neg c10] at H
      have c10b0 : decide (a1_0 < 0) = false := decide_eq_false c10
      clear c10
      (first | rw [c10b0] | (simp only [i64_w, i32_w]; rw [c10b0]) | skip)
      by_cases c12 : a1_0 ≥ (l0.length : Int)
      ·rw [if_pos c12] at H
       have c12b0 : decide ((l0.length : Int) ≤ a1_0) = true := decide_eq_true c12
       clear c12
       have H' := Aside0.mk H
       clear H
       have hcz13_0 : wc.cell? ⟨gb283, 0, none⟩ = some (.int .i64 a1_0) := (blk_cell BK283.out 0).trans rfl
       have hcz13_1 : wc.cell? ⟨gb283, 1, none⟩ = some (.int .i64 a1_1) := (blk_cell BK283.out 1).trans rfl
       have hcz13_2 : wc.cell? ⟨gb283, 2, none⟩ = some (.int .i64 a1_2) := (blk_cell BK283.out 2).trans rfl
       have hcz13_3 : wc.cell? ⟨gb283, 3, none⟩ = some (.int .i64 a1_3) := (blk_cell BK283.out 3).trans rfl
       have hcz13_4 : wc.cell? ⟨gb283, 4, none⟩ = some (.int .i64 a1_4) := (blk_cell BK283.out 4).trans rfl
       have hcz13_5 : wc.cell? ⟨gb283, 5, none⟩ = some (.int .i64 a1_5) := (blk_cell BK283.out 5).trans rfl
       have hfz13_0 := blk_frozen BK283.out 0
       have hfz13_1 := blk_frozen BK283.out 1
       have hfz13_2 := blk_frozen BK283.out 2
       have hfz13_3 := blk_frozen BK283.out 3
       have hfz13_4 := blk_frozen BK283.out 4
       have hfz13_5 := blk_frozen BK283.out 5
       go_wp2
       repeat (go_quiet (fail); try go_wp2)
       go_meet
       case rel => exact ⟨_, (true), (by first | rfl | (simp; done) | (simp [*]; done)), H', ⟨by have := HJ2.out; first | omega | exact Nat.le_refl _⟩, ⟨by (with_reducible repeat (first | refine blk_drewN ?_ _ | refine blk_drew ?_ | refine blk_alloc ?_ _)); exact BK283.out⟩, ⟨by repeat (first | (with_reducible first | exact HB.out | apply below_alloc | apply pw_below_drewN | apply below_drew1 | refine below_set ?_ GE283.out) | exact HB.out)⟩⟩
      ·rw [if_neg c12] at H
       have c12b0 : decide ((l0.length : Int) ≤ a1_0) = false := decide_eq_false c12
       clear c12
       by_cases c14 : a1_4 < (-1)
       ·rw [if_pos c14] at H
        have c14b0 : decide (a1_4 < (-1)) = true := decide_eq_true c14
        clear c14
        have H' := Aside0.mk H
        clear H
        have hcz15_0 : wc.cell? ⟨gb283, 0, none⟩ = some (.int .i64 a1_0) := (blk_cell BK283.out 0).trans rfl
        have hcz15_1 : wc.cell? ⟨gb283, 1, none⟩ = some (.int .i64 a1_1) := (blk_cell BK283.out 1).trans rfl
        have hcz15_2 : wc.cell? ⟨gb283, 2, none⟩ = some (.int .i64 a1_2) := (blk_cell BK283.out 2).trans rfl
        have hcz15_3 : wc.cell? ⟨gb283, 3, none⟩ = some (.int .i64 a1_3) := (blk_cell BK283.out 3).trans rfl
        have hcz15_4 : wc.cell? ⟨gb283, 4, none⟩ = some (.int .i64 a1_4) := (blk_cell BK283.out 4).trans rfl
        have hcz15_5 : wc.cell? ⟨gb283, 5, none⟩ = some (.int .i64 a1_5) := (blk_cell BK283.out 5).trans rfl
        have hfz15_0 := blk_frozen BK283.out 0
        have hfz15_1 := blk_frozen BK283.out 1
        have hfz15_2 := blk_frozen BK283.out 2
        have hfz15_3 := blk_frozen BK283.out 3
        have hfz15_4 := blk_frozen BK283.out 4
        have hfz15_5 := blk_frozen BK283.out 5
        go_wp2
        repeat (go_quiet (fail); try go_wp2)
        go_meet
        case rel => exact ⟨_, (true), (by first | rfl | (simp; done) | (simp [*]; done)), H', ⟨by have := HJ2.out; first | omega | exact Nat.le_refl _⟩, ⟨by (with_reducible repeat (first | refine blk_drewN ?_ _ | refine blk_drew ?_ | refine blk_alloc ?_ _)); exact BK283.out⟩, ⟨by repeat (first | (with_reducible first | exact HB.out | apply below_alloc | apply pw_below_drewN | apply below_drew1 | refine below_set ?_ GE283.out) | exact HB.out)⟩⟩
       ·rw [if_neg c14] at H
        have c14b0 : decide (a1_4 < (-1)) = false := decide_eq_false c14
        clear c14
        have H' := Aside0.mk H
        clear H
        have hcz16_0 : wc.cell? ⟨gb283, 0, none⟩ = some (.int .i64 a1_0) := (blk_cell BK283.out 0).trans rfl
        have hcz16_1 : wc.cell? ⟨gb283, 1, none⟩ = some (.int .i64 a1_1) := (blk_cell BK283.out 1).trans rfl
        have hcz16_2 : wc.cell? ⟨gb283, 2, none⟩ = some (.int .i64 a1_2) := (blk_cell BK283.out 2).trans rfl
        have hcz16_3 : wc.cell? ⟨gb283, 3, none⟩ = some (.int .i64 a1_3) := (blk_cell BK283.out 3).trans rfl
        have hcz16_4 : wc.cell? ⟨gb283, 4, none⟩ = some (.int .i64 a1_4) := (blk_cell BK283.out 4).trans rfl
        have hcz16_5 : wc.cell? ⟨gb283, 5, none⟩ = some (.int .i64 a1_5) := (blk_cell BK283.out 5).trans rfl
        have hfz16_0 := blk_frozen BK283.out 0
        have hfz16_1 := blk_frozen BK283.out 1
        have hfz16_2 := blk_frozen BK283.out 2
        have hfz16_3 := blk_frozen BK283.out 3
        have hfz16_4 := blk_frozen BK283.out 4
        have hfz16_5 := blk_frozen BK283.out 5
        go_wp2
        repeat (go_quiet (fail); try go_wp2)
        go_meet
        case rel => exact ⟨_, (decide (a1_4 ≥ (l0.length : Int))), (by first | rfl | (simp; done) | (simp [*]; done)), H', ⟨by have := HJ2.out; first | omega | exact Nat.le_refl _⟩, ⟨by (with_reducible repeat (first | refine blk_drewN ?_ _ | refine blk_drew ?_ | refine blk_alloc ?_ _)); exact BK283.out⟩, ⟨by repeat (first | (with_reducible first | exact HB.out | apply below_alloc | apply pw_below_drewN | apply below_drew1 | refine below_set ?_ GE283.out) | exact HB.out)⟩⟩
    case rest =>
     clear HC9
     try clear c1
     try clear c2
     try clear p2
     try clear c5
     try clear c5b0
     try clear c5b1
     try clear c8
     try clear c10
     try clear c10b0
     try clear c12
     try clear c12b0
     try clear c14
     try clear c14b0
     try clear hcz11_0
     try clear hcz11_1
     try clear hcz11_2
     try clear hcz11_3
     try clear hcz11_4
     try clear hcz11_5
     try clear hcz13_0
     try clear hcz13_1
     try clear hcz13_2
     try clear hcz13_3
     try clear hcz13_4
     try clear hcz13_5
     try clear hcz15_0
     try clear hcz15_1
     try clear hcz15_2
     try clear hcz15_3
     try clear hcz15_4
     try clear hcz15_5
     try clear hcz16_0
     try clear hcz16_1
     try clear hcz16_2
     try clear hcz16_3
     try clear hcz16_4
     try clear hcz16_5
     try clear hcz6_0
     try clear hcz6_1
     try clear hcz6_2
     try clear hcz6_3
     try clear hcz6_4
     try clear hcz6_5
     try clear hcz7_0
     try clear hcz7_1
     try clear hcz7_2
     try clear hcz7_3
     try clear hcz7_4
     try clear hcz7_5
     try clear hfz11_0
     try clear hfz11_1
     try clear hfz11_2
     try clear hfz11_3
     try clear hfz11_4
     try clear hfz11_5
     try clear hfz13_0
     try clear hfz13_1
     try clear hfz13_2
     try clear hfz13_3
     try clear hfz13_4
     try clear hfz13_5
     try clear hfz15_0
     try clear hfz15_1
     try clear hfz15_2
     try clear hfz15_3
     try clear hfz15_4
     try clear hfz15_5
     try clear hfz16_0
     try clear hfz16_1
     try clear hfz16_2
     try clear hfz16_3
     try clear hfz16_4
     try clear hfz16_5
     try clear hfz6_0
     try clear hfz6_1
     try clear hfz6_2
     try clear hfz6_3
     try clear hfz6_4
     try clear hfz6_5
     try clear hfz7_0
     try clear hfz7_1
     try clear hfz7_2
     try clear hfz7_3
     try clear hfz7_4
     try clear hfz7_5
     try clear p2
     obtain ⟨kq, x14_8, rfl, HA, HJ8, BK283, HB⟩ := hcut
     cases kq with
     | zero => exact absurd HA.out (by simp [veneer_branch.j1])
     | succ kj8 =>
      have H := HA.out
      clear HA
      simp only [veneer_branch.j1] at H
      by_cases c17 : x14_8 = true
      ·subst c17
       have H1 : (some 3) = some r := by rw [if_pos rfl] at H; exact H
       clear H
       have H := H1
       clear H1
       obtain rfl := Option.some.inj H
       go_wp2
       repeat (go_quiet (fail); try go_wp2)
       go_ret
       exact ⟨by first | rfl | (simp [errW_none, errW_some] <;> rfl) | (simp [*, errW_none, errW_some] <;> rfl), by repeat (first | (with_reducible first | exact HB.out | apply below_alloc | apply pw_below_drewN | apply below_drew1 | refine below_set ?_ GE283.out) | exact HB.out)⟩
      ·replace c17 := Bool.eq_false_iff.mpr c17
       subst c17
       have H1 : (if a1_1 < 0 then (veneer_branch.j2 kj8 l0 true a1_0 a1_1 a1_2 a1_3 a1_4 a1_5) else (if 0 ≤ a1_0 then (if a1_0 < (l0.length : Int) then ((apply_Width.f kj8 a1_2).bind fun t285 => (veneer_branch.j2 kj8 l0 (decide (a1_1 > (wrap64 (((rd_T57 l0 a1_0).f1) - t285)))) a1_0 a1_1 a1_2 a1_3 a1_4 a1_5)) else (none)) else (none))) = some r := by rw [if_neg (show ¬ (false = true) by decide)] at H; exact H
       clear H
       have H := H1
       clear H1
       have HC18 := Aside0.mk H
       clear H
       go_upto_region 5 with (fail)
       repeat (go_quiet (fail); go_upto_region 5 with (fail))
       go_cut [37] (fun v37 wc => ∃ (kq : Nat) (x37_17 : Bool), v37 = .bool x37_17 ∧ Aside0 (veneer_branch.j2 kq l0 x37_17 a1_0 a1_1 a1_2 a1_3 a1_4 a1_5 = some r) ∧ Aside0 (kq ≤ kj8) ∧ Aside0 (wc.heap[gb283]? = some (.cells #[.int .i64 a1_0, .int .i64 a1_1, .int .i64 a1_2, .int .i64 a1_3, .int .i64 a1_4, .int .i64 a1_5] 48 (0, 0))) ∧ Aside0 (Below w.heap.size w wc))
       case first =>
        have H := HC18.out
        clear HC18
        by_cases c19 : a1_1 < 0
        ·rw [if_pos c19] at H
         have c19b0 : decide (a1_1 < 0) = true := decide_eq_true c19
         clear c19
         (first | rw [c19b0] | (simp only [i64_w, i32_w]; rw [c19b0]) | skip)
         have H' := Aside0.mk H
         clear H
         have hcz20_0 : wc.cell? ⟨gb283, 0, none⟩ = some (.int .i64 a1_0) := (blk_cell BK283.out 0).trans rfl
         have hcz20_1 : wc.cell? ⟨gb283, 1, none⟩ = some (.int .i64 a1_1) := (blk_cell BK283.out 1).trans rfl
         have hcz20_2 : wc.cell? ⟨gb283, 2, none⟩ = some (.int .i64 a1_2) := (blk_cell BK283.out 2).trans rfl
         have hcz20_3 : wc.cell? ⟨gb283, 3, none⟩ = some (.int .i64 a1_3) := (blk_cell BK283.out 3).trans rfl
         have hcz20_4 : wc.cell? ⟨gb283, 4, none⟩ = some (.int .i64 a1_4) := (blk_cell BK283.out 4).trans rfl
         have hcz20_5 : wc.cell? ⟨gb283, 5, none⟩ = some (.int .i64 a1_5) := (blk_cell BK283.out 5).trans rfl
         have hfz20_0 := blk_frozen BK283.out 0
         have hfz20_1 := blk_frozen BK283.out 1
         have hfz20_2 := blk_frozen BK283.out 2
         have hfz20_3 := blk_frozen BK283.out 3
         have hfz20_4 := blk_frozen BK283.out 4
         have hfz20_5 := blk_frozen BK283.out 5
         go_wp2
         repeat (go_quiet (fail); try go_wp2)
         go_meet
         case rel => exact ⟨_, (true), (by first | rfl | (simp; done) | (simp [*]; done)), H', ⟨by have := HJ2.out; have := HJ8.out; first | omega | exact Nat.le_refl _⟩, ⟨by (with_reducible repeat (first | refine blk_drewN ?_ _ | refine blk_drew ?_ | refine blk_alloc ?_ _)); exact BK283.out⟩, ⟨by repeat (first | (with_reducible first | exact HB.out | apply below_alloc | apply pw_below_drewN | apply below_drew1 | refine below_set ?_ GE283.out) | exact HB.out)⟩⟩
        ·rw [if_neg c19] at H
         have c19b0 : decide (a1_1 < 0) = false := decide_eq_false c19
         clear c19
         (first | rw [c19b0] | (simp only [i64_w, i32_w]; rw [c19b0]) | skip)
         by_cases c21 : 0 ≤ a1_0
         ·rw [if_pos c21] at H
          have c21b0 : decide (0 ≤ a1_0) = true := decide_eq_true c21
          clear c21
          by_cases c22 : a1_0 < (l0.length : Int)
          ·rw [if_pos c22] at H
           have c22b0 : decide (a1_0 < (l0.length : Int)) = true := decide_eq_true c22
           clear c22
           replace H := Option.bind_eq_some_iff.mp H
           obtain ⟨t285, A230, H⟩ := H
           replace H : (veneer_branch.j2 kj8 l0 (decide (a1_1 > (wrap64 (((rd_T57 l0 a1_0).f1) - t285)))) a1_0 a1_1 a1_2 a1_3 a1_4 a1_5) = some r := H
           have A23 := Aside0.mk A230
           clear A230
           have H' := Aside0.mk H
           clear H
           have hcz24_0 : wc.cell? ⟨gb283, 0, none⟩ = some (.int .i64 a1_0) := (blk_cell BK283.out 0).trans rfl
           have hcz24_1 : wc.cell? ⟨gb283, 1, none⟩ = some (.int .i64 a1_1) := (blk_cell BK283.out 1).trans rfl
           have hcz24_2 : wc.cell? ⟨gb283, 2, none⟩ = some (.int .i64 a1_2) := (blk_cell BK283.out 2).trans rfl
           have hcz24_3 : wc.cell? ⟨gb283, 3, none⟩ = some (.int .i64 a1_3) := (blk_cell BK283.out 3).trans rfl
           have hcz24_4 : wc.cell? ⟨gb283, 4, none⟩ = some (.int .i64 a1_4) := (blk_cell BK283.out 4).trans rfl
           have hcz24_5 : wc.cell? ⟨gb283, 5, none⟩ = some (.int .i64 a1_5) := (blk_cell BK283.out 5).trans rfl
           have hfz24_0 := blk_frozen BK283.out 0
           have hfz24_1 := blk_frozen BK283.out 1
           have hfz24_2 := blk_frozen BK283.out 2
           have hfz24_3 := blk_frozen BK283.out 3
           have hfz24_4 := blk_frozen BK283.out 4
           have hfz24_5 := blk_frozen BK283.out 5
           have p284 : 0 ≤ (a1_0 : Int) := of_decide_eq_true (by first | (with_reducible assumption) | assumption)
           have q284 : a1_0 < (l0.length : Int) := of_decide_eq_true (by first | (with_reducible assumption) | assumption)
           obtain ⟨ad284, e284, hx284_0, hx284_1, hx284_2⟩ := at_T57 HR0.out a1_0 p284 q284
           cases e284
           replace hx284_0 := (HB.out.cell (World.block_lt_of_cell? w _ hx284_0)).trans hx284_0
           replace hx284_1 := (HB.out.cell (World.block_lt_of_cell? w _ hx284_1)).trans hx284_1
           replace hx284_2 := (HB.out.cell (World.block_lt_of_cell? w _ hx284_2)).trans hx284_2
           replace p284 := eq_true p284
           replace q284 := eq_true q284
           go_wp2_with (first | (go_at_call 41; (with_reducible refine (apply_Width.calls kj8 a1_2 t285 _ A23.out).mono ?_); rintro e w' ⟨rfl, ⟨nd, rfl⟩⟩; (try first | exact ⟨rfl, _, World.drewN_drewN _ _ _⟩ | exact ⟨rfl, _, Eq.trans (World.drewN_drewN _ _ _) (congrArg (World.drewN _) (Nat.add_assoc _ _ _))⟩)))
           repeat (go_quiet (first | (go_at_call 41; (with_reducible refine (apply_Width.calls kj8 a1_2 t285 _ A23.out).mono ?_); rintro e w' ⟨rfl, ⟨nd, rfl⟩⟩; (try first | exact ⟨rfl, _, World.drewN_drewN _ _ _⟩ | exact ⟨rfl, _, Eq.trans (World.drewN_drewN _ _ _) (congrArg (World.drewN _) (Nat.add_assoc _ _ _))⟩))); try go_wp2_with (first | (go_at_call 41; (with_reducible refine (apply_Width.calls kj8 a1_2 t285 _ A23.out).mono ?_); rintro e w' ⟨rfl, ⟨nd, rfl⟩⟩; (try first | exact ⟨rfl, _, World.drewN_drewN _ _ _⟩ | exact ⟨rfl, _, Eq.trans (World.drewN_drewN _ _ _) (congrArg (World.drewN _) (Nat.add_assoc _ _ _))⟩))))
           go_meet
           case rel => exact ⟨_, (decide (a1_1 > (wrap64 (((rd_T57 l0 a1_0).f1) - t285)))), (by first | rfl | (simp; done) | (simp [*]; done)), H', ⟨by have := HJ2.out; have := HJ8.out; first | omega | exact Nat.le_refl _⟩, ⟨by (with_reducible repeat (first | refine blk_drewN ?_ _ | refine blk_drew ?_ | refine blk_alloc ?_ _)); exact BK283.out⟩, ⟨by repeat (first | (with_reducible first | exact HB.out | apply below_alloc | apply pw_below_drewN | apply below_drew1 | refine below_set ?_ GE283.out) | exact HB.out)⟩⟩
          ·rw [if_neg c22] at H
           exact absurd H (by simp)
         ·rw [if_neg c21] at H
          exact absurd H (by simp)
       case rest =>
        clear HC18
        try clear c1
        try clear c2
        try clear p2
        try clear q2
        try clear hx2
        try clear c5
        try clear c5b0
        try clear c5b1
        try clear p6
        try clear c8
        try clear c10
        try clear c10b0
        try clear c12
        try clear c12b0
        try clear c14
        try clear c14b0
        try clear c17
        try clear c19
        try clear c19b0
        try clear c21
        try clear c21b0
        try clear c22
        try clear c22b0
        try clear hcz11_0
        try clear hcz11_1
        try clear hcz11_2
        try clear hcz11_3
        try clear hcz11_4
        try clear hcz11_5
        try clear hcz13_0
        try clear hcz13_1
        try clear hcz13_2
        try clear hcz13_3
        try clear hcz13_4
        try clear hcz13_5
        try clear hcz15_0
        try clear hcz15_1
        try clear hcz15_2
        try clear hcz15_3
        try clear hcz15_4
        try clear hcz15_5
        try clear hcz16_0
        try clear hcz16_1
        try clear hcz16_2
        try clear hcz16_3
        try clear hcz16_4
        try clear hcz16_5
        try clear hcz20_0
        try clear hcz20_1
        try clear hcz20_2
        try clear hcz20_3
        try clear hcz20_4
        try clear hcz20_5
        try clear hcz24_0
        try clear hcz24_1
        try clear hcz24_2
        try clear hcz24_3
        try clear hcz24_4
        try clear hcz24_5
        try clear hcz6_0
        try clear hcz6_1
        try clear hcz6_2
        try clear hcz6_3
        try clear hcz6_4
        try clear hcz6_5
        try clear hcz7_0
        try clear hcz7_1
        try clear hcz7_2
        try clear hcz7_3
        try clear hcz7_4
        try clear hcz7_5
        try clear hfz11_0
        try clear hfz11_1
        try clear hfz11_2
        try clear hfz11_3
        try clear hfz11_4
        try clear hfz11_5
        try clear hfz13_0
        try clear hfz13_1
        try clear hfz13_2
        try clear hfz13_3
        try clear hfz13_4
        try clear hfz13_5
        try clear hfz15_0
        try clear hfz15_1
        try clear hfz15_2
        try clear hfz15_3
        try clear hfz15_4
        try clear hfz15_5
        try clear hfz16_0
        try clear hfz16_1
        try clear hfz16_2
        try clear hfz16_3
        try clear hfz16_4
        try clear hfz16_5
        try clear hfz20_0
        try clear hfz20_1
        try clear hfz20_2
        try clear hfz20_3
        try clear hfz20_4
        try clear hfz20_5
        try clear hfz24_0
        try clear hfz24_1
        try clear hfz24_2
        try clear hfz24_3
        try clear hfz24_4
        try clear hfz24_5
        try clear hfz6_0
        try clear hfz6_1
        try clear hfz6_2
        try clear hfz6_3
        try clear hfz6_4
        try clear hfz6_5
        try clear hfz7_0
        try clear hfz7_1
        try clear hfz7_2
        try clear hfz7_3
        try clear hfz7_4
        try clear hfz7_5
        try clear hx284_0
        try clear hx284_1
        try clear hx284_2
        try clear p2
        try clear p284
        try clear q284
        obtain ⟨kq, x37_17, rfl, HA, HJ17, BK283, HB⟩ := hcut
        cases kq with
        | zero => exact absurd HA.out (by simp [veneer_branch.j2])
        | succ kj17 =>
         have H := HA.out
         clear HA
         simp only [veneer_branch.j2] at H
         by_cases c25 : x37_17 = true
         ·subst c25
          have H1 : (some 3) = some r := by rw [if_pos rfl] at H; exact H
          clear H
          have H := H1
          clear H1
          obtain rfl := Option.some.inj H
          go_wp2
          repeat (go_quiet (fail); try go_wp2)
          go_ret
          exact ⟨by first | rfl | (simp [errW_none, errW_some] <;> rfl) | (simp [*, errW_none, errW_some] <;> rfl), by repeat (first | (with_reducible first | exact HB.out | apply below_alloc | apply pw_below_drewN | apply below_drew1 | refine below_set ?_ GE283.out) | exact HB.out)⟩
         ·replace c25 := Bool.eq_false_iff.mpr c25
          subst c25
          have H1 : (if a1_4 < 0 then (if a1_5 < 0 then (veneer_branch.j3 kj17 true a1_0 a1_1 a1_2 a1_3 a1_4 a1_5) else (if a1_5 > 4294967295 then (veneer_branch.j3 kj17 true a1_0 a1_1 a1_2 a1_3 a1_4 a1_5) else (if a1_4 ≥ 0 then (if 0 ≤ a1_4 then (if a1_4 < (l0.length : Int) then (veneer_branch.j3 kj17 (decide (a1_5 > ((rd_T57 l0 a1_4).f1))) a1_0 a1_1 a1_2 a1_3 a1_4 a1_5) else (none)) else (none)) else (veneer_branch.j3 kj17 false a1_0 a1_1 a1_2 a1_3 a1_4 a1_5)))) else (if a1_4 ≥ 0 then (if a1_5 < 0 then (veneer_branch.j3 kj17 true a1_0 a1_1 a1_2 a1_3 a1_4 a1_5) else (if 0 ≤ a1_4 then (if a1_4 < (l0.length : Int) then (veneer_branch.j3 kj17 (decide (a1_5 > ((rd_T57 l0 a1_4).f1))) a1_0 a1_1 a1_2 a1_3 a1_4 a1_5) else (none)) else (none))) else (veneer_branch.j3 kj17 false a1_0 a1_1 a1_2 a1_3 a1_4 a1_5))) = some r := by rw [if_neg (show ¬ (false = true) by decide)] at H; exact H
          clear H
          have H := H1
          clear H1
          have HC26 := Aside0.mk H
          clear H
          go_upto_region 7 with (fail)
          repeat (go_quiet (fail); go_upto_region 7 with (fail))
          go_cut [56] (fun v56 wc => ∃ (kq : Nat) (x56_25 : Bool), v56 = .bool x56_25 ∧ Aside0 (veneer_branch.j3 kq x56_25 a1_0 a1_1 a1_2 a1_3 a1_4 a1_5 = some r) ∧ Aside0 (kq ≤ kj17) ∧ Aside0 (wc.heap[gb283]? = some (.cells #[.int .i64 a1_0, .int .i64 a1_1, .int .i64 a1_2, .int .i64 a1_3, .int .i64 a1_4, .int .i64 a1_5] 48 (0, 0))) ∧ Aside0 (Below w.heap.size w wc))
          case first =>
           have H := HC26.out
           clear HC26
           by_cases c27 : a1_4 < 0
           ·rw [if_pos c27] at H
            have c27b0 : decide (a1_4 < 0) = true := decide_eq_true c27
            clear c27
            (first | rw [c27b0] | (simp only [i64_w, i32_w]; rw [c27b0]) | skip)
            by_cases c28 : a1_5 < 0
            ·rw [if_pos c28] at H
             have c28b0 : decide (a1_5 < 0) = true := decide_eq_true c28
             clear c28
             have H' := Aside0.mk H
             clear H
             have hcz29_0 : wc.cell? ⟨gb283, 0, none⟩ = some (.int .i64 a1_0) := (blk_cell BK283.out 0).trans rfl
             have hcz29_1 : wc.cell? ⟨gb283, 1, none⟩ = some (.int .i64 a1_1) := (blk_cell BK283.out 1).trans rfl
             have hcz29_2 : wc.cell? ⟨gb283, 2, none⟩ = some (.int .i64 a1_2) := (blk_cell BK283.out 2).trans rfl
             have hcz29_3 : wc.cell? ⟨gb283, 3, none⟩ = some (.int .i64 a1_3) := (blk_cell BK283.out 3).trans rfl
             have hcz29_4 : wc.cell? ⟨gb283, 4, none⟩ = some (.int .i64 a1_4) := (blk_cell BK283.out 4).trans rfl
             have hcz29_5 : wc.cell? ⟨gb283, 5, none⟩ = some (.int .i64 a1_5) := (blk_cell BK283.out 5).trans rfl
             have hfz29_0 := blk_frozen BK283.out 0
             have hfz29_1 := blk_frozen BK283.out 1
             have hfz29_2 := blk_frozen BK283.out 2
             have hfz29_3 := blk_frozen BK283.out 3
             have hfz29_4 := blk_frozen BK283.out 4
             have hfz29_5 := blk_frozen BK283.out 5
             go_wp2
             repeat (go_quiet (fail); try go_wp2)
             go_meet
             case rel => exact ⟨_, (true), (by first | rfl | (simp; done) | (simp [*]; done)), H', ⟨by have := HJ2.out; have := HJ8.out; have := HJ17.out; first | omega | exact Nat.le_refl _⟩, ⟨by (with_reducible repeat (first | refine blk_drewN ?_ _ | refine blk_drew ?_ | refine blk_alloc ?_ _)); exact BK283.out⟩, ⟨by repeat (first | (with_reducible first | exact HB.out | apply below_alloc | apply pw_below_drewN | apply below_drew1 | refine below_set ?_ GE283.out) | exact HB.out)⟩⟩
            ·rw [if_neg c28] at H
             have c28b0 : decide (a1_5 < 0) = false := decide_eq_false c28
             clear c28
             by_cases c30 : a1_5 > 4294967295
             ·rw [if_pos c30] at H
              have c30b0 : decide (4294967295 < a1_5) = true := decide_eq_true c30
              clear c30
              have H' := Aside0.mk H
              clear H
              have hcz31_0 : wc.cell? ⟨gb283, 0, none⟩ = some (.int .i64 a1_0) := (blk_cell BK283.out 0).trans rfl
              have hcz31_1 : wc.cell? ⟨gb283, 1, none⟩ = some (.int .i64 a1_1) := (blk_cell BK283.out 1).trans rfl
              have hcz31_2 : wc.cell? ⟨gb283, 2, none⟩ = some (.int .i64 a1_2) := (blk_cell BK283.out 2).trans rfl
              have hcz31_3 : wc.cell? ⟨gb283, 3, none⟩ = some (.int .i64 a1_3) := (blk_cell BK283.out 3).trans rfl
              have hcz31_4 : wc.cell? ⟨gb283, 4, none⟩ = some (.int .i64 a1_4) := (blk_cell BK283.out 4).trans rfl
              have hcz31_5 : wc.cell? ⟨gb283, 5, none⟩ = some (.int .i64 a1_5) := (blk_cell BK283.out 5).trans rfl
              have hfz31_0 := blk_frozen BK283.out 0
              have hfz31_1 := blk_frozen BK283.out 1
              have hfz31_2 := blk_frozen BK283.out 2
              have hfz31_3 := blk_frozen BK283.out 3
              have hfz31_4 := blk_frozen BK283.out 4
              have hfz31_5 := blk_frozen BK283.out 5
              go_wp2
              repeat (go_quiet (fail); try go_wp2)
              go_meet
              case rel => exact ⟨_, (true), (by first | rfl | (simp; done) | (simp [*]; done)), H', ⟨by have := HJ2.out; have := HJ8.out; have := HJ17.out; first | omega | exact Nat.le_refl _⟩, ⟨by (with_reducible repeat (first | refine blk_drewN ?_ _ | refine blk_drew ?_ | refine blk_alloc ?_ _)); exact BK283.out⟩, ⟨by repeat (first | (with_reducible first | exact HB.out | apply below_alloc | apply pw_below_drewN | apply below_drew1 | refine below_set ?_ GE283.out) | exact HB.out)⟩⟩
             ·rw [if_neg c30] at H
              have c30b0 : decide (4294967295 < a1_5) = false := decide_eq_false c30
              clear c30
              by_cases c32 : a1_4 ≥ 0
              ·rw [if_pos c32] at H
               have c32b0 : decide (0 ≤ a1_4) = true := decide_eq_true c32
               clear c32
               by_cases c33 : 0 ≤ a1_4
               ·rw [if_pos c33] at H
                have c33b0 : decide (0 ≤ a1_4) = true := decide_eq_true c33
                clear c33
                by_cases c34 : a1_4 < (l0.length : Int)
                ·rw [if_pos c34] at H
                 have c34b0 : decide (a1_4 < (l0.length : Int)) = true := decide_eq_true c34
                 clear c34
                 have H' := Aside0.mk H
                 clear H
                 have hcz35_0 : wc.cell? ⟨gb283, 0, none⟩ = some (.int .i64 a1_0) := (blk_cell BK283.out 0).trans rfl
                 have hcz35_1 : wc.cell? ⟨gb283, 1, none⟩ = some (.int .i64 a1_1) := (blk_cell BK283.out 1).trans rfl
                 have hcz35_2 : wc.cell? ⟨gb283, 2, none⟩ = some (.int .i64 a1_2) := (blk_cell BK283.out 2).trans rfl
                 have hcz35_3 : wc.cell? ⟨gb283, 3, none⟩ = some (.int .i64 a1_3) := (blk_cell BK283.out 3).trans rfl
                 have hcz35_4 : wc.cell? ⟨gb283, 4, none⟩ = some (.int .i64 a1_4) := (blk_cell BK283.out 4).trans rfl
                 have hcz35_5 : wc.cell? ⟨gb283, 5, none⟩ = some (.int .i64 a1_5) := (blk_cell BK283.out 5).trans rfl
                 have hfz35_0 := blk_frozen BK283.out 0
                 have hfz35_1 := blk_frozen BK283.out 1
                 have hfz35_2 := blk_frozen BK283.out 2
                 have hfz35_3 := blk_frozen BK283.out 3
                 have hfz35_4 := blk_frozen BK283.out 4
                 have hfz35_5 := blk_frozen BK283.out 5
                 have p286 : 0 ≤ (a1_4 : Int) := of_decide_eq_true (by first | (with_reducible assumption) | assumption)
                 have q286 : a1_4 < (l0.length : Int) := of_decide_eq_true (by first | (with_reducible assumption) | assumption)
                 obtain ⟨ad286, e286, hx286_0, hx286_1, hx286_2⟩ := at_T57 HR0.out a1_4 p286 q286
                 cases e286
                 replace hx286_0 := (HB.out.cell (World.block_lt_of_cell? w _ hx286_0)).trans hx286_0
                 replace hx286_1 := (HB.out.cell (World.block_lt_of_cell? w _ hx286_1)).trans hx286_1
                 replace hx286_2 := (HB.out.cell (World.block_lt_of_cell? w _ hx286_2)).trans hx286_2
                 replace p286 := eq_true p286
                 replace q286 := eq_true q286
                 go_wp2
                 repeat (go_quiet (fail); try go_wp2)
                 go_meet
                 case rel => exact ⟨_, (decide (a1_5 > ((rd_T57 l0 a1_4).f1))), (by first | rfl | (simp; done) | (simp [*]; done)), H', ⟨by have := HJ2.out; have := HJ8.out; have := HJ17.out; first | omega | exact Nat.le_refl _⟩, ⟨by (with_reducible repeat (first | refine blk_drewN ?_ _ | refine blk_drew ?_ | refine blk_alloc ?_ _)); exact BK283.out⟩, ⟨by repeat (first | (with_reducible first | exact HB.out | apply below_alloc | apply pw_below_drewN | apply below_drew1 | refine below_set ?_ GE283.out) | exact HB.out)⟩⟩
                ·rw [if_neg c34] at H
                 exact absurd H (by simp)
               ·rw [if_neg c33] at H
                exact absurd H (by simp)
              ·rw [if_neg c32] at H
               have c32b0 : decide (0 ≤ a1_4) = false := decide_eq_false c32
               clear c32
               have H' := Aside0.mk H
               clear H
               have hcz36_0 : wc.cell? ⟨gb283, 0, none⟩ = some (.int .i64 a1_0) := (blk_cell BK283.out 0).trans rfl
               have hcz36_1 : wc.cell? ⟨gb283, 1, none⟩ = some (.int .i64 a1_1) := (blk_cell BK283.out 1).trans rfl
               have hcz36_2 : wc.cell? ⟨gb283, 2, none⟩ = some (.int .i64 a1_2) := (blk_cell BK283.out 2).trans rfl
               have hcz36_3 : wc.cell? ⟨gb283, 3, none⟩ = some (.int .i64 a1_3) := (blk_cell BK283.out 3).trans rfl
               have hcz36_4 : wc.cell? ⟨gb283, 4, none⟩ = some (.int .i64 a1_4) := (blk_cell BK283.out 4).trans rfl
               have hcz36_5 : wc.cell? ⟨gb283, 5, none⟩ = some (.int .i64 a1_5) := (blk_cell BK283.out 5).trans rfl
               have hfz36_0 := blk_frozen BK283.out 0
               have hfz36_1 := blk_frozen BK283.out 1
               have hfz36_2 := blk_frozen BK283.out 2
               have hfz36_3 := blk_frozen BK283.out 3
               have hfz36_4 := blk_frozen BK283.out 4
               have hfz36_5 := blk_frozen BK283.out 5
               go_wp2
               repeat (go_quiet (fail); try go_wp2)
               go_meet
               case rel => exact ⟨_, (false), (by first | rfl | (simp; done) | (simp [*]; done)), H', ⟨by have := HJ2.out; have := HJ8.out; have := HJ17.out; first | omega | exact Nat.le_refl _⟩, ⟨by (with_reducible repeat (first | refine blk_drewN ?_ _ | refine blk_drew ?_ | refine blk_alloc ?_ _)); exact BK283.out⟩, ⟨by repeat (first | (with_reducible first | exact HB.out | apply below_alloc | apply pw_below_drewN | apply below_drew1 | refine below_set ?_ GE283.out) | exact HB.out)⟩⟩
           ·rw [if_neg c27] at H
            have c27b0 : decide (a1_4 < 0) = false := decide_eq_false c27
            clear c27
            (first | rw [c27b0] | (simp only [i64_w, i32_w]; rw [c27b0]) | skip)
            by_cases c37 : a1_4 ≥ 0
            ·rw [if_pos c37] at H
             have c37b0 : decide (0 ≤ a1_4) = true := decide_eq_true c37
             clear c37
             by_cases c38 : a1_5 < 0
             ·rw [if_pos c38] at H
              have c38b0 : decide (a1_5 < 0) = true := decide_eq_true c38
              clear c38
              have H' := Aside0.mk H
              clear H
              have hcz39_0 : wc.cell? ⟨gb283, 0, none⟩ = some (.int .i64 a1_0) := (blk_cell BK283.out 0).trans rfl
              have hcz39_1 : wc.cell? ⟨gb283, 1, none⟩ = some (.int .i64 a1_1) := (blk_cell BK283.out 1).trans rfl
              have hcz39_2 : wc.cell? ⟨gb283, 2, none⟩ = some (.int .i64 a1_2) := (blk_cell BK283.out 2).trans rfl
              have hcz39_3 : wc.cell? ⟨gb283, 3, none⟩ = some (.int .i64 a1_3) := (blk_cell BK283.out 3).trans rfl
              have hcz39_4 : wc.cell? ⟨gb283, 4, none⟩ = some (.int .i64 a1_4) := (blk_cell BK283.out 4).trans rfl
              have hcz39_5 : wc.cell? ⟨gb283, 5, none⟩ = some (.int .i64 a1_5) := (blk_cell BK283.out 5).trans rfl
              have hfz39_0 := blk_frozen BK283.out 0
              have hfz39_1 := blk_frozen BK283.out 1
              have hfz39_2 := blk_frozen BK283.out 2
              have hfz39_3 := blk_frozen BK283.out 3
              have hfz39_4 := blk_frozen BK283.out 4
              have hfz39_5 := blk_frozen BK283.out 5
              go_wp2
              repeat (go_quiet (fail); try go_wp2)
              go_meet
              case rel => exact ⟨_, (true), (by first | rfl | (simp; done) | (simp [*]; done)), H', ⟨by have := HJ2.out; have := HJ8.out; have := HJ17.out; first | omega | exact Nat.le_refl _⟩, ⟨by (with_reducible repeat (first | refine blk_drewN ?_ _ | refine blk_drew ?_ | refine blk_alloc ?_ _)); exact BK283.out⟩, ⟨by repeat (first | (with_reducible first | exact HB.out | apply below_alloc | apply pw_below_drewN | apply below_drew1 | refine below_set ?_ GE283.out) | exact HB.out)⟩⟩
             ·rw [if_neg c38] at H
              have c38b0 : decide (a1_5 < 0) = false := decide_eq_false c38
              clear c38
              by_cases c40 : 0 ≤ a1_4
              ·rw [if_pos c40] at H
               have c40b0 : decide (0 ≤ a1_4) = true := decide_eq_true c40
               clear c40
               by_cases c41 : a1_4 < (l0.length : Int)
               ·rw [if_pos c41] at H
                have c41b0 : decide (a1_4 < (l0.length : Int)) = true := decide_eq_true c41
                clear c41
                have H' := Aside0.mk H
                clear H
                have hcz42_0 : wc.cell? ⟨gb283, 0, none⟩ = some (.int .i64 a1_0) := (blk_cell BK283.out 0).trans rfl
                have hcz42_1 : wc.cell? ⟨gb283, 1, none⟩ = some (.int .i64 a1_1) := (blk_cell BK283.out 1).trans rfl
                have hcz42_2 : wc.cell? ⟨gb283, 2, none⟩ = some (.int .i64 a1_2) := (blk_cell BK283.out 2).trans rfl
                have hcz42_3 : wc.cell? ⟨gb283, 3, none⟩ = some (.int .i64 a1_3) := (blk_cell BK283.out 3).trans rfl
                have hcz42_4 : wc.cell? ⟨gb283, 4, none⟩ = some (.int .i64 a1_4) := (blk_cell BK283.out 4).trans rfl
                have hcz42_5 : wc.cell? ⟨gb283, 5, none⟩ = some (.int .i64 a1_5) := (blk_cell BK283.out 5).trans rfl
                have hfz42_0 := blk_frozen BK283.out 0
                have hfz42_1 := blk_frozen BK283.out 1
                have hfz42_2 := blk_frozen BK283.out 2
                have hfz42_3 := blk_frozen BK283.out 3
                have hfz42_4 := blk_frozen BK283.out 4
                have hfz42_5 := blk_frozen BK283.out 5
                have p287 : 0 ≤ (a1_4 : Int) := of_decide_eq_true (by first | (with_reducible assumption) | assumption)
                have q287 : a1_4 < (l0.length : Int) := of_decide_eq_true (by first | (with_reducible assumption) | assumption)
                obtain ⟨ad287, e287, hx287_0, hx287_1, hx287_2⟩ := at_T57 HR0.out a1_4 p287 q287
                cases e287
                replace hx287_0 := (HB.out.cell (World.block_lt_of_cell? w _ hx287_0)).trans hx287_0
                replace hx287_1 := (HB.out.cell (World.block_lt_of_cell? w _ hx287_1)).trans hx287_1
                replace hx287_2 := (HB.out.cell (World.block_lt_of_cell? w _ hx287_2)).trans hx287_2
                replace p287 := eq_true p287
                replace q287 := eq_true q287
                go_wp2
                repeat (go_quiet (fail); try go_wp2)
                go_meet
                case rel => exact ⟨_, (decide (a1_5 > ((rd_T57 l0 a1_4).f1))), (by first | rfl | (simp; done) | (simp [*]; done)), H', ⟨by have := HJ2.out; have := HJ8.out; have := HJ17.out; first | omega | exact Nat.le_refl _⟩, ⟨by (with_reducible repeat (first | refine blk_drewN ?_ _ | refine blk_drew ?_ | refine blk_alloc ?_ _)); exact BK283.out⟩, ⟨by repeat (first | (with_reducible first | exact HB.out | apply below_alloc | apply pw_below_drewN | apply below_drew1 | refine below_set ?_ GE283.out) | exact HB.out)⟩⟩
               ·rw [if_neg c41] at H
                exact absurd H (by simp)
              ·rw [if_neg c40] at H
               exact absurd H (by simp)
            ·rw [if_neg c37] at H
             have c37b0 : decide (0 ≤ a1_4) = false := decide_eq_false c37
             clear c37
             have H' := Aside0.mk H
             clear H
             have hcz43_0 : wc.cell? ⟨gb283, 0, none⟩ = some (.int .i64 a1_0) := (blk_cell BK283.out 0).trans rfl
             have hcz43_1 : wc.cell? ⟨gb283, 1, none⟩ = some (.int .i64 a1_1) := (blk_cell BK283.out 1).trans rfl
             have hcz43_2 : wc.cell? ⟨gb283, 2, none⟩ = some (.int .i64 a1_2) := (blk_cell BK283.out 2).trans rfl
             have hcz43_3 : wc.cell? ⟨gb283, 3, none⟩ = some (.int .i64 a1_3) := (blk_cell BK283.out 3).trans rfl
             have hcz43_4 : wc.cell? ⟨gb283, 4, none⟩ = some (.int .i64 a1_4) := (blk_cell BK283.out 4).trans rfl
             have hcz43_5 : wc.cell? ⟨gb283, 5, none⟩ = some (.int .i64 a1_5) := (blk_cell BK283.out 5).trans rfl
             have hfz43_0 := blk_frozen BK283.out 0
             have hfz43_1 := blk_frozen BK283.out 1
             have hfz43_2 := blk_frozen BK283.out 2
             have hfz43_3 := blk_frozen BK283.out 3
             have hfz43_4 := blk_frozen BK283.out 4
             have hfz43_5 := blk_frozen BK283.out 5
             go_wp2
             repeat (go_quiet (fail); try go_wp2)
             go_meet
             case rel => exact ⟨_, (false), (by first | rfl | (simp; done) | (simp [*]; done)), H', ⟨by have := HJ2.out; have := HJ8.out; have := HJ17.out; first | omega | exact Nat.le_refl _⟩, ⟨by (with_reducible repeat (first | refine blk_drewN ?_ _ | refine blk_drew ?_ | refine blk_alloc ?_ _)); exact BK283.out⟩, ⟨by repeat (first | (with_reducible first | exact HB.out | apply below_alloc | apply pw_below_drewN | apply below_drew1 | refine below_set ?_ GE283.out) | exact HB.out)⟩⟩
          case rest =>
           clear HC26
           try clear c1
           try clear c2
           try clear p2
           try clear q2
           try clear hx2
           try clear c3
           try clear c4
           try clear c5
           try clear c5b0
           try clear c5b1
           try clear p6
           try clear c8
           try clear c10
           try clear c10b0
           try clear c12
           try clear c12b0
           try clear c14
           try clear c14b0
           try clear c17
           try clear c19
           try clear c19b0
           try clear c21
           try clear c21b0
           try clear c22
           try clear c22b0
           try clear c25
           try clear c27
           try clear c27b0
           try clear c28
           try clear c28b0
           try clear p28
           try clear q28
           try clear hx28
           try clear c30
           try clear c30b0
           try clear c32
           try clear c32b0
           try clear c33
           try clear c33b0
           try clear c34
           try clear c34b0
           try clear c37
           try clear c37b0
           try clear c38
           try clear c38b0
           try clear c40
           try clear c40b0
           try clear c41
           try clear c41b0
           try clear hcz11_0
           try clear hcz11_1
           try clear hcz11_2
           try clear hcz11_3
           try clear hcz11_4
           try clear hcz11_5
           try clear hcz13_0
           try clear hcz13_1
           try clear hcz13_2
           try clear hcz13_3
           try clear hcz13_4
           try clear hcz13_5
           try clear hcz15_0
           try clear hcz15_1
           try clear hcz15_2
           try clear hcz15_3
           try clear hcz15_4
           try clear hcz15_5
           try clear hcz16_0
           try clear hcz16_1
           try clear hcz16_2
           try clear hcz16_3
           try clear hcz16_4
           try clear hcz16_5
           try clear hcz20_0
           try clear hcz20_1
           try clear hcz20_2
           try clear hcz20_3
           try clear hcz20_4
           try clear hcz20_5
           try clear hcz24_0
           try clear hcz24_1
           try clear hcz24_2
           try clear hcz24_3
           try clear hcz24_4
           try clear hcz24_5
           try clear hcz29_0
           try clear hcz29_1
           try clear hcz29_2
           try clear hcz29_3
           try clear hcz29_4
           try clear hcz29_5
           try clear hcz31_0
           try clear hcz31_1
           try clear hcz31_2
           try clear hcz31_3
           try clear hcz31_4
           try clear hcz31_5
           try clear hcz35_0
           try clear hcz35_1
           try clear hcz35_2
           try clear hcz35_3
           try clear hcz35_4
           try clear hcz35_5
           try clear hcz36_0
           try clear hcz36_1
           try clear hcz36_2
           try clear hcz36_3
           try clear hcz36_4
           try clear hcz36_5
           try clear hcz39_0
           try clear hcz39_1
           try clear hcz39_2
           try clear hcz39_3
           try clear hcz39_4
           try clear hcz39_5
           try clear hcz42_0
           try clear hcz42_1
           try clear hcz42_2
           try clear hcz42_3
           try clear hcz42_4
           try clear hcz42_5
           try clear hcz43_0
           try clear hcz43_1
           try clear hcz43_2
           try clear hcz43_3
           try clear hcz43_4
           try clear hcz43_5
           try clear hcz6_0
           try clear hcz6_1
           try clear hcz6_2
           try clear hcz6_3
           try clear hcz6_4
           try clear hcz6_5
           try clear hcz7_0
           try clear hcz7_1
           try clear hcz7_2
           try clear hcz7_3
           try clear hcz7_4
           try clear hcz7_5
           try clear hfz11_0
           try clear hfz11_1
           try clear hfz11_2
           try clear hfz11_3
           try clear hfz11_4
           try clear hfz11_5
           try clear hfz13_0
           try clear hfz13_1
           try clear hfz13_2
           try clear hfz13_3
           try clear hfz13_4
           try clear hfz13_5
           try clear hfz15_0
           try clear hfz15_1
           try clear hfz15_2
           try clear hfz15_3
           try clear hfz15_4
           try clear hfz15_5
           try clear hfz16_0
           try clear hfz16_1
           try clear hfz16_2
           try clear hfz16_3
           try clear hfz16_4
           try clear hfz16_5
           try clear hfz20_0
           try clear hfz20_1
           try clear hfz20_2
           try clear hfz20_3
           try clear hfz20_4
           try clear hfz20_5
           try clear hfz24_0
           try clear hfz24_1
           try clear hfz24_2
           try clear hfz24_3
           try clear hfz24_4
           try clear hfz24_5
           try clear hfz29_0
           try clear hfz29_1
           try clear hfz29_2
           try clear hfz29_3
           try clear hfz29_4
           try clear hfz29_5
           try clear hfz31_0
           try clear hfz31_1
           try clear hfz31_2
           try clear hfz31_3
           try clear hfz31_4
           try clear hfz31_5
           try clear hfz35_0
           try clear hfz35_1
           try clear hfz35_2
           try clear hfz35_3
           try clear hfz35_4
           try clear hfz35_5
           try clear hfz36_0
           try clear hfz36_1
           try clear hfz36_2
           try clear hfz36_3
           try clear hfz36_4
           try clear hfz36_5
           try clear hfz39_0
           try clear hfz39_1
           try clear hfz39_2
           try clear hfz39_3
           try clear hfz39_4
           try clear hfz39_5
           try clear hfz42_0
           try clear hfz42_1
           try clear hfz42_2
           try clear hfz42_3
           try clear hfz42_4
           try clear hfz42_5
           try clear hfz43_0
           try clear hfz43_1
           try clear hfz43_2
           try clear hfz43_3
           try clear hfz43_4
           try clear hfz43_5
           try clear hfz6_0
           try clear hfz6_1
           try clear hfz6_2
           try clear hfz6_3
           try clear hfz6_4
           try clear hfz6_5
           try clear hfz7_0
           try clear hfz7_1
           try clear hfz7_2
           try clear hfz7_3
           try clear hfz7_4
           try clear hfz7_5
           try clear hx284_0
           try clear hx284_1
           try clear hx284_2
           try clear hx286_0
           try clear hx286_1
           try clear hx286_2
           try clear hx287_0
           try clear hx287_1
           try clear hx287_2
           try clear p2
           try clear p284
           try clear p286
           try clear p287
           try clear p6
           try clear q2
           try clear q284
           try clear q286
           try clear q287
           obtain ⟨kq, x56_25, rfl, HA, HJ25, BK283, HB⟩ := hcut
           cases kq with
           | zero => exact absurd HA.out (by simp [veneer_branch.j3])
           | succ kj25 =>
            have H := HA.out
            clear HA
            simp only [veneer_branch.j3] at H
            by_cases c44 : x56_25 = true
            ·subst c44
             have H1 : (some 3) = some r := by rw [if_pos rfl] at H; exact H
             clear H
             have H := H1
             clear H1
             obtain rfl := Option.some.inj H
             go_wp2
             repeat (go_quiet (fail); try go_wp2)
             go_ret
             exact ⟨by first | rfl | (simp [errW_none, errW_some] <;> rfl) | (simp [*, errW_none, errW_some] <;> rfl), by repeat (first | (with_reducible first | exact HB.out | apply below_alloc | apply pw_below_drewN | apply below_drew1 | refine below_set ?_ GE283.out) | exact HB.out)⟩
            ·replace c44 := Bool.eq_false_iff.mpr c44
             subst c44
             have H1 : (if a1_3 < (-1048576) then (some 3) else (if a1_3 > 1048576 then (some 3) else (some 0))) = some r := by rw [if_neg (show ¬ (false = true) by decide)] at H; exact H
             clear H
             have H := H1
             clear H1
             by_cases c45 : a1_3 < (-1048576)
             ·rw [if_pos c45] at H
              have c45b0 : decide (a1_3 < (-1048576)) = true := decide_eq_true c45
              clear c45
              obtain rfl := Option.some.inj H
              have hcz46_0 : wc.cell? ⟨gb283, 0, none⟩ = some (.int .i64 a1_0) := (blk_cell BK283.out 0).trans rfl
              have hcz46_1 : wc.cell? ⟨gb283, 1, none⟩ = some (.int .i64 a1_1) := (blk_cell BK283.out 1).trans rfl
              have hcz46_2 : wc.cell? ⟨gb283, 2, none⟩ = some (.int .i64 a1_2) := (blk_cell BK283.out 2).trans rfl
              have hcz46_3 : wc.cell? ⟨gb283, 3, none⟩ = some (.int .i64 a1_3) := (blk_cell BK283.out 3).trans rfl
              have hcz46_4 : wc.cell? ⟨gb283, 4, none⟩ = some (.int .i64 a1_4) := (blk_cell BK283.out 4).trans rfl
              have hcz46_5 : wc.cell? ⟨gb283, 5, none⟩ = some (.int .i64 a1_5) := (blk_cell BK283.out 5).trans rfl
              have hfz46_0 := blk_frozen BK283.out 0
              have hfz46_1 := blk_frozen BK283.out 1
              have hfz46_2 := blk_frozen BK283.out 2
              have hfz46_3 := blk_frozen BK283.out 3
              have hfz46_4 := blk_frozen BK283.out 4
              have hfz46_5 := blk_frozen BK283.out 5
              go_wp2
              repeat (go_quiet (fail); try go_wp2)
              go_ret
              exact ⟨by first | rfl | (simp [errW_none, errW_some] <;> rfl) | (simp [*, errW_none, errW_some] <;> rfl), by repeat (first | (with_reducible first | exact HB.out | apply below_alloc | apply pw_below_drewN | apply below_drew1 | refine below_set ?_ GE283.out) | exact HB.out)⟩
             ·rw [if_neg c45] at H
              have c45b0 : decide (a1_3 < (-1048576)) = false := decide_eq_false c45
              clear c45
              by_cases c47 : a1_3 > 1048576
              ·rw [if_pos c47] at H
               have c47b0 : decide (1048576 < a1_3) = true := decide_eq_true c47
               clear c47
               obtain rfl := Option.some.inj H
               have hcz48_0 : wc.cell? ⟨gb283, 0, none⟩ = some (.int .i64 a1_0) := (blk_cell BK283.out 0).trans rfl
               have hcz48_1 : wc.cell? ⟨gb283, 1, none⟩ = some (.int .i64 a1_1) := (blk_cell BK283.out 1).trans rfl
               have hcz48_2 : wc.cell? ⟨gb283, 2, none⟩ = some (.int .i64 a1_2) := (blk_cell BK283.out 2).trans rfl
               have hcz48_3 : wc.cell? ⟨gb283, 3, none⟩ = some (.int .i64 a1_3) := (blk_cell BK283.out 3).trans rfl
               have hcz48_4 : wc.cell? ⟨gb283, 4, none⟩ = some (.int .i64 a1_4) := (blk_cell BK283.out 4).trans rfl
               have hcz48_5 : wc.cell? ⟨gb283, 5, none⟩ = some (.int .i64 a1_5) := (blk_cell BK283.out 5).trans rfl
               have hfz48_0 := blk_frozen BK283.out 0
               have hfz48_1 := blk_frozen BK283.out 1
               have hfz48_2 := blk_frozen BK283.out 2
               have hfz48_3 := blk_frozen BK283.out 3
               have hfz48_4 := blk_frozen BK283.out 4
               have hfz48_5 := blk_frozen BK283.out 5
               go_wp2
               repeat (go_quiet (fail); try go_wp2)
               go_ret
               exact ⟨by first | rfl | (simp [errW_none, errW_some] <;> rfl) | (simp [*, errW_none, errW_some] <;> rfl), by repeat (first | (with_reducible first | exact HB.out | apply below_alloc | apply pw_below_drewN | apply below_drew1 | refine below_set ?_ GE283.out) | exact HB.out)⟩
              ·rw [if_neg c47] at H
               have c47b0 : decide (1048576 < a1_3) = false := decide_eq_false c47
               clear c47
               obtain rfl := Option.some.inj H
               have hcz49_0 : wc.cell? ⟨gb283, 0, none⟩ = some (.int .i64 a1_0) := (blk_cell BK283.out 0).trans rfl
               have hcz49_1 : wc.cell? ⟨gb283, 1, none⟩ = some (.int .i64 a1_1) := (blk_cell BK283.out 1).trans rfl
               have hcz49_2 : wc.cell? ⟨gb283, 2, none⟩ = some (.int .i64 a1_2) := (blk_cell BK283.out 2).trans rfl
               have hcz49_3 : wc.cell? ⟨gb283, 3, none⟩ = some (.int .i64 a1_3) := (blk_cell BK283.out 3).trans rfl
               have hcz49_4 : wc.cell? ⟨gb283, 4, none⟩ = some (.int .i64 a1_4) := (blk_cell BK283.out 4).trans rfl
               have hcz49_5 : wc.cell? ⟨gb283, 5, none⟩ = some (.int .i64 a1_5) := (blk_cell BK283.out 5).trans rfl
               have hfz49_0 := blk_frozen BK283.out 0
               have hfz49_1 := blk_frozen BK283.out 1
               have hfz49_2 := blk_frozen BK283.out 2
               have hfz49_3 := blk_frozen BK283.out 3
               have hfz49_4 := blk_frozen BK283.out 4
               have hfz49_5 := blk_frozen BK283.out 5
               go_wp2
               repeat (go_quiet (fail); try go_wp2)
               go_ret
               exact ⟨by first | rfl | (simp [errW_none, errW_some] <;> rfl) | (simp [*, errW_none, errW_some] <;> rfl), by repeat (first | (with_reducible first | exact HB.out | apply below_alloc | apply pw_below_drewN | apply below_drew1 | refine below_set ?_ GE283.out) | exact HB.out)⟩
end Go.Proofs.Ytogcgcjhoebooaa.PVeneerMatchesSpec
end
section
set_option linter.unusedVariables false
set_option linter.unusedSimpArgs false
namespace Go.Proofs.Ytogcgcjhoebooaa
open Go.RowKit Go.Proofs.YtogcgcjhoebooaaW.PrintWords Go.Proofs.YtogcgcjhoebooaaW.PrintLast Go.Proofs.Ytogcgcjhoebooaa.PVeneerMatchesSpec
theorem num_plain {k s a p : Int} (h1 : -8589934592 ≤ s) (h2 : s ≤ 8589934592) (h3 : -8589934592 ≤ a) (h4 : a ≤ 8589934592) (h5 : -8589934592 ≤ p) (h6 : p ≤ 8589934592) : apply_Number.f 3 k s a p = some (numV k s a p, fits k s a p) := by
 have e0 : wrap64 (s + a) = s + a := by unfold wrap64; omega
 by_cases k2 : k = 2
 ·subst k2
  have e1 : wrap64 (s + a - wrap64 (p + 2)) = s + a - p - 2 := by unfold wrap64; omega
  simp [apply_Number.f, apply_Number.j0, apply_Width.f, apply_Width.j0, apply_bounds.f, numV, fits, klo, khi, kwidth, e0, e1]
  split
  ·rename_i h; rw [Option.some.injEq, Prod.mk.injEq]; refine ⟨rfl, ?_⟩; simp [h]
  ·rename_i h; rw [Option.some.injEq, Prod.mk.injEq]; refine ⟨rfl, ?_⟩; simp; omega
 ·by_cases k3 : k = 3
  ·subst k3
   have e1 : wrap64 (s + a - wrap64 (p + 1)) = s + a - p - 1 := by unfold wrap64; omega
   simp [apply_Number.f, apply_Number.j0, apply_Width.f, apply_Width.j0, apply_bounds.f, numV, fits, klo, khi, kwidth, e0, e1]
   split
   ·rename_i h; rw [Option.some.injEq, Prod.mk.injEq]; refine ⟨rfl, ?_⟩; simp [h]
   ·rename_i h; rw [Option.some.injEq, Prod.mk.injEq]; refine ⟨rfl, ?_⟩; simp; omega
  ·simp [apply_Number.f, apply_Number.j0, apply_Width.f, apply_Width.j0, apply_bounds.f, numV, fits, klo, khi, kwidth, e0, k2, k3]
   split
   ·rename_i h; rw [Option.some.injEq, Prod.mk.injEq]; refine ⟨rfl, ?_⟩; simp [h]
   ·rename_i h; rw [Option.some.injEq, Prod.mk.injEq]; refine ⟨rfl, ?_⟩; simp; omega
theorem num_calls : NumCalls 55 := fun k s a p w h1 h2 h3 h4 h5 h6 => apply_Number.calls 3 k s a p _ _ w (num_plain h1 h2 h3 h4 h5 h6)
theorem addr_calls : AddrCalls := fun A c a tt tg w hC hc ht h0 h1 => by
  refine veneer_address.calls A c a tt tg _ w hC hc ?_
  unfold veneer_address.f addrOf
  rcases ht with ht | ⟨t1, t2, t3, t4⟩
  · rw [if_pos ht, if_pos ht]
  · rw [if_neg (by omega), if_pos t1, if_pos t2, if_neg (by omega)]
    congr 1
    unfold wrap64; omega
theorem goal_calls : GoalCalls := fun b w => veneer_goalOf.calls _ _ _ _ _ _ _ _ _ w rfl
theorem idx_plain (xs : List S89) (g0 g1 g2 : Int) (hl : xs.length ≤ 9223372036854775807) : ∀ (d i k : Nat), i + d = xs.length → d < k →
  veneer_goal_63.l0 k xs xs.length i g0 g1 g2 = some (if (xs.drop i).any (fun x => decide (x.f0 = g0 ∧ x.f1 = g1 ∧ x.f2 = g2)) then (i : Int) + ((xs.drop i).findIdx fun x => decide (x.f0 = g0 ∧ x.f1 = g1 ∧ x.f2 = g2) : Nat) else -1)
 | 0, i, k, hi, hk => by
  obtain ⟨k, rfl⟩ : ∃ k', k = k' + 1 := ⟨k - 1, by omega⟩
  rw [veneer_goal_63.l0, if_neg (by omega), List.drop_of_length_le (by omega)]
  rfl
 | d + 1, i, k, hi, hk => by
  obtain ⟨k, rfl⟩ : ∃ k', k = k' + 1 := ⟨k - 1, by omega⟩
  have ih := idx_plain xs g0 g1 g2 hl d (i + 1) k (by omega) (by omega)
  rw [veneer_goal_63.l0, if_pos (by omega), if_pos (by omega), if_pos (by omega)]
  have hlt : i < xs.length := by omega
  rw [show wrap64 ((i : Int) + 1) = ((i + 1 : Nat) : Int) by unfold wrap64; omega, ih, List.drop_eq_getElem_cons hlt]
  have hr : rd_T89 xs i = xs[i] := by simp [rd_T89, List.getD_eq_getElem?_getD, hlt]
  rw [hr]
  generalize List.drop (i + 1) xs = tl at *
  generalize xs[i] = x at *
  by_cases h : x.f0 = g0 ∧ x.f1 = g1 ∧ x.f2 = g2
  ·obtain ⟨a, b, c⟩ := h
   simp [a, b, c, List.findIdx_cons]
  ·have h' : (g0 == x.f0 && (g1 == x.f1 && g2 == x.f2)) = false := by
    rw [Bool.eq_false_iff]; intro hh
    simp at hh
    exact h ⟨hh.1.symm, hh.2.1.symm, hh.2.2.symm⟩
   rw [h']
   simp only [Bool.false_eq_true, if_false, List.any_cons, h, decide_false, Bool.false_or, List.findIdx_cons, cond_false]
   congr 1
   split <;> omega
theorem index_plain (xs : List S89) (g0 g1 g2 : Int) (hl : xs.length ≤ 9223372036854775807) : veneer_goal_63.f (xs.length + 1) xs g0 g1 g2 = some (idxOf xs ⟨g0, g1, g2⟩) := by
  have := idx_plain xs g0 g1 g2 hl xs.length 0 (xs.length + 1) (by omega) (by omega)
  unfold veneer_goal_63.f
  rw [show ((0 : Nat) : Int) = 0 from rfl] at this
  rw [this]
  simp [idxOf]
theorem index_calls63 : IndexCalls := fun A c xs g0 g1 g2 w h hc => veneer_goal_63.calls _ A c xs g0 g1 g2 _ w h hc (index_plain xs g0 g1 g2 h.2.1)
theorem cont_calls : ContCalls := fun A c xs g0 g1 g2 w h hc => by
  refine veneer_goal_58.calls (xs.length + 1) A c xs g0 g1 g2 _ w h hc ?_
  unfold veneer_goal_58.f
  rw [index_plain xs g0 g1 g2 h.2.1]
  simp only [Option.bind_some]
  congr 1
  unfold idxOf hasGoal
  split
  · rename_i h'; rw [h']; simp
  · rename_i h'; simp only [Bool.not_eq_true] at h'; rw [h']; rfl
theorem width_plain (k : Nat) (x : Int) (h : x = 2 ∨ x = 3) : apply_Width.f (k + 1) x = some (kwidth x) := by
  rcases h with rfl | rfl <;> simp [apply_Width.f, apply_Width.j0, kwidth]
theorem branch_plain {items : List S57} {n : Nat} (hv : ValidI items n) (b : S48) : veneer_branch.f 6 items b.f0 b.f1 b.f2 b.f3 b.f4 b.f5 = some (brCode items b) := by
 have hl := hv.len
 by_cases c1 : b.f2 ≠ 2 ∧ b.f2 ≠ 3
 ·obtain ⟨c1, c2⟩ := c1
  simp [veneer_branch.f, veneer_branch.j0, brCode, c1, c2]
 ·have hw := width_plain 3 b.f2 (by omega)
  have e0 : veneer_branch.f 6 items b.f0 b.f1 b.f2 b.f3 b.f4 b.f5 = veneer_branch.j0 6 items false b.f0 b.f1 b.f2 b.f3 b.f4 b.f5 := by
   unfold veneer_branch.f
   split
   ·rfl
   ·rw [show (b.f2 != 3) = false by simp; omega]
  rw [e0]
  unfold brCode
  rw [if_neg c1]
  have j1t : ∀ a b c d e f, veneer_branch.j1 5 items true a b c d e f = some 3 := fun a b c d e f => by simp [veneer_branch.j1]
  have j2t : ∀ a b c d e f, veneer_branch.j2 4 items true a b c d e f = some 3 := fun a b c d e f => by simp [veneer_branch.j2]
  have j3t : ∀ a b c d e f, veneer_branch.j3 3 true a b c d e f = some 3 := fun a b c d e f => by simp [veneer_branch.j3]
  by_cases g2 : 0 ≤ b.f0 ∧ b.f0 < items.length ∧ -1 ≤ b.f4 ∧ b.f4 < items.length
  ·rw [if_neg (not_not_intro g2)]
   obtain ⟨a1, a2, a3, a4⟩ := g2
   obtain ⟨_, _, y1, y2, _, _⟩ := hv.x b.f0.toNat (by omega)
   have er : (rd_T57 items b.f0).f1 = (items.getD b.f0.toNat z57).f1 := rfl
   have hk : 0 ≤ kwidth b.f2 ∧ kwidth b.f2 ≤ 2 := by unfold kwidth; split <;> (try split) <;> omega
   have ew : wrap64 ((rd_T57 items b.f0).f1 - kwidth b.f2) = (rd_T57 items b.f0).f1 - kwidth b.f2 := by unfold wrap64; omega
   rw [veneer_branch.j0, if_neg (by simp), if_neg (by omega), if_neg (by omega), if_neg (by omega), decide_eq_false (by omega), veneer_branch.j1, if_neg (by simp)]
   by_cases g3 : 0 ≤ b.f1 ∧ b.f1 ≤ (rd_T57 items b.f0).f1 - kwidth b.f2
   ·rw [if_neg (not_not_intro g3), if_neg (by omega), if_pos a1, if_pos a2, hw]
    simp only [Option.bind_some]
    rw [ew, decide_eq_false (by omega), veneer_branch.j2, if_neg (by simp)]
    by_cases g4 : 0 ≤ b.f5 ∧ b.f5 ≤ if b.f4 < 0 then 4294967295 else (rd_T57 items b.f4).f1
    ·rw [if_neg (not_not_intro g4)]
     obtain ⟨g41, g42⟩ := g4
     have j3f : veneer_branch.j3 3 false b.f0 b.f1 b.f2 b.f3 b.f4 b.f5 = some (if ¬ (-1048576 ≤ b.f3 ∧ b.f3 ≤ 1048576) then 3 else 0) := by
      simp only [veneer_branch.j3, Bool.false_eq_true, if_false]
      by_cases hq : -1048576 ≤ b.f3 ∧ b.f3 ≤ 1048576
      ·rw [if_neg (by omega), if_neg (by omega), if_neg (not_not_intro hq)]
      ·rw [if_pos hq]
       by_cases hq2 : b.f3 < -1048576
       ·rw [if_pos hq2]
       ·rw [if_neg hq2, if_pos (by omega)]
     by_cases t : b.f4 < 0
     ·rw [if_pos t] at g42
      rw [if_pos t, if_neg (by omega), if_neg (by omega), if_neg (by omega), j3f]
     ·rw [if_neg t] at g42
      rw [if_neg t, if_pos (by omega), if_neg (by omega), if_pos (by omega), if_pos a4, decide_eq_false (by omega), j3f]
    ·rw [if_pos g4]
     by_cases t : b.f4 < 0
     ·rw [if_pos t] at g4
      rw [if_pos t]
      by_cases u : b.f5 < 0
      ·rw [if_pos u, j3t]
      ·rw [if_neg u, if_pos (by omega), j3t]
     ·rw [if_neg t] at g4
      rw [if_neg t, if_pos (by omega)]
      by_cases u : b.f5 < 0
      ·rw [if_pos u, j3t]
      ·rw [if_neg u, if_pos (by omega), if_pos a4, decide_eq_true (by omega), j3t]
   ·rw [if_pos g3]
    by_cases u : b.f1 < 0
    ·rw [if_pos u, j2t]
    ·rw [if_neg u, if_pos a1, if_pos a2, hw]
     simp only [Option.bind_some]
     rw [ew, decide_eq_true (by omega), j2t]
  ·rw [if_pos g2, veneer_branch.j0, if_neg (by simp)]
   by_cases u : b.f0 < 0
   ·rw [if_pos u, j1t]
   ·rw [if_neg u]
    by_cases u2 : b.f0 ≥ items.length
    ·rw [if_pos u2, j1t]
    ·rw [if_neg u2]
     by_cases u3 : b.f4 < -1
     ·rw [if_pos u3, j1t]
     ·rw [if_neg u3, decide_eq_true (by omega), j1t]
theorem branch_calls : BranchCalls 27 := fun A c items b n w hC hc hv => veneer_branch.calls 6 A c items _ _ _ _ _ _ _ w hC hc (branch_plain hv b)
end Go.Proofs.Ytogcgcjhoebooaa
end

/- Walk: the lots of a book in the order of their remains' names. -/
/- Walks: the lots on a day; the lots behind events. -/
/- Plain law: a book's lots in order are the reference's lots. -/
import Derived.Test.YtmiobhlgpjjbgaaH2
import Derived.Shelf.SlSortCmp.KitK
import Derived.Test.YtmiobhlgpjjbgaaF4
import Derived.Test.YtmiobhlgpjjbgaaLD
import Derived.Test.YtmiobhlgpjjbgaaQ2
namespace Go.Proofs.Ytmiobhlgpjjbgaa
open Go.RowKit Go.Shelf
attribute [local go_sem] World.cell?_alloc_mark ext_size ext_cell ext_frozen lt_add_r lt_add_r2 lt_add_r3 lt_add_r4 lt_add_r5 lt_add_r6 lt_add_r7 lt_add_r8

instance : Inhabited Lot := ⟨⟨⟨#[]⟩, 0, ⟨#[]⟩, 0, 0, 0⟩⟩
theorem ltOf_lot (x y : Lot) : ltOf lotCmp x y = lessS x.remain y.remain := lot_lt x y
theorem lot_swo : Sort.SWO (ltOf lotCmp) where
  irrefl x := by rw [ltOf_lot]; exact lessS_irr _
  trans x y z h1 h2 := by rw [ltOf_lot] at *; exact lessS_trans h1 h2
  ntrans x y z h1 h2 := by
    rw [ltOf_lot] at *
    cases h : lessS x.remain z.remain
    · rfl
    · exfalso
      rcases lessS_tri y.remain z.remain with h3 | h3 | h3
      · rw [h2] at h3; cases h3
      · rw [h3, h] at h1; cases h1
      · rw [lessS_trans h h3] at h1; cases h1
/-- Lots in the order of their remains' names. -/
def Up (L : List Lot) : Prop := L.Pairwise fun a b => lessS b.remain a.remain = false
theorem asc_unique {ls L : List Lot} (h : Asc ls) (hp : L.Perm ls) (hs : Up L) : L = ls := by
  have hs' : L.Pairwise (fun x y : Lot => lessS y.remain x.remain = false) := hs
  refine List.Perm.eq_of_pairwise (le := fun x y : Lot => lessS y.remain x.remain = false) ?_ hs' ?_ hp
  · intro a b ha hb h1 h2
    have ha' : a ∈ ls := hp.mem_iff.1 ha
    obtain ⟨i, hi, rfl⟩ := List.getElem_of_mem ha'
    obtain ⟨j, hj, rfl⟩ := List.getElem_of_mem hb
    rcases Nat.lt_trichotomy i j with hij | hij | hij
    · have := List.pairwise_iff_getElem.1 h i j hi hj hij
      rw [this] at h2; cases h2
    · subst hij; rfl
    · have := List.pairwise_iff_getElem.1 h j i hj hi hij
      rw [this] at h1; cases h1
  · refine h.imp fun {a b} hab => ?_
    cases hx : lessS b.remain a.remain
    · rfl
    · have := lessS_trans hab hx
      rw [lessS_irr] at this
      cases this
theorem perm_up {d d' : Array Lot} (hp : Sort.PermIn 0 d.size d d') (hs : Sort.SortedIn (ltOf lotCmp) 0 d.size d') : d'.toList.Perm d.toList ∧ Up d'.toList := by
  obtain ⟨hsz, _, hperm⟩ := hp
  have e1 : d'.extract 0 d.size = d' := by rw [← hsz]; exact Array.extract_size
  rw [e1, Array.extract_size] at hperm
  refine ⟨hperm, List.pairwise_iff_getElem.2 fun i j hi hj hij => ?_⟩
  have hi' : i < d'.size := by simpa using hi
  have hj' : j < d'.size := by simpa using hj
  have := hs i j (Nat.zero_le _) hij (by omega)
  rw [ltOf_lot, getElem!_pos d' j hj', getElem!_pos d' i hi'] at this
  simpa using this
theorem flatK_get (d : Array Lot) {k j : Nat} {x : Lot} {u : Value} (hk : d.toList[k]? = some x) (hj : x.cells[j]? = some u) : k * 6 + j < (Sort.flatK Lot.cells 6 d).size ∧ (Sort.flatK Lot.cells 6 d)[k * 6 + j]! = u := by
  have hj6 : j < 6 := by have := (List.getElem?_eq_some_iff.1 hj).1; rw [lot_len] at this; exact this
  have hkd : k < d.size := by have := (List.getElem?_eq_some_iff.1 hk).1; simpa using this
  have hlt : k * 6 + j < d.size * 6 := by omega
  refine ⟨by rw [Sort.size_flatK]; exact hlt, ?_⟩
  rw [Sort.get_flatK _ _ _ _ hlt, show (k * 6 + j) / 6 = k by omega, show (k * 6 + j) % 6 = j by omega]
  have : d[k]! = x := by
    rw [getElem!_pos d k hkd]
    have := (List.getElem?_eq_some_iff.1 hk).2
    simpa using this
  rw [this, List.getElem!_eq_getElem?_getD, hj]
  rfl
theorem holds_sl {w : World} {g off : Nat} {d : Array Lot} (h : Sort.HoldsK Lot.cells 6 w g off d) (hg : g < w.heap.size) : Sl w 6 Lot.cells (some ⟨g, off, none⟩) d.toList := fun _ => by
  refine ⟨g, off, rfl, hg, fun k x hx j u hu => ?_⟩
  obtain ⟨h1, h2⟩ := flatK_get d hx hu
  have := (h _ h1).1
  rw [h2] at this
  rw [Nat.add_assoc]
  exact this
theorem own_holds {w : World} {base : Nat} {v : Value} {xs : List Lot} (h : w.ownsRow base 47 6 v xs.length (xs.flatMap Lot.cells)) :
    (v = .slice none 0 0 ∧ xs = []) ∨ ∃ g cap, v = .slice (some ⟨g, 0, none⟩) xs.length cap ∧ base ≤ g ∧ g < w.heap.size ∧ Sort.HoldsK Lot.cells 6 w g 0 xs.toArray := by
  have h' := h
  rcases h'.2 with ⟨rfl, h0⟩ | ⟨g, cap, cur, rfl, hb, hh, hnc, _⟩
  · exact .inl ⟨rfl, List.eq_nil_of_length_eq_zero h0⟩
  · refine .inr ⟨g, cap, rfl, hb, blk_lt hh, fun j hj => ?_⟩
    rw [Sort.size_flatK] at hj
    have hj' : j < xs.length * 6 := by simpa using hj
    have hlt : j / 6 < xs.length := by omega
    have hx : xs[j / 6]? = some xs[j / 6] := List.getElem?_eq_getElem hlt
    have hu : (xs[j / 6]).cells[j % 6]? = some (((xs[j / 6]).cells)[j % 6]'(by rw [lot_len]; omega)) := List.getElem?_eq_getElem _
    obtain ⟨_, h2⟩ := flatK_get xs.toArray (k := j / 6) (x := xs[j / 6]) (show xs.toArray.toList[j / 6]? = _ from hx) hu
    have hc := h.cells (g := g) rfl (j / 6 * 6 + j % 6) _ (flat_at Lot.cells 6 lot_len xs _ _ hx _ _ hu)
    rw [add_at] at hc
    have e : j / 6 * 6 + j % 6 = j := by omega
    rw [e] at h2 hc
    refine ⟨?_, ?_⟩
    · rw [h2, Nat.zero_add]; exact hc
    · simp [World.frozen?, hh]
theorem below_sort {w W : World} {g n : Nat} {dk : Array Lot} {os : Array Obj} (hg : w.heap.size ≤ g) (hB : Below w.heap.size w W) : Below w.heap.size w (sortWorldK Lot.cells 6 W g 0 n dk os) := by
  refine hB.trans ⟨rfl, rfl, rfl, ?_, fun k hk => ?_⟩
  · show _ ≤ ((Sort.mapBlock _ _ _).heap ++ os).size
    simp [Sort.mapBlock, Sort.ahead]
  · have hs := hB.size
    show ((Sort.mapBlock _ _ _).heap ++ os)[k]? = _
    rw [Array.getElem?_append_left (by simp [Sort.mapBlock, Sort.ahead]; omega)]
    simp only [Sort.mapBlock, Sort.ahead]
    rw [Array.getElem?_modify, if_neg (by omega)]
end Go.Proofs.Ytmiobhlgpjjbgaa
namespace Go.Proofs.Ytmiobhlgpjjbgaa
open Go.RowKit
attribute [local go_sem] World.cell?_alloc_mark ext_size ext_cell ext_frozen lt_add_r lt_add_r2 lt_add_r3 lt_add_r4 lt_add_r5 lt_add_r6 lt_add_r7 lt_add_r8

/-- A book's lots come back in the order of their remains' names. -/
def AllPost (w : World) (k : Bk) (e : Ending) (w' : World) : Prop :=
  ∃ A c L, e = .returned (.slice A L.length c) ∧ L.Perm (lotsNow k.st) ∧ Up L ∧ Sl w' 6 Lot.cells A L ∧ ∃ z, w' = w.ext z
def AllRuns : Prop := ∀ (base bb : Nat) (k : Bk) (w : World), BookAt w base bb k → k.st.length ≤ 100000 → Calls Try.prog 80 #[.pointer (some ⟨bb, 0, none⟩)] w (AllPost w k)
def onP (ss : List Site) (rs : List Rest) (k0 : Bk) (es : List Event) (day : Int) (L : List Lot) : List Lot × Int := if (onDayR ss rs k0 es day).2 != 0 then ([], (onDayR ss rs k0 es day).2) else (L, 0)
/-- The lots on a day, or the error. -/
def OnPost (w : World) (p : Bk × Int) (e : Ending) (w' : World) : Prop :=
  ∃ A c L, e = .returned (.tuple #[.slice A L.length c, .int .i64 p.2]) ∧ (p.2 ≠ 0 → L = []) ∧ (p.2 = 0 → L.Perm (lotsNow p.1.st) ∧ Up L) ∧ Sl w' 6 Lot.cells A L ∧ ∃ z, w' = w.ext z
theorem sl_nil {α : Type} (w : World) (s : Nat) (f : α → List Value) : Sl w s f none [] := fun h => by simp at h
set_option maxRecDepth 100000 in
set_option maxHeartbeats 2000000 in
theorem gOn_any (hall : AllRuns) (ss : List Site) (rs : List Rest) (A R : Option Addr) (n c rn rc : Nat) (c0 c1 c2 : Int) (es : List Event) (L : Option Addr) (ln lc : Nat) (day : Int) (w : World) (hy : YardIn w ss rs A n c R rn rc) (hev : EventsIn w es L ln) :
    Calls Try.prog 51 #[.agg #[.slice A n c, .slice R rn rc, .int .i64 c0, .int .i64 c1, .int .i64 c2], .slice L ln lc, .int .i64 day] w (OnPost w (onDayR ss rs (bk0 A n c R rn rc c0 c1 c2) es day)) := by
  have HO := fun W h1 h2 => onDay_any ss rs A R n c rn rc c0 c1 c2 es L ln lc day W h1 h2
  generalize onDayR ss rs (bk0 A n c R rn rc c0 c1 c2) es day = p at *
  obtain ⟨k, er⟩ := p
  go_enter Try.func51, Try.ntmps51
  cases hq : (er != 0)
  · have HQ := Lib.hid hq
    have her : er = 0 := by simpa using hq
    subst her
    go_wp2_with (first
      | (go_at_call 62; refine (HO _ (hy.keep (by repeat (first | exact B_refl | exact Below.refl _ _ | assumption | with_reducible refine B_alloc ?_ _ | with_reducible refine B_ext ?_ _ | with_reducible refine B_drew ?_ | with_reducible refine B_drewN ?_ _ | with_reducible refine B_set ?_ (by simp; omega) _))) (hev.keep (by repeat (first | exact B_refl | exact Below.refl _ _ | assumption | with_reducible refine B_alloc ?_ _ | with_reducible refine B_ext ?_ _ | with_reducible refine B_drew ?_ | with_reducible refine B_drewN ?_ _ | with_reducible refine B_set ?_ (by simp; omega) _)))).mono ?_; intro e wq hpq; obtain ⟨base, bb, rfl, hbs, henv, zq, rfl⟩ := hpq.ok HQ.out; clear hpq)
      | (go_at_call 80; refine (hall base bb k _ henv.bk (by have := henv.l3; omega)).mono ?_; rintro e wq ⟨A2, c2, L2, rfl, hp, hu, hs, z2, rfl⟩))
    go_ret2
    exact ⟨A2, c2, L2, rfl, fun h => absurd rfl h, fun _ => ⟨hp, hu⟩, hs, ext_below (by repeat (first | exact B_refl | exact Below.refl _ _ | assumption | with_reducible refine B_alloc ?_ _ | with_reducible refine B_ext ?_ _ | with_reducible refine B_drew ?_ | with_reducible refine B_drewN ?_ _ | with_reducible refine B_set ?_ (by simp; omega) _))⟩
  · have HQ := Lib.hid hq
    go_wp2_with (go_at_call 62; refine (HO _ (hy.keep (by repeat (first | exact B_refl | exact Below.refl _ _ | assumption | with_reducible refine B_alloc ?_ _ | with_reducible refine B_ext ?_ _ | with_reducible refine B_drew ?_ | with_reducible refine B_drewN ?_ _ | with_reducible refine B_set ?_ (by simp; omega) _))) (hev.keep (by repeat (first | exact B_refl | exact Below.refl _ _ | assumption | with_reducible refine B_alloc ?_ _ | with_reducible refine B_ext ?_ _ | with_reducible refine B_drew ?_ | with_reducible refine B_drewN ?_ _ | with_reducible refine B_set ?_ (by simp; omega) _)))).mono ?_; intro e wq hpq; obtain ⟨rfl, zq, rfl⟩ := hpq.bad HQ.out; clear hpq)
    go_ret2
    exact ⟨none, 0, [], rfl, fun _ => rfl, fun h => by have := HQ.out; simp at this; exact absurd h this, sl_nil _ _ _, ext_below (by repeat (first | exact B_refl | exact Below.refl _ _ | assumption | with_reducible refine B_alloc ?_ _ | with_reducible refine B_ext ?_ _ | with_reducible refine B_drew ?_ | with_reducible refine B_drewN ?_ _ | with_reducible refine B_set ?_ (by simp; omega) _))⟩
end Go.Proofs.Ytmiobhlgpjjbgaa
namespace Go.Proofs.Ytmiobhlgpjjbgaa
open Go.RowKit

theorem asc_mem : ∀ {L ls : List Lot}, Asc L → Asc ls → (∀ x, x ∈ L ↔ x ∈ ls) → L = ls
  | [], [], _, _, _ => rfl
  | [], b :: ls, _, _, h => by have := (h b).2 (by simp); cases this
  | a :: L, [], _, _, h => by have := (h a).1 (by simp); cases this
  | a :: L, b :: ls, h1, h2, h => by
    obtain ⟨p1, q1⟩ := List.pairwise_cons.1 h1
    obtain ⟨p2, q2⟩ := List.pairwise_cons.1 h2
    have hab : a = b := by
      rcases List.mem_cons.1 ((h a).1 (by simp)) with h3 | h3
      · exact h3
      · rcases List.mem_cons.1 ((h b).2 (by simp)) with h4 | h4
        · exact h4.symm
        · have := lessS_trans (p2 a h3) (p1 b h4)
          rw [lessS_irr] at this
          cases this
    subst hab
    rw [asc_mem q1 q2 fun x => ?_]
    constructor
    · intro hx
      rcases List.mem_cons.1 ((h x).1 (by simp [hx])) with rfl | h3
      · have := p1 x hx; rw [lessS_irr] at this; cases this
      · exact h3
    · intro hx
      rcases List.mem_cons.1 ((h x).2 (by simp [hx])) with rfl | h3
      · have := p2 x hx; rw [lessS_irr] at this; cases this
      · exact h3
theorem rel_apart {k : Bk} {ls : List Lot} {ss : List Site} (h : Rel k ls ss) : (lotsNow k.st).Pairwise fun a b => a.remain ≠ b.remain := by
  unfold lotsNow
  rw [List.pairwise_map, List.pairwise_filter, List.pairwise_iff_getElem]
  intro i j hi hj hij h1 h2 e
  have c1 := h.closed i k.st[i] (List.getElem?_eq_getElem hi) (by simpa using h1)
  have c2 := h.closed j k.st[j] (List.getElem?_eq_getElem hj) (by simpa using h2)
  rw [e, c2] at c1
  simp at c1
  omega
theorem rel_all {k : Bk} {ls L : List Lot} {ss : List Site} (h : Rel k ls ss) (hp : L.Perm (lotsNow k.st)) (hu : Up L) : L = ls := by
  have hd : L.Pairwise fun a b => a.remain ≠ b.remain := (hp.pairwise_iff fun {x y} hxy => Ne.symm hxy).2 (rel_apart h)
  have ha : Asc L := by
    refine (List.pairwise_and_iff.2 ⟨hu, hd⟩).imp fun {a b} hab => ?_
    rcases lessS_tri a.remain b.remain with h3 | h3 | h3
    · exact h3
    · exact absurd h3 hab.2
    · rw [hab.1] at h3; cases h3
  exact asc_mem ha h.asc fun x => hp.mem_iff.trans h.mem
end Go.Proofs.Ytmiobhlgpjjbgaa

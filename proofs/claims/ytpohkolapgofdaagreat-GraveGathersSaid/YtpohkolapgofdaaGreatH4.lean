/- Walk: the lots of a book in the order of their remains' names. -/
/- Walks: the lots on a day; the lots behind events. -/
/- Plain law: a book's lots in order are the reference's lots. -/
/- Walk: the lots behind events, how many are accepted, and the error of the next one. -/
/- The sort of lots: the kit's contracts of slices.SortFunc at this program (written by the kit's lay-plain tool; numbers are this seat's). -/
/- Walk: a book's lots in the order of their remains' names. -/
import Derived.Test.YtpohkolapgofdaaGreatH2
import Derived.Shelf.SlSortCmp.KitK
import Derived.Test.YtpohkolapgofdaaGreatF4
import Derived.Test.YtpohkolapgofdaaGreatLD
import Derived.Test.YtpohkolapgofdaaGreatQ2
import Derived.Test.YtpohkolapgofdaaGreatLC
import Derived.Test.YtpohkolapgofdaaGreatProg
import Derived.Shelf.SlSortCmp.NoneTotal
namespace Go.Proofs.YtpohkolapgofdaaGreat
open Go.RowKit Go.Shelf
attribute [local go_sem] World.cell?_alloc_mark ext_size ext_cell ext_frozen lt_add_r lt_add_r2 lt_add_r3 lt_add_r4 lt_add_r5 lt_add_r6 lt_add_r7 lt_add_r8

instance : Inhabited Lot := ⟨⟨⟨#[]⟩, 0, ⟨#[]⟩, 0, 0, 0⟩⟩
theorem ltOf_lot (x y : Lot) : ltOf lotCmp x y = lessS x.remain y.remain := lot_lt x y
theorem lot_swo : Sort.SWO (ltOf lotCmp) where
  irrefl x := by rw [ltOf_lot]; exact lessS_irr _
  trans x y z h1 h2 := by rw [ltOf_lot] at *; exact lessS_trans h1 h2
  ntrans x y z h1 h2 := by
    rw [ltOf_lot] at *
    cases h : lessS x.remain z.remain
    · rfl
    · exfalso
      rcases lessS_tri y.remain z.remain with h3 | h3 | h3
      · rw [h2] at h3; cases h3
      · rw [h3, h] at h1; cases h1
      · rw [lessS_trans h h3] at h1; cases h1
/-- Lots in the order of their remains' names. -/
def Up (L : List Lot) : Prop := L.Pairwise fun a b => lessS b.remain a.remain = false
theorem asc_unique {ls L : List Lot} (h : Asc ls) (hp : L.Perm ls) (hs : Up L) : L = ls := by
  have hs' : L.Pairwise (fun x y : Lot => lessS y.remain x.remain = false) := hs
  refine List.Perm.eq_of_pairwise (le := fun x y : Lot => lessS y.remain x.remain = false) ?_ hs' ?_ hp
  · intro a b ha hb h1 h2
    have ha' : a ∈ ls := hp.mem_iff.1 ha
    obtain ⟨i, hi, rfl⟩ := List.getElem_of_mem ha'
    obtain ⟨j, hj, rfl⟩ := List.getElem_of_mem hb
    rcases Nat.lt_trichotomy i j with hij | hij | hij
    · have := List.pairwise_iff_getElem.1 h i j hi hj hij
      rw [this] at h2; cases h2
    · subst hij; rfl
    · have := List.pairwise_iff_getElem.1 h j i hj hi hij
      rw [this] at h1; cases h1
  · refine h.imp fun {a b} hab => ?_
    cases hx : lessS b.remain a.remain
    · rfl
    · have := lessS_trans hab hx
      rw [lessS_irr] at this
      cases this
theorem perm_up {d d' : Array Lot} (hp : Sort.PermIn 0 d.size d d') (hs : Sort.SortedIn (ltOf lotCmp) 0 d.size d') : d'.toList.Perm d.toList ∧ Up d'.toList := by
  obtain ⟨hsz, _, hperm⟩ := hp
  have e1 : d'.extract 0 d.size = d' := by rw [← hsz]; exact Array.extract_size
  rw [e1, Array.extract_size] at hperm
  refine ⟨hperm, List.pairwise_iff_getElem.2 fun i j hi hj hij => ?_⟩
  have hi' : i < d'.size := by simpa using hi
  have hj' : j < d'.size := by simpa using hj
  have := hs i j (Nat.zero_le _) hij (by omega)
  rw [ltOf_lot, getElem!_pos d' j hj', getElem!_pos d' i hi'] at this
  simpa using this
theorem flatK_get (d : Array Lot) {k j : Nat} {x : Lot} {u : Value} (hk : d.toList[k]? = some x) (hj : x.cells[j]? = some u) : k * 6 + j < (Sort.flatK Lot.cells 6 d).size ∧ (Sort.flatK Lot.cells 6 d)[k * 6 + j]! = u := by
  have hj6 : j < 6 := by have := (List.getElem?_eq_some_iff.1 hj).1; rw [lot_len] at this; exact this
  have hkd : k < d.size := by have := (List.getElem?_eq_some_iff.1 hk).1; simpa using this
  have hlt : k * 6 + j < d.size * 6 := by omega
  refine ⟨by rw [Sort.size_flatK]; exact hlt, ?_⟩
  rw [Sort.get_flatK _ _ _ _ hlt, show (k * 6 + j) / 6 = k by omega, show (k * 6 + j) % 6 = j by omega]
  have : d[k]! = x := by
    rw [getElem!_pos d k hkd]
    have := (List.getElem?_eq_some_iff.1 hk).2
    simpa using this
  rw [this, List.getElem!_eq_getElem?_getD, hj]
  rfl
theorem holds_sl {w : World} {g off : Nat} {d : Array Lot} (h : Sort.HoldsK Lot.cells 6 w g off d) (hg : g < w.heap.size) : Sl w 6 Lot.cells (some ⟨g, off, none⟩) d.toList := fun _ => by
  refine ⟨g, off, rfl, hg, fun k x hx j u hu => ?_⟩
  obtain ⟨h1, h2⟩ := flatK_get d hx hu
  have := (h _ h1).1
  rw [h2] at this
  rw [Nat.add_assoc]
  exact this
theorem own_holds {w : World} {base : Nat} {v : Value} {xs : List Lot} (h : w.ownsRow base 40 6 v xs.length (xs.flatMap Lot.cells)) :
    (v = .slice none 0 0 ∧ xs = []) ∨ ∃ g cap, v = .slice (some ⟨g, 0, none⟩) xs.length cap ∧ base ≤ g ∧ g < w.heap.size ∧ Sort.HoldsK Lot.cells 6 w g 0 xs.toArray := by
  have h' := h
  rcases h'.2 with ⟨rfl, h0⟩ | ⟨g, cap, cur, rfl, hb, hh, hnc, _⟩
  · exact .inl ⟨rfl, List.eq_nil_of_length_eq_zero h0⟩
  · refine .inr ⟨g, cap, rfl, hb, blk_lt hh, fun j hj => ?_⟩
    rw [Sort.size_flatK] at hj
    have hj' : j < xs.length * 6 := by simpa using hj
    have hlt : j / 6 < xs.length := by omega
    have hx : xs[j / 6]? = some xs[j / 6] := List.getElem?_eq_getElem hlt
    have hu : (xs[j / 6]).cells[j % 6]? = some (((xs[j / 6]).cells)[j % 6]'(by rw [lot_len]; omega)) := List.getElem?_eq_getElem _
    obtain ⟨_, h2⟩ := flatK_get xs.toArray (k := j / 6) (x := xs[j / 6]) (show xs.toArray.toList[j / 6]? = _ from hx) hu
    have hc := h.cells (g := g) rfl (j / 6 * 6 + j % 6) _ (flat_at Lot.cells 6 lot_len xs _ _ hx _ _ hu)
    rw [add_at] at hc
    have e : j / 6 * 6 + j % 6 = j := by omega
    rw [e] at h2 hc
    refine ⟨?_, ?_⟩
    · rw [h2, Nat.zero_add]; exact hc
    · simp [World.frozen?, hh]
theorem below_sort {w W : World} {g n : Nat} {dk : Array Lot} {os : Array Obj} (hg : w.heap.size ≤ g) (hB : Below w.heap.size w W) : Below w.heap.size w (sortWorldK Lot.cells 6 W g 0 n dk os) := by
  refine hB.trans ⟨rfl, rfl, rfl, ?_, fun k hk => ?_⟩
  · show _ ≤ ((Sort.mapBlock _ _ _).heap ++ os).size
    simp [Sort.mapBlock, Sort.ahead]
  · have hs := hB.size
    show ((Sort.mapBlock _ _ _).heap ++ os)[k]? = _
    rw [Array.getElem?_append_left (by simp [Sort.mapBlock, Sort.ahead]; omega)]
    simp only [Sort.mapBlock, Sort.ahead]
    rw [Array.getElem?_modify, if_neg (by omega)]
end Go.Proofs.YtpohkolapgofdaaGreat
namespace Go.Proofs.YtpohkolapgofdaaGreat
open Go.RowKit
attribute [local go_sem] World.cell?_alloc_mark ext_size ext_cell ext_frozen lt_add_r lt_add_r2 lt_add_r3 lt_add_r4 lt_add_r5 lt_add_r6 lt_add_r7 lt_add_r8

/-- A book's lots come back in the order of their remains' names. -/
def AllPost (w : World) (k : Bk) (e : Ending) (w' : World) : Prop :=
  ∃ A c L, e = .returned (.slice A L.length c) ∧ L.Perm (lotsNow k.st) ∧ Up L ∧ Sl w' 6 Lot.cells A L ∧ ∃ z, w' = w.ext z
def AllRuns : Prop := ∀ (base bb : Nat) (k : Bk) (w : World), BookAt w base bb k → k.st.length ≤ 100000 → Calls Tryz.prog 35 #[.pointer (some ⟨bb, 0, none⟩)] w (AllPost w k)
def onP (ss : List Site) (rs : List Rest) (k0 : Bk) (es : List Event) (day : Int) (L : List Lot) : List Lot × Int := if (onDayR ss rs k0 es day).2 != 0 then ([], (onDayR ss rs k0 es day).2) else (L, 0)
/-- The lots on a day, or the error. -/
def OnPost (w : World) (p : Bk × Int) (e : Ending) (w' : World) : Prop :=
  ∃ A c L, e = .returned (.tuple #[.slice A L.length c, .int .i64 p.2]) ∧ (p.2 ≠ 0 → L = []) ∧ (p.2 = 0 → L.Perm (lotsNow p.1.st) ∧ Up L) ∧ Sl w' 6 Lot.cells A L ∧ ∃ z, w' = w.ext z
theorem sl_nil {α : Type} (w : World) (s : Nat) (f : α → List Value) : Sl w s f none [] := fun h => by simp at h
set_option maxRecDepth 100000 in
set_option maxHeartbeats 2000000 in
theorem gOn_any (hall : AllRuns) (ss : List Site) (rs : List Rest) (A R : Option Addr) (n c rn rc : Nat) (c0 c1 c2 : Int) (es : List Event) (L : Option Addr) (ln lc : Nat) (day : Int) (w : World) (hy : YardIn w ss rs A n c R rn rc) (hev : EventsIn w es L ln) :
    Calls Tryz.prog 9 #[.agg #[.slice A n c, .slice R rn rc, .int .i64 c0, .int .i64 c1, .int .i64 c2], .slice L ln lc, .int .i64 day] w (OnPost w (onDayR ss rs (bk0 A n c R rn rc c0 c1 c2) es day)) := by
  have HO := fun W h1 h2 => onDay_any ss rs A R n c rn rc c0 c1 c2 es L ln lc day W h1 h2
  generalize onDayR ss rs (bk0 A n c R rn rc c0 c1 c2) es day = p at *
  obtain ⟨k, er⟩ := p
  go_enter Tryz.func9, Tryz.ntmps9
  cases hq : (er != 0)
  · have HQ := Lib.hid hq
    have her : er = 0 := by simpa using hq
    subst her
    go_wp2_with (first
      | (go_at_call 34; refine (HO _ (hy.keep (by repeat (first | exact B_refl | exact Below.refl _ _ | assumption | with_reducible refine B_alloc ?_ _ | with_reducible refine B_ext ?_ _ | with_reducible refine B_drew ?_ | with_reducible refine B_drewN ?_ _ | with_reducible refine B_set ?_ (by simp; omega) _))) (hev.keep (by repeat (first | exact B_refl | exact Below.refl _ _ | assumption | with_reducible refine B_alloc ?_ _ | with_reducible refine B_ext ?_ _ | with_reducible refine B_drew ?_ | with_reducible refine B_drewN ?_ _ | with_reducible refine B_set ?_ (by simp; omega) _)))).mono ?_; intro e wq hpq; obtain ⟨base, bb, rfl, hbs, henv, zq, rfl⟩ := hpq.ok HQ.out; clear hpq)
      | (go_at_call 35; refine (hall base bb k _ henv.bk (by have := henv.l3; omega)).mono ?_; rintro e wq ⟨A2, c2, L2, rfl, hp, hu, hs, z2, rfl⟩))
    go_ret2
    exact ⟨A2, c2, L2, rfl, fun h => absurd rfl h, fun _ => ⟨hp, hu⟩, hs, ext_below (by repeat (first | exact B_refl | exact Below.refl _ _ | assumption | with_reducible refine B_alloc ?_ _ | with_reducible refine B_ext ?_ _ | with_reducible refine B_drew ?_ | with_reducible refine B_drewN ?_ _ | with_reducible refine B_set ?_ (by simp; omega) _))⟩
  · have HQ := Lib.hid hq
    go_wp2_with (go_at_call 34; refine (HO _ (hy.keep (by repeat (first | exact B_refl | exact Below.refl _ _ | assumption | with_reducible refine B_alloc ?_ _ | with_reducible refine B_ext ?_ _ | with_reducible refine B_drew ?_ | with_reducible refine B_drewN ?_ _ | with_reducible refine B_set ?_ (by simp; omega) _))) (hev.keep (by repeat (first | exact B_refl | exact Below.refl _ _ | assumption | with_reducible refine B_alloc ?_ _ | with_reducible refine B_ext ?_ _ | with_reducible refine B_drew ?_ | with_reducible refine B_drewN ?_ _ | with_reducible refine B_set ?_ (by simp; omega) _)))).mono ?_; intro e wq hpq; obtain ⟨rfl, zq, rfl⟩ := hpq.bad HQ.out; clear hpq)
    go_ret2
    exact ⟨none, 0, [], rfl, fun _ => rfl, fun h => by have := HQ.out; simp at this; exact absurd h this, sl_nil _ _ _, ext_below (by repeat (first | exact B_refl | exact Below.refl _ _ | assumption | with_reducible refine B_alloc ?_ _ | with_reducible refine B_ext ?_ _ | with_reducible refine B_drew ?_ | with_reducible refine B_drewN ?_ _ | with_reducible refine B_set ?_ (by simp; omega) _))⟩
end Go.Proofs.YtpohkolapgofdaaGreat
namespace Go.Proofs.YtpohkolapgofdaaGreat
open Go.RowKit

theorem asc_mem : ∀ {L ls : List Lot}, Asc L → Asc ls → (∀ x, x ∈ L ↔ x ∈ ls) → L = ls
  | [], [], _, _, _ => rfl
  | [], b :: ls, _, _, h => by have := (h b).2 (by simp); cases this
  | a :: L, [], _, _, h => by have := (h a).1 (by simp); cases this
  | a :: L, b :: ls, h1, h2, h => by
    obtain ⟨p1, q1⟩ := List.pairwise_cons.1 h1
    obtain ⟨p2, q2⟩ := List.pairwise_cons.1 h2
    have hab : a = b := by
      rcases List.mem_cons.1 ((h a).1 (by simp)) with h3 | h3
      · exact h3
      · rcases List.mem_cons.1 ((h b).2 (by simp)) with h4 | h4
        · exact h4.symm
        · have := lessS_trans (p2 a h3) (p1 b h4)
          rw [lessS_irr] at this
          cases this
    subst hab
    rw [asc_mem q1 q2 fun x => ?_]
    constructor
    · intro hx
      rcases List.mem_cons.1 ((h x).1 (by simp [hx])) with rfl | h3
      · have := p1 x hx; rw [lessS_irr] at this; cases this
      · exact h3
    · intro hx
      rcases List.mem_cons.1 ((h x).2 (by simp [hx])) with rfl | h3
      · have := p2 x hx; rw [lessS_irr] at this; cases this
      · exact h3
theorem rel_apart {k : Bk} {ls : List Lot} {ss : List Site} (h : Rel k ls ss) : (lotsNow k.st).Pairwise fun a b => a.remain ≠ b.remain := by
  unfold lotsNow
  rw [List.pairwise_map, List.pairwise_filter, List.pairwise_iff_getElem]
  intro i j hi hj hij h1 h2 e
  have c1 := h.closed i k.st[i] (List.getElem?_eq_getElem hi) (by simpa using h1)
  have c2 := h.closed j k.st[j] (List.getElem?_eq_getElem hj) (by simpa using h2)
  rw [e, c2] at c1
  simp at c1
  omega
theorem rel_all {k : Bk} {ls L : List Lot} {ss : List Site} (h : Rel k ls ss) (hp : L.Perm (lotsNow k.st)) (hu : Up L) : L = ls := by
  have hd : L.Pairwise fun a b => a.remain ≠ b.remain := (hp.pairwise_iff fun {x y} hxy => Ne.symm hxy).2 (rel_apart h)
  have ha : Asc L := by
    refine (List.pairwise_and_iff.2 ⟨hu, hd⟩).imp fun {a b} hab => ?_
    rcases lessS_tri a.remain b.remain with h3 | h3 | h3
    · exact h3
    · exact absurd h3 hab.2
    · rw [hab.1] at h3; cases h3
  exact asc_mem ha h.asc fun x => hp.mem_iff.trans h.mem
end Go.Proofs.YtpohkolapgofdaaGreat
namespace Go.Proofs.YtpohkolapgofdaaGreat
open Go.RowKit
attribute [local go_sem] World.cell?_alloc_mark ext_size ext_cell ext_frozen lt_add_r lt_add_r2 lt_add_r3 lt_add_r4 lt_add_r5 lt_add_r6 lt_add_r7 lt_add_r8

/-- What Replay answers, by the reference's words. -/
def replayW (c0 c1 c2 : Int) (ss : List Site) (rs : List Rest) (es : List Event) : List Lot × Nat × Int :=
  if checkYardP ss rs c0 c1 c2 != 0 then ([], 0, checkYardP ss rs c0 c1 c2) else rReplayP c0 c1 c2 ss rs es
def RunPost (w : World) (r : List Lot × Nat × Int) (e : Ending) (w' : World) : Prop :=
  ∃ A c, e = .returned (.tuple #[.slice A r.1.length c, .int .i64 (r.2.1 : Int), .int .i64 r.2.2]) ∧ Sl w' 6 Lot.cells A r.1 ∧ ∃ z, w' = w.ext z
theorem replay_play {ss : List Site} {rs : List Rest} {A R : Option Addr} {n c rn rc : Nat} {c0 c1 c2 : Int} {es : List Event} (hy : checkYardP ss rs c0 c1 c2 = 0) (hl : ¬ 300 < (es.length : Int)) :
    Rel (playP ss rs (bk0 A n c R rn rc c0 c1 c2) 0 es).1 (replayW c0 c1 c2 ss rs es).1 ss ∧ (playP ss rs (bk0 A n c R rn rc c0 c1 c2) 0 es).2 = (replayW c0 c1 c2 ss rs es).2 := by
  obtain ⟨h1, _, h3, _⟩ := play_same (rs := rs) (yard_rooms hy) es (bk0 A n c R rn rc c0 c1 c2) [] 0 (rel0 _ _ _ _ _ _ _ _ _ _) (inv0 _ _ _ _ _ _ _ _ _ _) rfl rfl rfl
  unfold replayW rReplayP
  rw [if_neg (by simp [hy]), if_neg (by simpa using hl)]
  exact ⟨h1, h3⟩
set_option maxRecDepth 100000 in
set_option maxHeartbeats 2000000 in
theorem gReplay_any (hall : AllRuns) (ss : List Site) (rs : List Rest) (A R : Option Addr) (n c rn rc : Nat) (c0 c1 c2 : Int) (es : List Event) (L : Option Addr) (ln lc : Nat) (w : World) (hy : YardIn w ss rs A n c R rn rc) (hev : EventsIn w es L ln) :
    Calls Tryz.prog 29 #[.agg #[.slice A n c, .slice R rn rc, .int .i64 c0, .int .i64 c1, .int .i64 c2], .slice L ln lc] w (RunPost w (replayW c0 c1 c2 ss rs es)) := by
  have hln := hev.hn
  subst hln
  have hl1 := hev.l1
  go_enter Tryz.func29, Tryz.ntmps29
  cases hcy : (checkYardP ss rs c0 c1 c2 != 0)
  · have HCY := Lib.hid hcy
    have hcy0 : checkYardP ss rs c0 c1 c2 = 0 := by simpa using hcy
    by_cases hbig : 300 < (es.length : Int)
    · have hX : replayW c0 c1 c2 ss rs es = ([], 0, 8) := by
        unfold replayW rReplayP
        rw [if_neg (by simp [hcy0]), if_pos (by simpa using hbig)]
      rw [hX]
      clear hX
      go_wp2_with (go_at_call 52; refine (checkYard_any ss rs _ _ _ _ _ _ _ _ _ _ hy.hn hy.hrn (hy.sl.keep (by repeat (first | exact Below.refl _ _ | exact Below.refl (World.heap _).size _ | assumption | refine B_alloc ?_ _ | refine B_ext ?_ _ | refine B_drew ?_ | refine B_drewN ?_ _ | refine B_set ?_ (by simp; omega) _))) (hy.sr.keep (by repeat (first | exact Below.refl _ _ | exact Below.refl (World.heap _).size _ | assumption | refine B_alloc ?_ _ | refine B_ext ?_ _ | refine B_drew ?_ | refine B_drewN ?_ _ | refine B_set ?_ (by simp; omega) _))) hy.cap hy.l1 hy.l2 hy.sh).mono ?_; rintro e wq ⟨rfl, zq, rfl⟩)
      go_ret3
      exact ⟨none, 0, rfl, sl_nil _ _ _, ext_below (by repeat (first | exact Below.refl _ _ | exact Below.refl (World.heap _).size _ | assumption | refine B_alloc ?_ _ | refine B_ext ?_ _ | refine B_drew ?_ | refine B_drewN ?_ _ | refine B_set ?_ (by simp; omega) _))⟩
    · obtain ⟨hrel, hnum⟩ := replay_play (A := A) (R := R) (n := n) (c := c) (rn := rn) (rc := rc) hcy0 hbig
      have HREL := Lib.hid hrel
      have HNUM := Lib.hid hnum
      clear hrel hnum
      go_wp2_with (first | (go_at_call 52; refine (checkYard_any ss rs _ _ _ _ _ _ _ _ _ _ hy.hn hy.hrn (hy.sl.keep (by repeat (first | exact Below.refl _ _ | exact Below.refl (World.heap _).size _ | assumption | refine B_alloc ?_ _ | refine B_ext ?_ _ | refine B_drew ?_ | refine B_drewN ?_ _ | refine B_set ?_ (by simp; omega) _))) (hy.sr.keep (by repeat (first | exact Below.refl _ _ | exact Below.refl (World.heap _).size _ | assumption | refine B_alloc ?_ _ | refine B_ext ?_ _ | refine B_drew ?_ | refine B_drewN ?_ _ | refine B_set ?_ (by simp; omega) _))) hy.cap hy.l1 hy.l2 hy.sh).mono ?_; rintro e wq ⟨rfl, zq, rfl⟩) | (go_at_call 53; refine (newBook_any _ _ _ _ _ _ _ _ _ _).mono ?_; rintro e wn ⟨bb, rfl, hbk, hbn⟩))
      obtain ⟨hs1, hs2⟩ := checkYard_small hcy0
      have hB : Below w.heap.size w wn := Below.trans (by repeat (first | exact Below.refl _ _ | exact Below.refl (World.heap _).size _ | assumption | refine B_alloc ?_ _ | refine B_ext ?_ _ | refine B_drew ?_ | refine B_drewN ?_ _ | refine B_set ?_ (by simp; omega) _)) (hbn.mono (by simp [ext_size]; omega))
      have hbk2 := hbk.mono (base' := w.heap.size) (by simp [ext_size]; omega)
      clear hbk hbn hcy HCY hcy0
      generalize hT : playP ss rs (bk0 A n c R rn rc c0 c1 c2) 0 es = T at *
      have HT := Lib.hid hT
      clear hT
      generalize replayW c0 c1 c2 ss rs es = X at *
      obtain ⟨ls, cnt, er⟩ := X
      go_loopw [9, 10, 11, 24] (fun _ _ _ i wr => ∃ (j : Nat) (k : Bk), j ≤ es.length ∧ i = .int .i64 j ∧ T = playP ss rs k j (es.drop j) ∧ BookAt wr w.heap.size bb k ∧ Below w.heap.size w wr ∧ k.yard = (A, n, c, R, rn, rc, c0, c1, c2) ∧ Inv k ss ∧ k.st.length ≤ j) (fun _ _ _ i _ => es.length - (intOf i).toNat)
      case atStart => exact ⟨0, _, Nat.zero_le _, rfl, HT.out.symm, hbk2, hB, rfl, inv0 _ _ _ _ _ _ _ _ _ _, Nat.le_refl _⟩
      case round =>
        obtain ⟨j, k, hj, rfl, hf, hbk, hBr, hyd, hiv, hkl⟩ := hrel
        have hYD := Lib.hid hyd
        clear hyd hbk2 hB HT
        by_cases hlt : j < es.length
        · rw [List.drop_eq_getElem_cons hlt, playP] at hf
          obtain ⟨b, off, rfl, hb, hc⟩ := (hev.sl.keep hBr).at hlt
          have hnm := hev.sh _ (List.getElem_mem hlt)
          have x0 : wr.cell? ⟨b, off + j * 7, none⟩ = some (.int .i64 es[j].day) := hc 0 _ rfl
          have x1 : wr.cell? ⟨b, off + j * 7 + 1, none⟩ = some (.int .i64 es[j].kind) := hc 1 _ rfl
          have x2 : wr.cell? ⟨b, off + j * 7 + 2, none⟩ = some (.string es[j].site) := hc 2 _ rfl
          have x3 : wr.cell? ⟨b, off + j * 7 + 3, none⟩ = some (.int .i64 es[j].level) := hc 3 _ rfl
          have x4 : wr.cell? ⟨b, off + j * 7 + 4, none⟩ = some (.string es[j].remain) := hc 4 _ rfl
          have x5 : wr.cell? ⟨b, off + j * 7 + 5, none⟩ = some (.int .i64 es[j].container) := hc 5 _ rfl
          have x6 : wr.cell? ⟨b, off + j * 7 + 6, none⟩ = some (.bool es[j].order) := hc 6 _ rfl
          have HF := Lib.hid hf
          have HN := Lib.hid hnm
          clear hc hf hnm
          generalize es[j] = ev at *
          obtain ⟨dy, kd, si, lv, rm, co, od⟩ := ev
          dsimp only at x0 x1 x2 x3 x4 x5 x6 HN
          cases hq : ((errorP k ss rs ⟨dy, kd, si, lv, rm, co, od⟩).2 != 0)
          · have HQ := Lib.hid hq
            clear hq
            go_wp2_with (go_at_call 54; refine (add_any w.heap.size bb k ss rs _ _ _ _ _ _ _ _ (mkEnv (hbk.keep (by repeat (first | exact Below.refl _ _ | exact Below.refl (World.heap _).size _ | assumption | refine B_alloc ?_ _ | refine B_ext ?_ _ | refine B_drew ?_ | refine B_drewN ?_ _ | refine B_set ?_ (by simp; omega) _))) hYD.out (hy.keep (B_alloc hBr _)) hs1 hs2 hiv (by omega)) HN.out.1 HN.out.2).mono ?_; intro e wq hpq; obtain ⟨rfl, hbk3, hB3⟩ := hpq.ok HQ.out; clear hpq)
            go_roundw
            case rel => exact ⟨j + 1, addK k ⟨dy, kd, si, lv, rm, co, od⟩ (errorP k ss rs ⟨dy, kd, si, lv, rm, co, od⟩).1, by omega, by go_num, by rw [HF.out, if_neg (by rw [HQ.out]; exact Bool.false_ne_true)], hbk3, Below.trans (B_alloc hBr _) hB3, hYD.out, inv_add hiv (Prod.ext rfl (by simpa using HQ.out)), by rw [addK_len]; omega⟩
            case measure => simp [intOf]; omega
          · have HQ := Lib.hid hq
            have hT2 : T = (k, j, (errorP k ss rs ⟨dy, kd, si, lv, rm, co, od⟩).2) := by rw [HF.out, if_pos HQ.out]
            have hR2 := HREL.out
            have hN2 := HNUM.out
            rw [hT2] at hR2 hN2
            dsimp only at hR2 hN2
            obtain ⟨rfl, rfl⟩ := Prod.mk.inj hN2
            have HR2 := Lib.hid hR2
            clear hT2 hR2 hN2 HREL HNUM
            go_wp2_with (first
              | (go_at_call 54; refine (add_any w.heap.size bb k ss rs _ _ _ _ _ _ _ _ (mkEnv (hbk.keep (by repeat (first | exact Below.refl _ _ | exact Below.refl (World.heap _).size _ | assumption | refine B_alloc ?_ _ | refine B_ext ?_ _ | refine B_drew ?_ | refine B_drewN ?_ _ | refine B_set ?_ (by simp; omega) _))) hYD.out (hy.keep (B_alloc hBr _)) hs1 hs2 hiv (by omega)) HN.out.1 HN.out.2).mono ?_; intro e wq hpq; obtain ⟨rfl, zq, rfl⟩ := hpq.bad HQ.out; clear hpq)
              | (go_at_call 35; refine (hall w.heap.size bb k _ (hbk.keep (by repeat (first | exact Below.refl _ _ | exact Below.refl (World.heap _).size _ | assumption | refine B_alloc ?_ _ | refine B_ext ?_ _ | refine B_drew ?_ | refine B_drewN ?_ _ | refine B_set ?_ (by simp; omega) _))) (by omega)).mono ?_; rintro e wq ⟨A2, k2, L2, rfl, hp, hu, hs, z2, rfl⟩))
            obtain rfl := rel_all HR2.out hp hu
            go_ret3
            exact ⟨A2, k2, rfl, hs, ext_below (by repeat (first | exact Below.refl _ _ | exact Below.refl (World.heap _).size _ | assumption | refine B_alloc ?_ _ | refine B_ext ?_ _ | refine B_drew ?_ | refine B_drewN ?_ _ | refine B_set ?_ (by simp; omega) _))⟩
        · rw [List.drop_eq_nil_of_le (by omega), playP] at hf
          have hje : j = es.length := by omega
          subst hje
          have hR2 := HREL.out
          have hN2 := HNUM.out
          rw [hf] at hR2 hN2
          dsimp only at hR2 hN2
          obtain ⟨rfl, rfl⟩ := Prod.mk.inj hN2
          have HR2 := Lib.hid hR2
          clear hR2 hN2 HREL HNUM hf
          go_wp2_with (go_at_call 35; refine (hall w.heap.size bb k _ hbk (by omega)).mono ?_; rintro e wq ⟨A2, k2, L2, rfl, hp, hu, hs, z2, rfl⟩)
          obtain rfl := rel_all HR2.out hp hu
          go_ret3
          exact ⟨A2, k2, rfl, hs, ext_below (B_ext hBr _)⟩
  · have hX : replayW c0 c1 c2 ss rs es = ([], 0, checkYardP ss rs c0 c1 c2) := by
      unfold replayW
      rw [if_pos hcy]
    rw [hX]
    clear hX
    go_wp2_with (go_at_call 52; refine (checkYard_any ss rs _ _ _ _ _ _ _ _ _ _ hy.hn hy.hrn (hy.sl.keep (by repeat (first | exact Below.refl _ _ | exact Below.refl (World.heap _).size _ | assumption | refine B_alloc ?_ _ | refine B_ext ?_ _ | refine B_drew ?_ | refine B_drewN ?_ _ | refine B_set ?_ (by simp; omega) _))) (hy.sr.keep (by repeat (first | exact Below.refl _ _ | exact Below.refl (World.heap _).size _ | assumption | refine B_alloc ?_ _ | refine B_ext ?_ _ | refine B_drew ?_ | refine B_drewN ?_ _ | refine B_set ?_ (by simp; omega) _))) hy.cap hy.l1 hy.l2 hy.sh).mono ?_; rintro e wq ⟨rfl, zq, rfl⟩)
    go_ret3
    exact ⟨none, 0, rfl, sl_nil _ _ _, ext_below (by repeat (first | exact Below.refl _ _ | exact Below.refl (World.heap _).size _ | assumption | refine B_alloc ?_ _ | refine B_ext ?_ _ | refine B_drew ?_ | refine B_drewN ?_ _ | refine B_set ?_ (by simp; omega) _))⟩
end Go.Proofs.YtpohkolapgofdaaGreat
namespace Go.Proofs.YtpohkolapgofdaaGreat
open Go.Shelf
def lotSort_ren : Go.Shelf.Ren := ⟨fun | 6 => 60 | 15 => 84 | 14 => 83 | 28 => 110 | 29 => 111 | 20 => 102 | 21 => 103 | 22 => 104 | 23 => 105 | 24 => 106 | 25 => 107 | 26 => 108 | 27 => 109 | 46 => 119 | 47 => 120 | 48 => 121 | 49 => 122 | 50 => 123 | 57 => 126 | n => n, fun | 22 => 33 | 24 => 40 | 25 => 116 | 3 => 3 | 39 => 141 | 0 => 0 | 53 => 162 | 55 => 164 | 4 => 4 | 46 => 156 | 45 => 155 | 50 => 117 | 5 => 5 | 9 => 9 | 66 => 170 | 70 => 174 | 76 => 176 | 77 => 58 | n => n, fun | n => n⟩
theorem lotSort : Go.Proofs.SlLaysF0.n6 Tryz.prog lotSort_ren := {
  mixed := by kernel_rfl
  f6 := ⟨Tryz.f60.name, by decide, Tryz.func60.trans (congrArg some (by kernel_rfl))⟩
  f14 := ⟨Tryz.f83.name, by decide, Tryz.func83.trans (congrArg some (by kernel_rfl))⟩
  f15 := Tryz.func84.trans (congrArg some (by kernel_rfl))
  f20 := ⟨Tryz.f102.name, by decide, Tryz.func102.trans (congrArg some (by kernel_rfl))⟩
  f21 := ⟨Tryz.f103.name, by decide, Tryz.func103.trans (congrArg some (by kernel_rfl))⟩
  f22 := ⟨Tryz.f104.name, by decide, Tryz.func104.trans (congrArg some (by kernel_rfl))⟩
  f23 := ⟨Tryz.f105.name, by decide, Tryz.func105.trans (congrArg some (by kernel_rfl))⟩
  f24 := ⟨Tryz.f106.name, by decide, Tryz.func106.trans (congrArg some (by kernel_rfl))⟩
  f25 := ⟨Tryz.f107.name, by decide, Tryz.func107.trans (congrArg some (by kernel_rfl))⟩
  f26 := ⟨Tryz.f108.name, by decide, Tryz.func108.trans (congrArg some (by kernel_rfl))⟩
  f27 := ⟨Tryz.f109.name, by decide, Tryz.func109.trans (congrArg some (by kernel_rfl))⟩
  f28 := Tryz.func110.trans (congrArg some (by kernel_rfl))
  f29 := Tryz.func111.trans (congrArg some (by kernel_rfl))
  f46 := ⟨Tryz.f119.name, by decide, Tryz.func119.trans (congrArg some (by kernel_rfl))⟩
  f47 := Tryz.func120.trans (congrArg some (by kernel_rfl))
  f48 := Tryz.func121.trans (congrArg some (by kernel_rfl))
  f49 := ⟨Tryz.f122.name, by decide, Tryz.func122.trans (congrArg some (by kernel_rfl))⟩
  f50 := ⟨Tryz.f123.name, by decide, Tryz.func123.trans (congrArg some (by kernel_rfl))⟩
  f57 := ⟨Tryz.f126.name, by decide, Tryz.func126.trans (congrArg some (by kernel_rfl))⟩
  t0 := Tryz.underlying0
  a0 := Tryz.isAgg0
  z0 := Tryz.sizeOf0
  v0 := Tryz.zeroValue0
  t3 := Tryz.underlying3
  a3 := Tryz.isAgg3
  z3 := Tryz.sizeOf3
  v3 := Tryz.zeroValue3
  t4 := Tryz.underlying4
  a4 := Tryz.isAgg4
  z4 := Tryz.sizeOf4
  v4 := Tryz.zeroValue4
  t5 := Tryz.underlying5
  a5 := Tryz.isAgg5
  z5 := Tryz.sizeOf5
  v5 := Tryz.zeroValue5
  t9 := Tryz.underlying9
  a9 := Tryz.isAgg9
  z9 := Tryz.sizeOf9
  v9 := Tryz.zeroValue9
  t22 := Tryz.underlying33
  a22 := Tryz.isAgg33
  z22 := Tryz.sizeOf33
  v22 := Tryz.zeroValue33
  t25 := Tryz.underlying116
  a25 := Tryz.isAgg116
  z25 := Tryz.sizeOf116
  v25 := Tryz.zeroValue116
  t39 := Tryz.underlying141
  a39 := Tryz.isAgg141
  z39 := Tryz.sizeOf141
  v39 := Tryz.zeroValue141
  t45 := Tryz.underlying155
  a45 := Tryz.isAgg155
  z45 := Tryz.sizeOf155
  v45 := Tryz.zeroValue155
  t46 := Tryz.underlying156
  a46 := Tryz.isAgg156
  z46 := Tryz.sizeOf156
  v46 := Tryz.zeroValue156
  t50 := Tryz.underlying117
  a50 := Tryz.isAgg117
  z50 := Tryz.sizeOf117
  v50 := Tryz.zeroValue117
  t53 := Tryz.underlying162
  a53 := Tryz.isAgg162
  z53 := Tryz.sizeOf162
  v53 := Tryz.zeroValue162
  t55 := Tryz.underlying164
  a55 := Tryz.isAgg164
  z55 := Tryz.sizeOf164
  v55 := Tryz.zeroValue164
  t66 := Tryz.underlying170
  a66 := Tryz.isAgg170
  z66 := Tryz.sizeOf170
  v66 := Tryz.zeroValue170
  t70 := Tryz.underlying174
  a70 := Tryz.isAgg174
  z70 := Tryz.sizeOf174
  v70 := Tryz.zeroValue174
  t76 := Tryz.underlying176
  a76 := Tryz.isAgg176
  z76 := Tryz.sizeOf176
  v76 := Tryz.zeroValue176
  t77 := Tryz.underlying58
  a77 := Tryz.isAgg58
  z77 := Tryz.sizeOf58
  v77 := Tryz.zeroValue58 }
end Go.Proofs.YtpohkolapgofdaaGreat
namespace Go.Proofs.YtpohkolapgofdaaGreat
open Go.RowKit Go.Shelf
attribute [local go_sem] World.cell?_alloc_mark ext_size ext_cell ext_frozen lt_add_r lt_add_r2 lt_add_r3 lt_add_r4 lt_add_r5 lt_add_r6 lt_add_r7 lt_add_r8

set_option maxRecDepth 100000 in
set_option maxHeartbeats 2000000 in
theorem sort_any (g off cap : Nat) (d : Array Lot) (w : World) (hH : Sort.HoldsK Lot.cells 6 w g off d) (hg : g < w.heap.size) (hsz : d.size ≤ 100000) :
    Calls Tryz.prog 60 #[.slice (some ⟨g, off, none⟩) d.size cap, .func (.func 61) #[] #[]] w fun e w' =>
      e = .returned (.tuple #[]) ∧ ∃ d' n os, Sort.PermIn 0 d.size d d' ∧ Sort.SortedIn (ltOf lotCmp) 0 d.size d' ∧ w' = sortWorldK Lot.cells 6 w g off n d' os := by
  have eg : ∀ args w, (callFunc 61 args).run Tryz.prog w = .ok (.enter 61 args) w := enters_of Tryz.func61 (by kernel_rfl) rfl
  have hcon := AnyQ.slices_SortFunc lotSort 6 Tryz.isAgg40 Tryz.sizeOf40 Lot.cells lot_len lot_one lotCmp lot_swo 61 #[] g off cap d w eg (fun _ _ _ _ x y => by simpa using allCmp_any x y _) hH hg (by omega)
  change Calls Tryz.prog 60 _ _ _ at hcon
  exact hcon
set_option maxRecDepth 100000 in
set_option maxHeartbeats 2000000 in
theorem sort_none (fv : Value) (w : World) : Calls Tryz.prog 60 #[.slice none 0 0, fv] w fun e w' => e = .returned (.tuple #[]) ∧ w' = w := by
  have hcon := AnyF.slices_SortFunc_none lotSort none 0 fv w
  change Calls Tryz.prog 60 _ _ _ at hcon
  exact hcon
theorem sort_v (v : Value) (ls : List Lot) (base : Nat) (w : World) (hown : w.ownsRow base 40 6 v ls.length (ls.flatMap Lot.cells)) (hl : ls.length ≤ 100000) :
    Calls Tryz.prog 60 #[v, .func (.func 61) #[] #[]] w fun e w' => e = .returned (.tuple #[]) ∧ ∃ A c L, v = .slice A L.length c ∧ L.Perm ls ∧ Up L ∧ Sl w' 6 Lot.cells A L ∧ ∀ w0 : World, Below w0.heap.size w0 w → w0.heap.size ≤ base → Below w0.heap.size w0 w' := by
  obtain ⟨rfl, rfl⟩ | ⟨g, cap, rfl, hb, hg, hH⟩ := own_holds hown
  · refine (sort_none _ _).mono ?_
    rintro e wq ⟨rfl, rfl⟩
    exact ⟨rfl, none, 0, [], rfl, List.Perm.refl _, List.Pairwise.nil, sl_nil _ _ _, fun w0 h _ => h⟩
  · have h := sort_any g 0 cap ls.toArray w hH hg (by simpa using hl)
    have e : ls.toArray.size = ls.length := by simp
    rw [e] at h
    refine h.mono ?_
    rintro e wq ⟨rfl, d', n, os, hp, hs, rfl⟩
    obtain ⟨h1, h2⟩ := perm_up (by rw [e]; exact hp) (by rw [e]; exact hs)
    have h1' : d'.toList.Perm ls := h1
    refine ⟨rfl, some ⟨g, 0, none⟩, cap, d'.toList, by rw [h1'.length_eq], h1', h2, holds_sl (holdsK_sortWorldK Lot.cells 6 w g 0 n ls.toArray d' os hg hH (by have := h1'.length_eq; simpa using this)) (lt_sortWorldK Lot.cells 6 w g 0 n d' os hg), fun w0 h hb0 => below_sort (by omega) h⟩
set_option maxRecDepth 100000 in
set_option maxHeartbeats 2000000 in
theorem all_any : AllRuns := by
  intro base bb k w hbk hl
  have HC := fun W h => collect_any base bb k W h hl
  have hll : (lotsNow k.st).length ≤ 100000 := by
    unfold lotsNow
    rw [List.length_map]
    have := List.length_filter_le (fun s : Stay => decide (s.till < 0)) k.st
    omega
  unfold AllPost
  generalize lotsNow k.st = ls at *
  go_enter Tryz.func35, Tryz.ntmps35
  go_wp2_with (first
    | (go_at_call 58; refine (HC _ hbk).mono ?_; rintro e wq ⟨v, rfl, hown, z, rfl⟩)
    | (go_at_call 60; refine (sort_v v ls _ _ hown hll).mono ?_; rintro e wq ⟨rfl, A2, c2, L2, hv, hp, hu, hs, hB⟩))
  go_ret
  exact ⟨A2, c2, L2, rfl, hp, hu, hs, ext_below (hB w (by repeat (first | exact B_refl | exact Below.refl _ _ | assumption | with_reducible refine B_alloc ?_ _ | with_reducible refine B_ext ?_ _ | with_reducible refine B_drew ?_ | with_reducible refine B_drewN ?_ _ | with_reducible refine B_set ?_ (by simp; omega) _)) (Nat.le_refl _))⟩
end Go.Proofs.YtpohkolapgofdaaGreat

/- Walks of the reference: the day on which a lot's rest is over; that of a remain. -/
/- Walk of the reference: the sites that can be used again on a day. -/
import Derived.Test.YtpohkolapgofdaaGreatLN
namespace Go.Proofs.YtpohkolapgofdaaGreat
open Go.RowKit
attribute [local go_sem] World.cell?_alloc_mark ext_size ext_cell ext_frozen lt_add_r lt_add_r2 lt_add_r3 lt_add_r4 lt_add_r5 lt_add_r6 lt_add_r7 lt_add_r8

def rOverL (ss : List Site) (rs : List Rest) (l : Lot) : Int := match findSite l.site ss with | none => 0 | some s => restOverP rs s l
theorem rOverL_some {ss : List Site} {rs : List Rest} {l : Lot} {s : Site} (h : findSite l.site ss = some s) : rOverL ss rs l = restOverP rs s l := by unfold rOverL; rw [h]
set_option maxRecDepth 100000 in
set_option maxHeartbeats 2000000 in
theorem rOver_any (ss : List Site) (rs : List Rest) (A R : Option Addr) (n c rn rc : Nat) (c0 c1 c2 : Int) (rm : ByteArray) (sta : Int) (si : ByteArray) (lv co sc : Int) (w : World) (hy : YardIn w ss rs A n c R rn rc) (hfs : ∃ s, findSite si ss = some s) :
    Calls Tryz.prog 50 #[.agg #[.slice A n c, .slice R rn rc, .int .i64 c0, .int .i64 c1, .int .i64 c2], .agg #[.string rm, .int .i64 sta, .string si, .int .i64 lv, .int .i64 co, .int .i64 sc]] w (Ret w (.int .i64 (rOverL ss rs ⟨rm, sta, si, lv, co, sc⟩))) := by
  obtain ⟨s, hfs⟩ := hfs
  rw [rOverL_some (l := ⟨rm, sta, si, lv, co, sc⟩) hfs]
  have hyn := hy.hn
  have hy1 := hy.l1
  subst hyn
  obtain ⟨j, hjk, hhk⟩ := siteIdx_some hfs
  have hsi : rSiteR si ss = (j : Int) := by rw [rSiteR, hjk]
  obtain ⟨hjt, hje⟩ := List.getElem?_eq_some_iff.1 hhk
  obtain ⟨b', off', rfl, hb', hcj⟩ := hy.sl.at hjt
  rw [hje] at hcj
  obtain ⟨a, k, so, d, st, r⟩ := s
  have y0 : w.cell? ⟨b', off' + j * 6, none⟩ = some (.string a) := hcj 0 _ rfl
  have y1 : w.cell? ⟨b', off' + j * 6 + 1, none⟩ = some (.int .i64 k) := hcj 1 _ rfl
  have y2 : w.cell? ⟨b', off' + j * 6 + 2, none⟩ = some (.int .i64 so) := hcj 2 _ rfl
  have y3 : w.cell? ⟨b', off' + j * 6 + 3, none⟩ = some (.int .i64 d) := hcj 3 _ rfl
  have y4 : w.cell? ⟨b', off' + j * 6 + 4, none⟩ = some (.int .i64 st) := hcj 4 _ rfl
  have y5 : w.cell? ⟨b', off' + j * 6 + 5, none⟩ = some (.int .i64 r) := hcj 5 _ rfl
  have hjt2 : (j : Int) < (ss.length : Int) := by omega
  have hj0 : (0 : Int) ≤ (j : Int) := by omega
  clear hjk hhk hje hcj hfs
  generalize hT : restOverP rs ⟨a, k, so, d, st, r⟩ ⟨rm, sta, si, lv, co, sc⟩ = T
  have HT := Lib.hid hT
  clear hT
  go_enter Tryz.func50, Tryz.ntmps50
  go_wp2_with fail
  (refine wp_region_ext_lit (by kernel_rfl) (by kernel_rfl) ?_
   repeat (first | go_big_quiet_skip | (go_big_quiet_want; go_big_quiet_op; first | go_big_quiet_on | (apply Exists.intro; refine ⟨fun _ => ?_, ?_⟩; ((first
      | (go_at_call 15; refine quietx (v := .int .i64 (j : Int)) ?_; rw [← hsi]; exact rSite_any ss rs _ _ _ _ _ _ _ _ _ _ _ (hy.keep (m := w.heap.size) (by repeat (first | exact B_refl | exact Below.refl _ _ | assumption | with_reducible refine B_alloc ?_ _ | with_reducible refine B_ext ?_ _ | with_reducible refine B_drew ?_ | with_reducible refine B_drewN ?_ _ | with_reducible refine B_set ?_ (by simp; omega) _))))
      | (go_at_call 77; exact quietx (rRest_any ss rs _ _ _ _ _ _ _ _ _ _ _ _ _ _ _ _ _ (hy.keep (m := w.heap.size) (by repeat (first | exact B_refl | exact Below.refl _ _ | assumption | with_reducible refine B_alloc ?_ _ | with_reducible refine B_ext ?_ _ | with_reducible refine B_drew ?_ | with_reducible refine B_drewN ?_ _ | with_reducible refine B_set ?_ (by simp; omega) _))))))); go_big_quiet_on)))
   refine wpQuiet_nil ?_
   rintro _ ⟨zq, rfl⟩)
  go_wp2_with fail
  go_ret
  exact Ret.of (int_eq (by rw [← HT.out]; rfl)) (by repeat (first | exact B_refl | exact Below.refl _ _ | assumption | with_reducible refine B_alloc ?_ _ | with_reducible refine B_ext ?_ _ | with_reducible refine B_drew ?_ | with_reducible refine B_drewN ?_ _ | with_reducible refine B_set ?_ (by simp; omega) _))

def rRestOverP (ss : List Site) (rs : List Rest) (ls : List Lot) (nm : ByteArray) : Int × Int :=
  match findLot nm ls with | none => (0, 6) | some l => if l.state != 1 then (0, 28) else (rOverL ss rs l, 0)
set_option maxRecDepth 100000 in
set_option maxHeartbeats 2000000 in
theorem rRestOver_any (ss : List Site) (rs : List Rest) (A R : Option Addr) (n c rn rc : Nat) (c0 c1 c2 : Int) (es : List Event) (E : Option Addr) (en ec : Nat) (nm : ByteArray) (w : World) (hy : YardIn w ss rs A n c R rn rc) (hev : EventsIn w es E en) (hroom : ∀ s ∈ ss, s.room ≤ 12)
    (hst : ∀ t ∈ (rReplayP c0 c1 c2 ss rs es).1, t.state = 1 → ∃ s, findSite t.site ss = some s) :
    Calls Tryz.prog 23 #[.agg #[.slice A n c, .slice R rn rc, .int .i64 c0, .int .i64 c1, .int .i64 c2], .slice E en ec, .string nm] w (Ret w (.tuple #[.int .i64 (rRestOverP ss rs (rReplayP c0 c1 c2 ss rs es).1 nm).1, .int .i64 (rRestOverP ss rs (rReplayP c0 c1 c2 ss rs es).1 nm).2])) := by
  have hlen := rReplay_len (c0 := c0) (c1 := c1) (c2 := c2) (ss := ss) (rs := rs) es
  have HR := fun W h1 h2 => rReplay_any ss rs A R n c rn rc c0 c1 c2 es E en ec W h1 h2 hroom
  generalize rReplayP c0 c1 c2 ss rs es = p at *
  obtain ⟨ls, i0, e0⟩ := p
  dsimp only at hlen hst ⊢
  go_enter Tryz.func23, Tryz.ntmps23
  cases hf : findLot nm ls with
  | none =>
    have hX : rRestOverP ss rs ls nm = (0, 6) := by unfold rRestOverP; rw [hf]
    have hfi : rFindR nm ls = -1 := by rw [rFindR, lotIdx_none hf]
    rw [hX]
    clear hX hf hst
    go_wp2_with (first
      | (go_at_call 42; refine (HR _ (hy.keep (m := w.heap.size) (by repeat (first | exact B_refl | exact Below.refl _ _ | assumption | with_reducible refine B_alloc ?_ _ | with_reducible refine B_ext ?_ _ | with_reducible refine B_drew ?_ | with_reducible refine B_drewN ?_ _ | with_reducible refine B_set ?_ (by simp; omega) _))) (hev.keep (m := w.heap.size) (by repeat (first | exact B_refl | exact Below.refl _ _ | assumption | with_reducible refine B_alloc ?_ _ | with_reducible refine B_ext ?_ _ | with_reducible refine B_drew ?_ | with_reducible refine B_drewN ?_ _ | with_reducible refine B_set ?_ (by simp; omega) _)))).mono ?_; intro e wq hq; obtain ⟨A', c', z, rfl, rfl, hl, hlc⟩ := hq.form (by dsimp only; omega); clear hq)
      | (go_at_call 44; refine (rFind_any ls _ _ _ nm _ hl).mono ?_; rintro e wq ⟨rfl, z2, rfl⟩; rw [hfi]))
    go_ret2
    exact Ret.of rfl (by repeat (first | exact B_refl | exact Below.refl _ _ | assumption | with_reducible refine B_alloc ?_ _ | with_reducible refine B_ext ?_ _ | with_reducible refine B_drew ?_ | with_reducible refine B_drewN ?_ _ | with_reducible refine B_set ?_ (by simp; omega) _))
  | some l =>
    obtain ⟨i, hik, hgk⟩ := lotIdx_some hf
    have hfi : rFindR nm ls = (i : Int) := by rw [rFindR, hik]
    obtain ⟨hil, hgl⟩ := List.getElem?_eq_some_iff.1 hgk
    have hq := hst l (findLot_mem hf)
    obtain ⟨rm, sta, si, lv, co, sc⟩ := l
    dsimp only at hq
    have hi0 : (0 : Int) ≤ (i : Int) := by omega
    have hi1 : (i : Int) < (ls.length : Int) := by omega
    cases hs : (sta != 1)
    · have hs2 : sta = 1 := by simpa using hs
      subst hs2
      have hfs := hq rfl
      have hX : rRestOverP ss rs ls nm = (rOverL ss rs ⟨rm, 1, si, lv, co, sc⟩, 0) := by unfold rRestOverP; rw [hf]; rfl
      rw [hX]
      clear hX hf hst hik hgk hq hs
      go_wp2_with (first
        | (go_at_call 42; refine (HR _ (hy.keep (m := w.heap.size) (by repeat (first | exact B_refl | exact Below.refl _ _ | assumption | with_reducible refine B_alloc ?_ _ | with_reducible refine B_ext ?_ _ | with_reducible refine B_drew ?_ | with_reducible refine B_drewN ?_ _ | with_reducible refine B_set ?_ (by simp; omega) _))) (hev.keep (m := w.heap.size) (by repeat (first | exact B_refl | exact Below.refl _ _ | assumption | with_reducible refine B_alloc ?_ _ | with_reducible refine B_ext ?_ _ | with_reducible refine B_drew ?_ | with_reducible refine B_drewN ?_ _ | with_reducible refine B_set ?_ (by simp; omega) _)))).mono ?_; intro e wq hq; obtain ⟨A', c', z, rfl, rfl, hl, hlc⟩ := hq.form (by dsimp only; omega); clear hq
           obtain ⟨b, off, rfl, hb, hc0⟩ := hl.sl.at hil
           rw [hgl] at hc0
           have x0 : World.cell? _ ⟨b, off + i * 6, none⟩ = some (.string rm) := hc0 0 _ rfl
           have x1 : World.cell? _ ⟨b, off + i * 6 + 1, none⟩ = some (.int .i64 1) := hc0 1 _ rfl
           have x2 : World.cell? _ ⟨b, off + i * 6 + 2, none⟩ = some (.string si) := hc0 2 _ rfl
           have x3 : World.cell? _ ⟨b, off + i * 6 + 3, none⟩ = some (.int .i64 lv) := hc0 3 _ rfl
           have x4 : World.cell? _ ⟨b, off + i * 6 + 4, none⟩ = some (.int .i64 co) := hc0 4 _ rfl
           have x5 : World.cell? _ ⟨b, off + i * 6 + 5, none⟩ = some (.int .i64 sc) := hc0 5 _ rfl
           clear hc0)
        | (go_at_call 44; refine (rFind_any ls _ _ _ nm _ hl).mono ?_; rintro e wq ⟨rfl, z2, rfl⟩; rw [hfi]
           replace x0 := ((B_ext (Below.refl _ _) z2).cell (p := ⟨b, off + i * 6, none⟩) hb).trans x0
           replace x1 := ((B_ext (Below.refl _ _) z2).cell (p := ⟨b, off + i * 6 + 1, none⟩) hb).trans x1
           replace x2 := ((B_ext (Below.refl _ _) z2).cell (p := ⟨b, off + i * 6 + 2, none⟩) hb).trans x2
           replace x3 := ((B_ext (Below.refl _ _) z2).cell (p := ⟨b, off + i * 6 + 3, none⟩) hb).trans x3
           replace x4 := ((B_ext (Below.refl _ _) z2).cell (p := ⟨b, off + i * 6 + 4, none⟩) hb).trans x4
           replace x5 := ((B_ext (Below.refl _ _) z2).cell (p := ⟨b, off + i * 6 + 5, none⟩) hb).trans x5))
      generalize hW0 : World.ext (World.ext (w.alloc (.cells #[.slice A n c, .slice R rn rc, .int .i64 c0, .int .i64 c1, .int .i64 c2] 26)) z) z2 = W0 at *
      have hB : Below w.heap.size w W0 := by rw [← hW0]; repeat (first | exact B_refl | exact Below.refl _ _ | assumption | with_reducible refine B_alloc ?_ _ | with_reducible refine B_ext ?_ _ | with_reducible refine B_drew ?_ | with_reducible refine B_drewN ?_ _ | with_reducible refine B_set ?_ (by simp; omega) _)
      have hblk : W0.heap[w.heap.size]? = some (.cells #[.slice A n c, .slice R rn rc, .int .i64 c0, .int .i64 c1, .int .i64 c2] 26) := by rw [← hW0]; (repeat (first | with_reducible exact G_new _ _ _ (by simp) | with_reducible exact G_new _ _ _ (by simp [ext_size]) | with_reducible refine G_drew ?_ | with_reducible refine G_ext ?_ | with_reducible refine G_alloc ?_))
      have hz := blk_lt hblk
      have hb2 : b < W0.heap.size := by rw [← hW0, ext_size]; exact Nat.lt_of_lt_of_le hb (Nat.le_add_right _ _)
      have g0 : W0.cell? ⟨w.heap.size, 0, none⟩ = some (.slice A n c) := by simp [World.cell?, hblk]
      have g1 : W0.cell? ⟨w.heap.size, 1, none⟩ = some (.slice R rn rc) := by simp [World.cell?, hblk]
      have g2 : W0.cell? ⟨w.heap.size, 2, none⟩ = some (.int .i64 c0) := by simp [World.cell?, hblk]
      have g3 : W0.cell? ⟨w.heap.size, 3, none⟩ = some (.int .i64 c1) := by simp [World.cell?, hblk]
      have g4 : W0.cell? ⟨w.heap.size, 4, none⟩ = some (.int .i64 c2) := by simp [World.cell?, hblk]
      have hy0 := hy.keep hB
      clear hW0 hblk hb hl HR hev hy
      (refine wp_region_ext_lit (by kernel_rfl) (by kernel_rfl) ?_
       repeat (first | go_big_quiet_skip | (go_big_quiet_want; go_big_quiet_op; first | go_big_quiet_on | (apply Exists.intro; refine ⟨fun _ => ?_, ?_⟩; ((go_at_call 50; exact quietx (rOver_any ss rs _ _ _ _ _ _ _ _ _ _ _ _ _ _ _ _ (hy0.keep (m := W0.heap.size) (by repeat (first | exact B_refl | exact Below.refl _ _ | assumption | with_reducible refine B_alloc ?_ _ | with_reducible refine B_ext ?_ _ | with_reducible refine B_drew ?_ | with_reducible refine B_drewN ?_ _ | with_reducible refine B_set ?_ (by simp; omega) _))) hfs))); go_big_quiet_on)))
       refine wpQuiet_nil ?_
       rintro _ ⟨zq, rfl⟩)
      go_wp2_with fail
      go_ret2
      exact Ret.of rfl (hB.trans ((by repeat (first | exact B_refl | exact Below.refl _ _ | assumption | with_reducible refine B_alloc ?_ _ | with_reducible refine B_ext ?_ _ | with_reducible refine B_drew ?_ | with_reducible refine B_drewN ?_ _ | with_reducible refine B_set ?_ (by simp; omega) _) : Below W0.heap.size W0 _).mono hB.size))
    · have hX : rRestOverP ss rs ls nm = (0, 28) := by unfold rRestOverP; rw [hf]; simp [hs]
      rw [hX]
      clear hX hf hst hik hgk hq
      go_wp2_with (first
        | (go_at_call 42; refine (HR _ (hy.keep (m := w.heap.size) (by repeat (first | exact B_refl | exact Below.refl _ _ | assumption | with_reducible refine B_alloc ?_ _ | with_reducible refine B_ext ?_ _ | with_reducible refine B_drew ?_ | with_reducible refine B_drewN ?_ _ | with_reducible refine B_set ?_ (by simp; omega) _))) (hev.keep (m := w.heap.size) (by repeat (first | exact B_refl | exact Below.refl _ _ | assumption | with_reducible refine B_alloc ?_ _ | with_reducible refine B_ext ?_ _ | with_reducible refine B_drew ?_ | with_reducible refine B_drewN ?_ _ | with_reducible refine B_set ?_ (by simp; omega) _)))).mono ?_; intro e wq hq; obtain ⟨A', c', z, rfl, rfl, hl, hlc⟩ := hq.form (by dsimp only; omega); clear hq
           obtain ⟨b, off, rfl, hb, hc0⟩ := hl.sl.at hil
           rw [hgl] at hc0
           have x1 : World.cell? _ ⟨b, off + i * 6 + 1, none⟩ = some (.int .i64 sta) := hc0 1 _ rfl
           clear hc0)
        | (go_at_call 44; refine (rFind_any ls _ _ _ nm _ hl).mono ?_; rintro e wq ⟨rfl, z2, rfl⟩; rw [hfi]
           replace x1 := ((B_ext (Below.refl _ _) z2).cell (p := ⟨b, off + i * 6 + 1, none⟩) hb).trans x1))
      go_ret2
      exact Ret.of rfl (by repeat (first | exact B_refl | exact Below.refl _ _ | assumption | with_reducible refine B_alloc ?_ _ | with_reducible refine B_ext ?_ _ | with_reducible refine B_drew ?_ | with_reducible refine B_drewN ?_ _ | with_reducible refine B_set ?_ (by simp; omega) _))
end Go.Proofs.YtpohkolapgofdaaGreat
namespace Go.Proofs.YtpohkolapgofdaaGreat
open Go.RowKit
attribute [local go_sem] World.cell?_alloc_mark ext_size ext_cell ext_frozen lt_add_r lt_add_r2 lt_add_r3 lt_add_r4 lt_add_r5 lt_add_r6 lt_add_r7 lt_add_r8

def liesAt (nm : ByteArray) (l : Lot) : Bool := l.state == 1 && l.site.toList == nm.toList
def endsBy (ss : List Site) (rs : List Rest) (day : Int) (nm : ByteArray) (l : Lot) : Bool := !liesAt nm l || decide (rOverL ss rs l ≤ day)
def rUseP (ss : List Site) (rs : List Rest) (ls : List Lot) (day : Int) (s : Site) : Bool := ls.any (liesAt s.name) && ls.all (endsBy ss rs day s.name)
def rReuseP (ss : List Site) (rs : List Rest) (ls : List Lot) (day : Int) (l : List Site) : List ByteArray := (l.filter (rUseP ss rs ls day)).map (·.name)
theorem rReuse_take {ss : List Site} {rs : List Rest} {ls : List Lot} {day : Int} {l : List Site} {j : Nat} (h : j < l.length) : rReuseP ss rs ls day (l.take (j + 1)) = rReuseP ss rs ls day (l.take j) ++ (if rUseP ss rs ls day l[j] then [l[j].name] else []) := by
  rw [List.take_succ_eq_append_getElem h, rReuseP, List.filter_append, List.map_append]
  congr 1
  cases hq : rUseP ss rs ls day l[j] <;> simp [hq]
theorem rReuse_le (ss : List Site) (rs : List Rest) (ls : List Lot) (day : Int) (l : List Site) : (rReuseP ss rs ls day l).length ≤ l.length := by
  unfold rReuseP
  rw [List.length_map]
  exact List.length_filter_le _ _
def strCells (s : ByteArray) : List Value := [.string s]
theorem str_len (s : ByteArray) : (strCells s).length = 1 := rfl
theorem str_one (s : ByteArray) : ∀ u ∈ strCells s, u.oneCell' = true := by simp [strCells, Value.oneCell']
theorem elStr : ElTy Tryz.prog 55 9 1 16 := elTy_of (z := .string ⟨#[]⟩) (by kernel_rfl) (by kernel_rfl) rfl (by decide)
theorem sl_str {w : World} {q : Nat} {x : ByteArray} {t : TypeId} {fr : Nat × Nat} (h : w.heap[q]? = some (.cells #[.string x] t fr)) : Sl w 1 strCells (some ⟨q, 0, none⟩) [x] :=
  sl_block str_len h (by simp [strCells])
/-- A slice of texts of the call's own comes back. -/
def StrsPost (w : World) (l : List ByteArray) (e : Ending) (w' : World) : Prop :=
  ∃ v, e = .returned v ∧ w'.ownsRow w.heap.size 9 1 v l.length (l.flatMap strCells) ∧ ∃ z, w' = w.ext z
theorem any_take {α : Type} (p : α → Bool) (l : List α) {j : Nat} (h : j < l.length) : (l.take (j + 1)).any p = ((l.take j).any p || p l[j]) := by
  rw [List.take_succ_eq_append_getElem h, List.any_append, List.any_cons, List.any_nil, Bool.or_false]
theorem all_take {α : Type} (p : α → Bool) (l : List α) {j : Nat} (h : j < l.length) : (l.take (j + 1)).all p = ((l.take j).all p && p l[j]) := by
  rw [List.take_succ_eq_append_getElem h, List.all_append, List.all_cons, List.all_nil, Bool.and_true]

set_option maxRecDepth 100000 in
set_option maxHeartbeats 2000000 in
theorem rReusable_any (ss : List Site) (rs : List Rest) (A R : Option Addr) (n c rn rc : Nat) (c0 c1 c2 : Int) (es : List Event) (E : Option Addr) (en ec : Nat) (day : Int) (w : World) (hy : YardIn w ss rs A n c R rn rc) (hev : EventsIn w es E en) (hcap : es.length ≤ ec) (hroom : ∀ s ∈ ss, s.room ≤ 12) (hs60 : ss.length ≤ 60)
    (hst : ∀ t ∈ (rReplayP c0 c1 c2 ss rs (upToE day es)).1, t.state = 1 → ∃ s, findSite t.site ss = some s) :
    Calls Tryz.prog 25 #[.agg #[.slice A n c, .slice R rn rc, .int .i64 c0, .int .i64 c1, .int .i64 c2], .slice E en ec, .int .i64 day] w (StrsPost w (rReuseP ss rs (rReplayP c0 c1 c2 ss rs (upToE day es)).1 day ss)) := by
  have hyn := hy.hn
  subst hyn
  have hlen := rReplay_len (c0 := c0) (c1 := c1) (c2 := c2) (ss := ss) (rs := rs) (upToE day es)
  have HO := fun W h1 h2 => rOn_any ss rs A R ss.length c rn rc c0 c1 c2 es E en ec day W h1 h2 hcap hroom
  generalize (rReplayP c0 c1 c2 ss rs (upToE day es)).1 = ls at *
  have HST := Lib.hid hst
  have HLS := Lib.hid (fun j => rReuse_le ss rs ls day (ss.take j))
  clear hroom hst
  go_enter Tryz.func25, Tryz.ntmps25
  go_wp2_with (go_at_call 20; refine (HO _ (hy.keep (m := w.heap.size) (by repeat (first | exact B_refl | exact Below.refl _ _ | assumption | with_reducible refine B_alloc ?_ _ | with_reducible refine B_ext ?_ _ | with_reducible refine B_drew ?_ | with_reducible refine B_drewN ?_ _ | with_reducible refine B_set ?_ (by simp; omega) _))) (hev.keep (m := w.heap.size) (by repeat (first | exact B_refl | exact Below.refl _ _ | assumption | with_reducible refine B_alloc ?_ _ | with_reducible refine B_ext ?_ _ | with_reducible refine B_drew ?_ | with_reducible refine B_drewN ?_ _ | with_reducible refine B_set ?_ (by simp; omega) _)))).mono ?_; rintro e wq ⟨v, rfl, hown, z, rfl⟩; obtain ⟨A', c', rfl, hS, hlc⟩ := own_sl lot_len hown; clear hown)
  generalize hW0 : World.ext (w.alloc (.cells #[.slice A ss.length c, .slice R rn rc, .int .i64 c0, .int .i64 c1, .int .i64 c2] 26)) z = W0 at *
  have hB : Below w.heap.size w W0 := by rw [← hW0]; repeat (first | exact B_refl | exact Below.refl _ _ | assumption | with_reducible refine B_alloc ?_ _ | with_reducible refine B_ext ?_ _ | with_reducible refine B_drew ?_ | with_reducible refine B_drewN ?_ _ | with_reducible refine B_set ?_ (by simp; omega) _)
  have hblk : W0.heap[w.heap.size]? = some (.cells #[.slice A ss.length c, .slice R rn rc, .int .i64 c0, .int .i64 c1, .int .i64 c2] 26) := by rw [← hW0]; (repeat (first | with_reducible exact G_new _ _ _ (by simp) | with_reducible exact G_new _ _ _ (by simp [ext_size]) | with_reducible refine G_drew ?_ | with_reducible refine G_ext ?_ | with_reducible refine G_alloc ?_))
  have hy0 := hy.keep hB
  have hz := blk_lt hblk
  obtain ⟨N, hN⟩ : ∃ N, N = W0.heap.size := ⟨_, rfl⟩
  clear hW0 HO hev
  go_loopw [8, 9] (fun v i wr => ∃ j : Nat, j ≤ ss.length ∧ i = .int .i64 j ∧ wr.ownsRow N 9 1 v (rReuseP ss rs ls day (ss.take j)).length ((rReuseP ss rs ls day (ss.take j)).flatMap strCells) ∧ Below N W0 wr) (fun _ i _ => ss.length - (intOf i).toNat)
  case atStart => exact ⟨0, Nat.zero_le _, rfl, World.ownsRow_nil _ _ _ _, Below.refl _ _⟩
  case round =>
    obtain ⟨j, hj, rfl, hown, hBr⟩ := hrel
    have hwN : N ≤ wr.heap.size := by have := hBr.size; omega
    by_cases hlt : j < ss.length
    · obtain ⟨b, off, rfl, hb, hc0⟩ := hy0.sl.at hlt
      have hlt2 : (j : Int) < (ss.length : Int) := by omega
      have hj0 : (0 : Int) ≤ (j : Int) := by omega
      have HT := Lib.hid (rReuse_take (ss := ss) (rs := rs) (ls := ls) (day := day) hlt)
      have hdl := HLS.out j
      rw [List.length_take] at hdl
      have x0 : W0.cell? ⟨b, off + j * 6, none⟩ = some (.string ss[j].name) := hc0 0 _ rfl
      clear hc0
      have HJ := Lib.hid hlt
      generalize ss[j] = s at *
      obtain ⟨a, k, so, d, st, r⟩ := s
      dsimp only at x0 HT
      have hdl2 : (rReuseP ss rs ls day (ss.take j)).length ≤ 1000 := by omega
      generalize rReuseP ss rs ls day (ss.take j) = dn at *
      clear hdl
      have k0 := (hBr.block w.heap.size (by omega)).trans hblk
      have g0 : wr.cell? ⟨w.heap.size, 0, none⟩ = some (.slice (some ⟨b, off, none⟩) ss.length c) := by simp [World.cell?, k0]
      clear k0
      obtain ⟨wo, rfl⟩ : ∃ wo : World, wo = wr := ⟨_, rfl⟩
      go_wp2_with fail
      clear g0
      go_loopw [10, 11, 12] (fun li ov i wr => ∃ q : Nat, q ≤ ls.length ∧ li = .bool ((ls.take q).any (liesAt a)) ∧ ov = .bool ((ls.take q).all (endsBy ss rs day a)) ∧ i = .int .i64 q ∧ ∃ z, wr = wo.ext z) (fun _ _ i _ => ls.length - (intOf i).toNat)
      case atStart => exact ⟨0, Nat.zero_le _, rfl, rfl, rfl, ext_below (Below.refl _ _)⟩
      case round =>
        obtain ⟨q, hq, rfl, rfl, rfl, z2, hwr⟩ := hrel
        have hBr1 : Below N W0 wr := by rw [hwr]; exact B_ext hBr z2
        have hown1 : wr.ownsRow N 9 1 u8 dn.length (dn.flatMap strCells) := by rw [hwr]; exact own_ext hown _
        have HWR := Lib.hid hwr
        clear hwr
        have hwN1 : N ≤ wr.heap.size := by have := hBr1.size; omega
        have k0 := (hBr1.block w.heap.size (by omega)).trans hblk
        have g0 : wr.cell? ⟨w.heap.size, 0, none⟩ = some (.slice (some ⟨b, off, none⟩) ss.length c) := by simp [World.cell?, k0]
        have g1 : wr.cell? ⟨w.heap.size, 1, none⟩ = some (.slice R rn rc) := by simp [World.cell?, k0]
        have g2 : wr.cell? ⟨w.heap.size, 2, none⟩ = some (.int .i64 c0) := by simp [World.cell?, k0]
        have g3 : wr.cell? ⟨w.heap.size, 3, none⟩ = some (.int .i64 c1) := by simp [World.cell?, k0]
        have g4 : wr.cell? ⟨w.heap.size, 4, none⟩ = some (.int .i64 c2) := by simp [World.cell?, k0]
        have y0 := (hBr1.cell (p := ⟨b, off + j * 6, none⟩) (show b < N by omega)).trans x0
        have hbw : b < wr.heap.size := by omega
        have hzw : w.heap.size < wr.heap.size := by omega
        clear k0
        by_cases hql : q < ls.length
        · obtain ⟨b2, off2, rfl, hb2, hd0⟩ := hS.at hql
          have hd : ∀ i u, (ls[q].cells)[i]? = some u → wr.cell? ⟨b2, off2 + q * 6 + i, none⟩ = some u := fun i u hu => (hBr1.cell (p := ⟨b2, off2 + q * 6 + i, none⟩) (by rw [hN]; exact hb2)).trans (hd0 i u hu)
          have v0 : wr.cell? ⟨b2, off2 + q * 6, none⟩ = some (.string ls[q].remain) := hd 0 _ rfl
          have v1 : wr.cell? ⟨b2, off2 + q * 6 + 1, none⟩ = some (.int .i64 ls[q].state) := hd 1 _ rfl
          have v2 : wr.cell? ⟨b2, off2 + q * 6 + 2, none⟩ = some (.string ls[q].site) := hd 2 _ rfl
          have v3 : wr.cell? ⟨b2, off2 + q * 6 + 3, none⟩ = some (.int .i64 ls[q].level) := hd 3 _ rfl
          have v4 : wr.cell? ⟨b2, off2 + q * 6 + 4, none⟩ = some (.int .i64 ls[q].container) := hd 4 _ rfl
          have v5 : wr.cell? ⟨b2, off2 + q * 6 + 5, none⟩ = some (.int .i64 ls[q].since) := hd 5 _ rfl
          have hbw2 : b2 < wr.heap.size := by omega
          have HA1 := Lib.hid (any_take (liesAt a) ls hql)
          have HA2 := Lib.hid (all_take (endsBy ss rs day a) ls hql)
          have hql2 : (q : Int) < (ls.length : Int) := by omega
          have hfs := HST.out _ (List.getElem_mem hql)
          have HFS := Lib.hid hfs
          clear hd hd0 hfs
          generalize ls[q] = l at *
          obtain ⟨rm, sta, si, lv, co, sc⟩ := l
          dsimp only at v0 v1 v2 v3 v4 v5 HFS
          generalize hli : (ls.take q).any (liesAt a) = li at *
          generalize hov : (ls.take q).all (endsBy ss rs day a) = ov at *
          clear hli hov
          cases h1 : (sta == 1)
          · have HL : Hid (liesAt a ⟨rm, sta, si, lv, co, sc⟩ = false) := by show _ = _; simp [liesAt, h1]
            go_wp2_with fail
            (refine wp_region_ext_lit (by kernel_rfl) (by kernel_rfl) ?_
             repeat (first | go_big_quiet_skip | (go_big_quiet_want; go_big_quiet_op; first | go_big_quiet_on | (apply Exists.intro; refine ⟨fun _ => ?_, ?_⟩; (fail); go_big_quiet_on)))
             refine wpQuiet_nil ?_
             rintro _ ⟨zq, rfl⟩)
            go_wp2_with fail
            go_roundw
            case rel => exact ⟨q + 1, by omega, by rw [HA1.out, HL.out, Bool.or_false], by rw [HA2.out, endsBy, HL.out]; simp, by go_num, ext_below (by rw [HWR.out]; repeat (first | exact B_refl | exact Below.refl _ _ | assumption | with_reducible refine B_alloc ?_ _ | with_reducible refine B_ext ?_ _ | with_reducible refine B_drew ?_ | with_reducible refine B_drewN ?_ _ | with_reducible refine B_set ?_ (by simp; omega) _))⟩
            case measure => simp [intOf]; omega
          · have h1' : sta = 1 := by simpa using h1
            subst h1'
            cases h2 : (si.toList == a.toList)
            · have HL : Hid (liesAt a ⟨rm, 1, si, lv, co, sc⟩ = false) := by show _ = _; simp [liesAt, h2]
              go_wp2_with fail
              (refine wp_region_ext_lit (by kernel_rfl) (by kernel_rfl) ?_
               repeat (first | go_big_quiet_skip | (go_big_quiet_want; go_big_quiet_op; first | go_big_quiet_on | (apply Exists.intro; refine ⟨fun _ => ?_, ?_⟩; (fail); go_big_quiet_on)))
               refine wpQuiet_nil ?_
               rintro _ ⟨zq, rfl⟩)
              go_wp2_with fail
              go_roundw
              case rel => exact ⟨q + 1, by omega, by rw [HA1.out, HL.out, Bool.or_false], by rw [HA2.out, endsBy, HL.out]; simp, by go_num, ext_below (by rw [HWR.out]; repeat (first | exact B_refl | exact Below.refl _ _ | assumption | with_reducible refine B_alloc ?_ _ | with_reducible refine B_ext ?_ _ | with_reducible refine B_drew ?_ | with_reducible refine B_drewN ?_ _ | with_reducible refine B_set ?_ (by simp; omega) _))⟩
              case measure => simp [intOf]; omega
            · have HL : Hid (liesAt a ⟨rm, 1, si, lv, co, sc⟩ = true) := by show _ = _; simp [liesAt, h2]
              have hfs := HFS.out rfl
              go_wp2_with fail
              (refine wp_region_ext_lit (by kernel_rfl) (by kernel_rfl) ?_
               repeat (first | go_big_quiet_skip | (go_big_quiet_want; go_big_quiet_op; first | go_big_quiet_on | (apply Exists.intro; refine ⟨fun _ => ?_, ?_⟩; (fail); go_big_quiet_on)))
               refine wpQuiet_nil ?_
               rintro _ ⟨zq, rfl⟩)
              cases ov
              · go_wp2_with fail
                (refine wp_region_ext_lit (by kernel_rfl) (by kernel_rfl) ?_
                 repeat (first | go_big_quiet_skip | (go_big_quiet_want; go_big_quiet_op; first | go_big_quiet_on | (apply Exists.intro; refine ⟨fun _ => ?_, ?_⟩; (fail); go_big_quiet_on)))
                 refine wpQuiet_nil ?_
                 rintro _ ⟨zq, rfl⟩)
                go_wp2_with fail
                go_roundw
                case rel => exact ⟨q + 1, by omega, by rw [HA1.out, HL.out, Bool.or_true], by rw [HA2.out, Bool.false_and], by go_num, ext_below (by rw [HWR.out]; repeat (first | exact B_refl | exact Below.refl _ _ | assumption | with_reducible refine B_alloc ?_ _ | with_reducible refine B_ext ?_ _ | with_reducible refine B_drew ?_ | with_reducible refine B_drewN ?_ _ | with_reducible refine B_set ?_ (by simp; omega) _))⟩
                case measure => simp [intOf]; omega
              · have HE : Hid (endsBy ss rs day a ⟨rm, 1, si, lv, co, sc⟩ = decide (rOverL ss rs ⟨rm, 1, si, lv, co, sc⟩ ≤ day)) := by show _ = _; rw [endsBy, HL.out]; rfl
                have HV := fun W h => rOver_any ss rs (some ⟨b, off, none⟩) R ss.length c rn rc c0 c1 c2 rm 1 si lv co sc W h hfs
                generalize rOverL ss rs ⟨rm, 1, si, lv, co, sc⟩ = ovr at *
                go_wp2_with fail
                (refine wp_region_ext_lit (by kernel_rfl) (by kernel_rfl) ?_
                 repeat (first | go_big_quiet_skip | (go_big_quiet_want; go_big_quiet_op; first | go_big_quiet_on | (apply Exists.intro; refine ⟨fun _ => ?_, ?_⟩; ((go_at_call 50; exact quietx (HV _ ((hy0.keep hBr1 (by omega)).keep (m := wr.heap.size) (by repeat (first | exact B_refl | exact Below.refl _ _ | assumption | with_reducible refine B_alloc ?_ _ | with_reducible refine B_ext ?_ _ | with_reducible refine B_drew ?_ | with_reducible refine B_drewN ?_ _ | with_reducible refine B_set ?_ (by simp; omega) _)))))); go_big_quiet_on)))
                 refine wpQuiet_nil ?_
                 rintro _ ⟨zq, rfl⟩)
                go_wp2_with fail
                go_roundw
                case rel => exact ⟨q + 1, by omega, by rw [HA1.out, HL.out, Bool.or_true], by rw [HA2.out, HE.out, Bool.true_and], by go_num, ext_below (by rw [HWR.out]; repeat (first | exact B_refl | exact Below.refl _ _ | assumption | with_reducible refine B_alloc ?_ _ | with_reducible refine B_ext ?_ _ | with_reducible refine B_drew ?_ | with_reducible refine B_drewN ?_ _ | with_reducible refine B_set ?_ (by simp; omega) _))⟩
                case measure => simp [intOf]; omega
        · have hqe : q = ls.length := by omega
          subst hqe
          rw [List.take_length]
          have HU : Hid (rUseP ss rs ls day ⟨a, k, so, d, st, r⟩ = (ls.any (liesAt a) && ls.all (endsBy ss rs day a))) := rfl
          generalize ls.any (liesAt a) = li at *
          generalize ls.all (endsBy ss rs day a) = ov at *
          cases li
          · go_wp2_with fail
            go_roundw
            case rel => exact ⟨j + 1, by omega, by go_num, by rw [HT.out, HU.out]; simp only [Bool.false_and, Bool.false_eq_true, if_false, List.append_nil]; exact hown1, hBr1⟩
            case measure => simp [intOf]; omega
          · cases ov
            · go_wp2_with fail
              go_roundw
              case rel => exact ⟨j + 1, by omega, by go_num, by rw [HT.out, HU.out]; simp only [Bool.and_false, Bool.false_eq_true, if_false, List.append_nil]; exact hown1, hBr1⟩
              case measure => simp [intOf]; omega
            · go_wp2_with (at_builtin; refine wpList_append_sl rfl _ _ rfl elStr str_len str_one (base := N) (n := dn.length) (m := 1) (v := u8) rfl (hown1.alloc _) rfl (ys := [a]) rfl (sl_str (t := 9) (fr := (0, 0)) (G_new _ _ _ (by first | rfl | (simp [ext_size]; done)))) (by simp [maxLen]; omega) (by omega) (by simp; omega) ?_; intro v' w1 h1 h2 h3)
              have hown2 : w1.ownsRow N 9 1 v' (dn ++ [a]).length ((dn ++ [a]).flatMap strCells) := by simpa using h1
              have hB2 : Below N W0 w1 := below_own (B_alloc hBr1 _) (hown1.alloc _) h2
              clear h1 h2 h3
              go_wp2_with fail
              go_roundw
              case rel => exact ⟨j + 1, by omega, by go_num, by rw [HT.out, HU.out]; simp only [Bool.and_self, if_true]; exact hown2, hB2⟩
              case measure => simp [intOf]; omega
    · have hje : j = ss.length := by omega
      subst hje
      rw [List.take_length] at hown
      have k0 := (hBr.block w.heap.size (by omega)).trans hblk
      have g0 : wr.cell? ⟨w.heap.size, 0, none⟩ = some (.slice A ss.length c) := by simp [World.cell?, k0]
      clear k0
      go_wp2_with fail
      go_ret
      exact ⟨_, rfl, own_mono' hown (by omega), ext_below (hB.trans (hBr.mono (by omega)))⟩
end Go.Proofs.YtpohkolapgofdaaGreat

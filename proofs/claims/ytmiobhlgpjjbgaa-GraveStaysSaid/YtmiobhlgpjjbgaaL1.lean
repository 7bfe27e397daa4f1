/- Walks: a rest, a depth, what a level takes. -/
import Derived.Test.YtmiobhlgpjjbgaaL0
namespace Go.Proofs.Ytmiobhlgpjjbgaa
open Go.RowKit
attribute [local go_sem] World.cell?_alloc_mark ext_size ext_cell ext_frozen lt_add_r lt_add_r2 lt_add_r3 lt_add_r4 lt_add_r5 lt_add_r6 lt_add_r7 lt_add_r8
attribute [local go_sem] ext_setCell alloc_setCell_lt

def restOfR (p : Site × Int) (rs : List Rest) (co : Int) : Int × Int := if p.2 != 0 then (0, p.2) else if !inR co 0 2 then (0, 2) else (restP p.1.soil co rs, 0)
def depthOfR (p : Site × Int) (l : Int) : Int × Int := if p.2 != 0 then (0, p.2) else if !inR l 0 (p.1.room - 1) then (0, 2) else (depthP p.1.kind p.1.depth p.1.step l, 0)
def takesR (c0 c1 c2 : Int) (p : Site × Int) (l co : Int) : Bool × Int := if (depthOfR p l).2 != 0 then (false, (depthOfR p l).2) else if !inR co 0 2 then (false, 2) else (takesP c0 c1 c2 p.1.kind p.1.depth p.1.step l co, 0)

set_option maxRecDepth 100000 in
set_option maxHeartbeats 2000000 in
theorem restOf_any (ss : List Site) (rs : List Rest) (A R : Option Addr) (n c rn rc : Nat) (c0 c1 c2 : Int) (nm : ByteArray) (co : Int) (w : World) (hy : YardIn w ss rs A n c R rn rc) :
    Calls Try.prog 24 #[.agg #[.slice A n c, .slice R rn rc, .int .i64 c0, .int .i64 c1, .int .i64 c2], .string nm, .int .i64 co] w (Ret w (ret2 (restOfR (findR ss rs c0 c1 c2 nm) rs co))) := by
  generalize hr : findR ss rs c0 c1 c2 nm = p
  obtain ⟨⟨a, k, so, d, st, r⟩, er⟩ := p
  have HR := Lib.hid hr
  clear hr
  go_enter Try.func24, Try.ntmps24
  cases hq : (er != 0)
  · cases hg : inR co 0 2
    · have hX : restOfR (⟨a, k, so, d, st, r⟩, er) rs co = (0, 2) := by simp [restOfR, hq, hg]
      rw [hX]
      clear hX
      go_wp2_with (first
          | (go_at_call 64; refine (find_any ss rs _ _ _ _ _ _ _ _ _ _ _ (hy.keep (m := w.heap.size) (by repeat (first | exact B_refl | exact Below.refl _ _ | assumption | with_reducible refine B_alloc ?_ _ | with_reducible refine B_ext ?_ _ | with_reducible refine B_drew ?_ | with_reducible refine B_drewN ?_ _ | with_reducible refine B_set ?_ (by simp; omega) _))) a k so d st r er HR.out).mono ?_; rintro e wq ⟨rfl, zq, rfl⟩)
          | (go_at_call 60; refine (isContainer_any _ _).mono ?_; rintro e wq ⟨rfl, rfl⟩; rw [hg]))
      go_ret2
      exact Ret.of rfl (by repeat (first | exact B_refl | exact Below.refl _ _ | assumption | with_reducible refine B_alloc ?_ _ | with_reducible refine B_ext ?_ _ | with_reducible refine B_drew ?_ | with_reducible refine B_drewN ?_ _ | with_reducible refine B_set ?_ (by simp; omega) _))
    · have hX : restOfR (⟨a, k, so, d, st, r⟩, er) rs co = (restP so co rs, 0) := by simp [restOfR, hq, hg]
      rw [hX]
      clear hX
      have hln := hy.hrn
      subst hln
      go_wp2_with (first
          | (go_at_call 64; refine (find_any ss rs _ _ _ _ _ _ _ _ _ _ _ (hy.keep (m := w.heap.size) (by repeat (first | exact B_refl | exact Below.refl _ _ | assumption | with_reducible refine B_alloc ?_ _ | with_reducible refine B_ext ?_ _ | with_reducible refine B_drew ?_ | with_reducible refine B_drewN ?_ _ | with_reducible refine B_set ?_ (by simp; omega) _))) a k so d st r er HR.out).mono ?_; rintro e wq ⟨rfl, zq, rfl⟩)
          | (go_at_call 60; refine (isContainer_any _ _).mono ?_; rintro e wq ⟨rfl, rfl⟩; rw [hg])
          | (go_at_call 65; refine (rest_any rs _ _ _ _ _ _ _ _ _ _ _ _ _ _ _ _ (hy.sr.keep (n := w.heap.size) (by repeat (first | exact B_refl | exact Below.refl _ _ | assumption | with_reducible refine B_alloc ?_ _ | with_reducible refine B_ext ?_ _ | with_reducible refine B_drew ?_ | with_reducible refine B_drewN ?_ _ | with_reducible refine B_set ?_ (by simp; omega) _))) hy.l2).mono ?_; rintro e wq ⟨rfl, zq, rfl⟩))
      go_ret2
      exact Ret.of rfl (by repeat (first | exact B_refl | exact Below.refl _ _ | assumption | with_reducible refine B_alloc ?_ _ | with_reducible refine B_ext ?_ _ | with_reducible refine B_drew ?_ | with_reducible refine B_drewN ?_ _ | with_reducible refine B_set ?_ (by simp; omega) _))
  · have hX : restOfR (⟨a, k, so, d, st, r⟩, er) rs co = (0, er) := by simp only [restOfR, hq, if_true]
    rw [hX]
    clear hX
    go_wp2_with (go_at_call 64; refine (find_any ss rs _ _ _ _ _ _ _ _ _ _ _ (hy.keep (m := w.heap.size) (by repeat (first | exact B_refl | exact Below.refl _ _ | assumption | with_reducible refine B_alloc ?_ _ | with_reducible refine B_ext ?_ _ | with_reducible refine B_drew ?_ | with_reducible refine B_drewN ?_ _ | with_reducible refine B_set ?_ (by simp; omega) _))) a k so d st r er HR.out).mono ?_; rintro e wq ⟨rfl, zq, rfl⟩)
    go_ret2
    exact Ret.of rfl (by repeat (first | exact B_refl | exact Below.refl _ _ | assumption | with_reducible refine B_alloc ?_ _ | with_reducible refine B_ext ?_ _ | with_reducible refine B_drew ?_ | with_reducible refine B_drewN ?_ _ | with_reducible refine B_set ?_ (by simp; omega) _))

set_option maxRecDepth 100000 in
set_option maxHeartbeats 2000000 in
theorem depthOf_any (ss : List Site) (rs : List Rest) (A R : Option Addr) (n c rn rc : Nat) (c0 c1 c2 : Int) (nm : ByteArray) (l : Int) (w : World) (hy : YardIn w ss rs A n c R rn rc) :
    Calls Try.prog 25 #[.agg #[.slice A n c, .slice R rn rc, .int .i64 c0, .int .i64 c1, .int .i64 c2], .string nm, .int .i64 l] w (Ret w (ret2 (depthOfR (findR ss rs c0 c1 c2 nm) l))) := by
  generalize hr : findR ss rs c0 c1 c2 nm = p
  obtain ⟨⟨a, k, so, d, st, r⟩, er⟩ := p
  have HR := Lib.hid hr
  go_enter Try.func25, Try.ntmps25
  cases hq : (er != 0)
  · have he0 : er = 0 := by simpa using hq
    obtain ⟨hr1, hr2⟩ := findR_room (by rw [hr, he0])
    dsimp only at hr1 hr2
    clear hr he0
    cases hg : inR l 0 (r - 1)
    · have hX : depthOfR (⟨a, k, so, d, st, r⟩, er) l = (0, 2) := by simp [depthOfR, hq, hg]
      rw [hX]
      clear hX
      go_wp2_with (first
          | (go_at_call 64; refine (find_any ss rs _ _ _ _ _ _ _ _ _ _ _ (hy.keep (m := w.heap.size) (by repeat (first | exact B_refl | exact Below.refl _ _ | assumption | with_reducible refine B_alloc ?_ _ | with_reducible refine B_ext ?_ _ | with_reducible refine B_drew ?_ | with_reducible refine B_drewN ?_ _ | with_reducible refine B_set ?_ (by simp; omega) _))) a k so d st r er HR.out).mono ?_; rintro e wq ⟨rfl, zq, rfl⟩)
          | (go_at_call 56; refine (within_any _ _ _ _).mono ?_; rintro e wq ⟨rfl, rfl⟩; rw [hg]))
      go_ret2
      exact Ret.of rfl (by repeat (first | exact B_refl | exact Below.refl _ _ | assumption | with_reducible refine B_alloc ?_ _ | with_reducible refine B_ext ?_ _ | with_reducible refine B_drew ?_ | with_reducible refine B_drewN ?_ _ | with_reducible refine B_set ?_ (by simp; omega) _))
    · have hX : depthOfR (⟨a, k, so, d, st, r⟩, er) l = (depthP k d st l, 0) := by simp [depthOfR, hq, hg]
      rw [hX]
      clear hX
      go_wp2_with (first
          | (go_at_call 64; refine (find_any ss rs _ _ _ _ _ _ _ _ _ _ _ (hy.keep (m := w.heap.size) (by repeat (first | exact B_refl | exact Below.refl _ _ | assumption | with_reducible refine B_alloc ?_ _ | with_reducible refine B_ext ?_ _ | with_reducible refine B_drew ?_ | with_reducible refine B_drewN ?_ _ | with_reducible refine B_set ?_ (by simp; omega) _))) a k so d st r er HR.out).mono ?_; rintro e wq ⟨rfl, zq, rfl⟩)
          | (go_at_call 56; refine (within_any _ _ _ _).mono ?_; rintro e wq ⟨rfl, rfl⟩; rw [hg])
          | (go_at_call 57; refine (depth_any _ _ _ _ _ _ _ _).mono ?_; rintro e wq ⟨rfl, zq, rfl⟩))
      go_ret2
      exact Ret.of rfl (by repeat (first | exact B_refl | exact Below.refl _ _ | assumption | with_reducible refine B_alloc ?_ _ | with_reducible refine B_ext ?_ _ | with_reducible refine B_drew ?_ | with_reducible refine B_drewN ?_ _ | with_reducible refine B_set ?_ (by simp; omega) _))
  · have hX : depthOfR (⟨a, k, so, d, st, r⟩, er) l = (0, er) := by simp only [depthOfR, hq, if_true]
    rw [hX]
    clear hX hr
    go_wp2_with (go_at_call 64; refine (find_any ss rs _ _ _ _ _ _ _ _ _ _ _ (hy.keep (m := w.heap.size) (by repeat (first | exact B_refl | exact Below.refl _ _ | assumption | with_reducible refine B_alloc ?_ _ | with_reducible refine B_ext ?_ _ | with_reducible refine B_drew ?_ | with_reducible refine B_drewN ?_ _ | with_reducible refine B_set ?_ (by simp; omega) _))) a k so d st r er HR.out).mono ?_; rintro e wq ⟨rfl, zq, rfl⟩)
    go_ret2
    exact Ret.of rfl (by repeat (first | exact B_refl | exact Below.refl _ _ | assumption | with_reducible refine B_alloc ?_ _ | with_reducible refine B_ext ?_ _ | with_reducible refine B_drew ?_ | with_reducible refine B_drewN ?_ _ | with_reducible refine B_set ?_ (by simp; omega) _))

theorem depthOfR_zero {p : Site × Int} {l : Int} (h : ((depthOfR p l).2 != 0) = false) : p.2 = 0 := by
  unfold depthOfR at h
  split at h
  · simp_all
  · simp_all
theorem findR_zero {ss : List Site} {rs : List Rest} {c0 c1 c2 : Int} {nm : ByteArray} {s : Site} (h : findR ss rs c0 c1 c2 nm = (s, 0)) : findSite nm ss = some s := by
  unfold findR at h
  split at h
  · rename_i hx
    simp only [Prod.mk.injEq] at h
    rw [h.2] at hx
    simp at hx
  split at h
  · simp at h
  · rename_i s' hs
    simp only [Prod.mk.injEq] at h
    rw [← h.1]
    exact hs
def ret2b (p : Bool × Int) : Value := .tuple #[.bool p.1, .int .i64 p.2]

set_option maxRecDepth 100000 in
set_option maxHeartbeats 2000000 in
theorem gTakes_any (ss : List Site) (rs : List Rest) (A R : Option Addr) (n c rn rc : Nat) (c0 c1 c2 : Int) (nm : ByteArray) (l co : Int) (w : World) (hy : YardIn w ss rs A n c R rn rc) :
    Calls Try.prog 26 #[.agg #[.slice A n c, .slice R rn rc, .int .i64 c0, .int .i64 c1, .int .i64 c2], .string nm, .int .i64 l, .int .i64 co] w (Ret w (ret2b (takesR c0 c1 c2 (findR ss rs c0 c1 c2 nm) l co))) := by
  generalize hr : findR ss rs c0 c1 c2 nm = p
  generalize hd : depthOfR p l = q
  have HD : Hid (depthOfR (findR ss rs c0 c1 c2 nm) l = q) := Lib.hid (by rw [hr]; exact hd)
  obtain ⟨dd, de⟩ := q
  go_enter Try.func26, Try.ntmps26
  cases hq : (de != 0)
  · have hp0 := depthOfR_zero (p := p) (l := l) (by rw [hd]; exact hq)
    obtain ⟨⟨a, k, so, d, st, r⟩, er⟩ := p
    dsimp only at hp0
    subst hp0
    have hf := findR_zero hr
    clear hr
    cases hg : inR co 0 2
    · have hX : takesR c0 c1 c2 (⟨a, k, so, d, st, r⟩, 0) l co = (false, 2) := by simp [takesR, hd, hq, hg]
      rw [hX]
      clear hX hd hf
      go_wp2_with (first
          | (go_at_call 25; refine (depthOf_any ss rs _ _ _ _ _ _ _ _ _ _ _ _ (hy.keep (m := w.heap.size) (by repeat (first | exact B_refl | exact Below.refl _ _ | assumption | with_reducible refine B_alloc ?_ _ | with_reducible refine B_ext ?_ _ | with_reducible refine B_drew ?_ | with_reducible refine B_drewN ?_ _ | with_reducible refine B_set ?_ (by simp; omega) _)))).mono ?_; rintro e wq ⟨rfl, zq, rfl⟩; rw [HD.out]; unfold ret2)
          | (go_at_call 60; refine (isContainer_any _ _).mono ?_; rintro e wq ⟨rfl, rfl⟩; rw [hg]))
      go_ret2
      exact Ret.of rfl (by repeat (first | exact B_refl | exact Below.refl _ _ | assumption | with_reducible refine B_alloc ?_ _ | with_reducible refine B_ext ?_ _ | with_reducible refine B_drew ?_ | with_reducible refine B_drewN ?_ _ | with_reducible refine B_set ?_ (by simp; omega) _))
    · have hX : takesR c0 c1 c2 (⟨a, k, so, d, st, r⟩, 0) l co = (takesP c0 c1 c2 k d st l co, 0) := by simp [takesR, hd, hq, hg]
      rw [hX]
      have hc1 : 0 ≤ co := by simp [inR] at hg; omega
      have hc2 : co ≤ 2 := by simp [inR] at hg; omega
      have hres := site_res hy.sl nm
      have hl1 := hy.l1
      rw [hf] at hres
      obtain ⟨b, off, hp, hb, hcs⟩ := hres
      have x0 : w.cell? ⟨b, off, none⟩ = some (.string a) := hcs 0 _ rfl
      have x1 : w.cell? ⟨b, off + 1, none⟩ = some (.int .i64 k) := hcs 1 _ rfl
      have x2 : w.cell? ⟨b, off + 2, none⟩ = some (.int .i64 so) := hcs 2 _ rfl
      have x3 : w.cell? ⟨b, off + 3, none⟩ = some (.int .i64 d) := hcs 3 _ rfl
      have x4 : w.cell? ⟨b, off + 4, none⟩ = some (.int .i64 st) := hcs 4 _ rfl
      have x5 : w.cell? ⟨b, off + 5, none⟩ = some (.int .i64 r) := hcs 5 _ rfl
      clear hX hd hf hcs
      generalize hT : takesP c0 c1 c2 k d st l co = T
      have HT := Lib.hid hT
      clear hT
      go_wp2_with (first
          | (go_at_call 25; refine (depthOf_any ss rs _ _ _ _ _ _ _ _ _ _ _ _ (hy.keep (m := w.heap.size) (by repeat (first | exact B_refl | exact Below.refl _ _ | assumption | with_reducible refine B_alloc ?_ _ | with_reducible refine B_ext ?_ _ | with_reducible refine B_drew ?_ | with_reducible refine B_drewN ?_ _ | with_reducible refine B_set ?_ (by simp; omega) _)))).mono ?_; rintro e wq ⟨rfl, zq, rfl⟩; rw [HD.out]; unfold ret2)
          | (go_at_call 60; refine (isContainer_any _ _).mono ?_; rintro e wq ⟨rfl, rfl⟩; rw [hg]))
      (refine wp_region_ext_lit (by kernel_rfl) (by kernel_rfl) ?_
       repeat (first | go_big_quiet_skip | (go_big_quiet_want; go_big_quiet_op; first | go_big_quiet_on | (apply Exists.intro; refine ⟨fun _ => ?_, ?_⟩; (first | (go_at_call 59; exact quietx (siteOf_any ss _ _ _ _ _ _ _ _ _ _ _ hy.hn (hy.sl.keep (n := w.heap.size) (by repeat (first | exact B_refl | exact Below.refl _ _ | assumption | with_reducible refine B_alloc ?_ _ | with_reducible refine B_ext ?_ _ | with_reducible refine B_drew ?_ | with_reducible refine B_drewN ?_ _ | with_reducible refine B_set ?_ (by simp; omega) _))) (by omega))) | (go_at_call 66; exact quietx (takes_any _ _ _ _ _ _ _ _ _ _ _ _ _ _ _ _ _ _ hc1 hc2))); go_big_quiet_on)))
       refine wpQuiet_nil ?_
       rintro _ ⟨zq, rfl⟩)
      go_wp2_with fail
      go_ret2
      exact Ret.of (by rw [← HT.out]; rfl) (by repeat (first | exact B_refl | exact Below.refl _ _ | assumption | with_reducible refine B_alloc ?_ _ | with_reducible refine B_ext ?_ _ | with_reducible refine B_drew ?_ | with_reducible refine B_drewN ?_ _ | with_reducible refine B_set ?_ (by simp; omega) _))
  · have hX : takesR c0 c1 c2 p l co = (false, de) := by simp only [takesR, hd, hq, if_true]
    rw [hX]
    clear hX hd hr
    go_wp2_with (go_at_call 25; refine (depthOf_any ss rs _ _ _ _ _ _ _ _ _ _ _ _ (hy.keep (m := w.heap.size) (by repeat (first | exact B_refl | exact Below.refl _ _ | assumption | with_reducible refine B_alloc ?_ _ | with_reducible refine B_ext ?_ _ | with_reducible refine B_drew ?_ | with_reducible refine B_drewN ?_ _ | with_reducible refine B_set ?_ (by simp; omega) _)))).mono ?_; rintro e wq ⟨rfl, zq, rfl⟩; rw [HD.out]; unfold ret2)
    go_ret2
    exact Ret.of rfl (by repeat (first | exact B_refl | exact Below.refl _ _ | assumption | with_reducible refine B_alloc ?_ _ | with_reducible refine B_ext ?_ _ | with_reducible refine B_drew ?_ | with_reducible refine B_drewN ?_ _ | with_reducible refine B_set ?_ (by simp; omega) _))
end Go.Proofs.Ytmiobhlgpjjbgaa

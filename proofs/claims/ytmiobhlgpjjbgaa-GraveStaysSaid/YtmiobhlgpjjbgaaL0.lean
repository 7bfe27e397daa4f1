/- Walk: the site with a name in a checked yard. -/
import Derived.Test.YtmiobhlgpjjbgaaW2
namespace Go.Proofs.Ytmiobhlgpjjbgaa
open Go.RowKit
attribute [local go_sem] World.cell?_alloc_mark ext_size ext_cell ext_frozen lt_add_r lt_add_r2 lt_add_r3 lt_add_r4 lt_add_r5 lt_add_r6 lt_add_r7 lt_add_r8
attribute [local go_sem] ext_setCell alloc_setCell_lt

def zeroSite : Site := ⟨⟨#[]⟩, 0, 0, 0, 0, 0⟩
def findR (ss : List Site) (rs : List Rest) (c0 c1 c2 : Int) (nm : ByteArray) : Site × Int :=
  if checkYardP ss rs c0 c1 c2 != 0 then (zeroSite, checkYardP ss rs c0 c1 c2) else
  match findSite nm ss with
  | none => (zeroSite, 6)
  | some s => (s, 0)
theorem findSite_mem {nm : ByteArray} {s : Site} : ∀ {ss : List Site}, findSite nm ss = some s → s ∈ ss
  | [], h => by cases h
  | x :: l, h => by
    unfold findSite at h
    split at h
    · simp only [Option.some.injEq] at h
      subst h
      simp
    · exact List.mem_cons_of_mem _ (findSite_mem h)
theorem sitesP_good {T : Int} : ∀ {l d : List Site}, sitesP T d l = 0 → ∀ s ∈ l, checkSiteP s.name s.kind s.soil s.depth s.step s.room = 0
  | [], _, _, _, h => by cases h
  | x :: l, d, h, s, hs => by
    unfold sitesP at h
    split at h
    · rename_i hx
      rw [h] at hx
      simp at hx
    rename_i hx
    split at h
    · simp at h
    · rcases List.mem_cons.1 hs with rfl | hs
      · simpa using hx
      · exact sitesP_good h s hs
theorem checkSite_room {nm : ByteArray} {k so d st r : Int} (h : checkSiteP nm k so d st r = 0) : 1 ≤ r ∧ r ≤ 12 ∧ 0 ≤ k ∧ k ≤ 3 ∧ 0 ≤ d ∧ d ≤ 1000 ∧ 0 ≤ st ∧ st ≤ 300 := by
  unfold checkSiteP at h
  split at h
  · simp at h
  split at h
  · simp at h
  rename_i h1
  split at h
  · simp at h
  rename_i h2
  simp [inR] at h1 h2
  omega
theorem yard_room {ss : List Site} {rs : List Rest} {c0 c1 c2 : Int} (h : checkYardP ss rs c0 c1 c2 = 0) : ∀ s ∈ ss, checkSiteP s.name s.kind s.soil s.depth s.step s.room = 0 := by
  unfold checkYardP at h
  split at h
  · simp at h
  · exact sitesP_good h
theorem findR_room {ss : List Site} {rs : List Rest} {c0 c1 c2 : Int} {nm : ByteArray} {s : Site} (h : findR ss rs c0 c1 c2 nm = (s, 0)) : 1 ≤ s.room ∧ s.room ≤ 12 := by
  unfold findR at h
  split at h
  · rename_i hx
    simp only [Prod.mk.injEq] at h
    rw [h.2] at hx
    simp at hx
  rename_i hx
  split at h
  · simp at h
  · rename_i s' hs
    simp only [Prod.mk.injEq] at h
    rw [← h.1]
    have := checkSite_room (yard_room (by simpa using hx) s' (findSite_mem hs))
    omega

theorem results_site {fn : Func} {p u : Tmp} (h : fn.results = #[.cell p 32, .tmp u]) (tmps : Array Value) (w : World) (B : Nat) (a : ByteArray) (k so d st r : Int) (x : Value) (hp : tmps.getD p undef = .pointer (some ⟨B, 0, none⟩)) (hx : tmps.getD u undef = x)
    (h0 : w.cell? ⟨B, 0, none⟩ = some (.string a)) (h1 : w.cell? ⟨B, 1, none⟩ = some (.int .i64 k)) (h2 : w.cell? ⟨B, 2, none⟩ = some (.int .i64 so)) (h3 : w.cell? ⟨B, 3, none⟩ = some (.int .i64 d))
    (h4 : w.cell? ⟨B, 4, none⟩ = some (.int .i64 st)) (h5 : w.cell? ⟨B, 5, none⟩ = some (.int .i64 r)) : (results fn tmps).run Try.prog w = .ok (.tuple #[.agg #[.string a, .int .i64 k, .int .i64 so, .int .i64 d, .int .i64 st, .int .i64 r], x]) w := by
  rw [results_cell_tmp h, hp, hx]
  go_simp

set_option maxRecDepth 100000 in
set_option maxHeartbeats 2000000 in
theorem find_any (ss : List Site) (rs : List Rest) (A R : Option Addr) (n c rn rc : Nat) (c0 c1 c2 : Int) (nm : ByteArray) (w : World) (hy : YardIn w ss rs A n c R rn rc) (a : ByteArray) (k so d st r er : Int) (hr : findR ss rs c0 c1 c2 nm = (⟨a, k, so, d, st, r⟩, er)) :
    Calls Try.prog 64 #[.agg #[.slice A n c, .slice R rn rc, .int .i64 c0, .int .i64 c1, .int .i64 c2], .string nm] w (Ret w (.tuple #[.agg #[.string a, .int .i64 k, .int .i64 so, .int .i64 d, .int .i64 st, .int .i64 r], .int .i64 er])) := by
  have hres := site_res hy.sl nm
  have hln := hy.hn
  subst hln
  have hl1 := hy.l1
  go_enter Try.func64, Try.ntmps64
  cases hc : (checkYardP ss rs c0 c1 c2 != 0)
  · cases hf : findSite nm ss with
    | none =>
      rw [hf] at hres
      have hp : sitePtr A nm ss = none := hres
      rw [findR, hc, if_neg Bool.false_ne_true, hf] at hr
      simp only [zeroSite, Prod.mk.injEq, Site.mk.injEq] at hr
      obtain ⟨⟨rfl, rfl, rfl, rfl, rfl, rfl⟩, rfl⟩ := hr
      clear hres hf
      go_wp2_with (first
        | (go_at_call 16; refine (checkYard_any ss rs _ _ _ _ _ _ _ _ _ _ hy.hn hy.hrn (hy.sl.keep (n := w.heap.size) (by repeat (first | exact B_refl | exact Below.refl _ _ | assumption | with_reducible refine B_alloc ?_ _ | with_reducible refine B_ext ?_ _ | with_reducible refine B_drew ?_ | with_reducible refine B_drewN ?_ _ | with_reducible refine B_set ?_ (by simp; omega) _))) (hy.sr.keep (n := w.heap.size) (by repeat (first | exact B_refl | exact Below.refl _ _ | assumption | with_reducible refine B_alloc ?_ _ | with_reducible refine B_ext ?_ _ | with_reducible refine B_drew ?_ | with_reducible refine B_drewN ?_ _ | with_reducible refine B_set ?_ (by simp; omega) _))) hy.cap hy.l1 hy.l2 hy.sh).mono ?_; rintro e wq ⟨rfl, zq, rfl⟩)
        | (go_at_call 59; refine (siteOf_any ss _ _ _ _ _ _ _ _ _ _ _ hy.hn (hy.sl.keep (n := w.heap.size) (by repeat (first | exact B_refl | exact Below.refl _ _ | assumption | with_reducible refine B_alloc ?_ _ | with_reducible refine B_ext ?_ _ | with_reducible refine B_drew ?_ | with_reducible refine B_drewN ?_ _ | with_reducible refine B_set ?_ (by simp; omega) _))) (by omega)).mono ?_; rintro e wq ⟨rfl, zq, rfl⟩))
      refine bodyPost_ret (v := .tuple #[.agg #[.string ⟨#[]⟩, .int .i64 0, .int .i64 0, .int .i64 0, .int .i64 0, .int .i64 0], .int .i64 6]) (results_site rfl _ _ (w.heap.size + 1) _ _ _ _ _ _ _ rfl rfl (by simp [go_sem]) (by simp [go_sem]) (by simp [go_sem]) (by simp [go_sem]) (by simp [go_sem]) (by simp [go_sem])) rfl ?_
      exact Ret.of rfl (by repeat (first | exact B_refl | exact Below.refl _ _ | assumption | with_reducible refine B_alloc ?_ _ | with_reducible refine B_ext ?_ _ | with_reducible refine B_drew ?_ | with_reducible refine B_drewN ?_ _ | with_reducible refine B_set ?_ (by simp; omega) _))
    | some s =>
      rw [hf] at hres
      rw [findR, hc, if_neg Bool.false_ne_true, hf] at hr
      simp only [Prod.mk.injEq] at hr
      obtain ⟨rfl, rfl⟩ := hr
      obtain ⟨b, off, hp, hb, hcs⟩ := hres
      have x0 : w.cell? ⟨b, off, none⟩ = some (.string a) := hcs 0 _ rfl
      have x1 : w.cell? ⟨b, off + 1, none⟩ = some (.int .i64 k) := hcs 1 _ rfl
      have x2 : w.cell? ⟨b, off + 2, none⟩ = some (.int .i64 so) := hcs 2 _ rfl
      have x3 : w.cell? ⟨b, off + 3, none⟩ = some (.int .i64 d) := hcs 3 _ rfl
      have x4 : w.cell? ⟨b, off + 4, none⟩ = some (.int .i64 st) := hcs 4 _ rfl
      have x5 : w.cell? ⟨b, off + 5, none⟩ = some (.int .i64 r) := hcs 5 _ rfl
      clear hcs hf
      go_wp2_with (first
        | (go_at_call 16; refine (checkYard_any ss rs _ _ _ _ _ _ _ _ _ _ hy.hn hy.hrn (hy.sl.keep (n := w.heap.size) (by repeat (first | exact B_refl | exact Below.refl _ _ | assumption | with_reducible refine B_alloc ?_ _ | with_reducible refine B_ext ?_ _ | with_reducible refine B_drew ?_ | with_reducible refine B_drewN ?_ _ | with_reducible refine B_set ?_ (by simp; omega) _))) (hy.sr.keep (n := w.heap.size) (by repeat (first | exact B_refl | exact Below.refl _ _ | assumption | with_reducible refine B_alloc ?_ _ | with_reducible refine B_ext ?_ _ | with_reducible refine B_drew ?_ | with_reducible refine B_drewN ?_ _ | with_reducible refine B_set ?_ (by simp; omega) _))) hy.cap hy.l1 hy.l2 hy.sh).mono ?_; rintro e wq ⟨rfl, zq, rfl⟩)
        | (go_at_call 59; refine (siteOf_any ss _ _ _ _ _ _ _ _ _ _ _ hy.hn (hy.sl.keep (n := w.heap.size) (by repeat (first | exact B_refl | exact Below.refl _ _ | assumption | with_reducible refine B_alloc ?_ _ | with_reducible refine B_ext ?_ _ | with_reducible refine B_drew ?_ | with_reducible refine B_drewN ?_ _ | with_reducible refine B_set ?_ (by simp; omega) _))) (by omega)).mono ?_; rintro e wq ⟨rfl, zq, rfl⟩))
      refine bodyPost_ret (v := .tuple #[.agg #[.string a, .int .i64 k, .int .i64 so, .int .i64 d, .int .i64 st, .int .i64 r], .int .i64 0]) (results_site rfl _ _ (w.heap.size + 1) _ _ _ _ _ _ _ rfl rfl (by simp [go_sem]) (by simp [go_sem]) (by simp [go_sem]) (by simp [go_sem]) (by simp [go_sem]) (by simp [go_sem])) rfl ?_
      exact Ret.of rfl (by repeat (first | exact B_refl | exact Below.refl _ _ | assumption | with_reducible refine B_alloc ?_ _ | with_reducible refine B_ext ?_ _ | with_reducible refine B_drew ?_ | with_reducible refine B_drewN ?_ _ | with_reducible refine B_set ?_ (by simp; omega) _))
  · rw [findR, if_pos hc] at hr
    simp only [zeroSite, Prod.mk.injEq, Site.mk.injEq] at hr
    obtain ⟨⟨rfl, rfl, rfl, rfl, rfl, rfl⟩, rfl⟩ := hr
    go_wp2_with (go_at_call 16; refine (checkYard_any ss rs _ _ _ _ _ _ _ _ _ _ hy.hn hy.hrn (hy.sl.keep (n := w.heap.size) (by repeat (first | exact B_refl | exact Below.refl _ _ | assumption | with_reducible refine B_alloc ?_ _ | with_reducible refine B_ext ?_ _ | with_reducible refine B_drew ?_ | with_reducible refine B_drewN ?_ _ | with_reducible refine B_set ?_ (by simp; omega) _))) (hy.sr.keep (n := w.heap.size) (by repeat (first | exact B_refl | exact Below.refl _ _ | assumption | with_reducible refine B_alloc ?_ _ | with_reducible refine B_ext ?_ _ | with_reducible refine B_drew ?_ | with_reducible refine B_drewN ?_ _ | with_reducible refine B_set ?_ (by simp; omega) _))) hy.cap hy.l1 hy.l2 hy.sh).mono ?_; rintro e wq ⟨rfl, zq, rfl⟩)
    refine bodyPost_ret (v := .tuple #[.agg #[.string ⟨#[]⟩, .int .i64 0, .int .i64 0, .int .i64 0, .int .i64 0, .int .i64 0], .int .i64 (checkYardP ss rs c0 c1 c2)]) (results_site rfl _ _ (w.heap.size + 1) _ _ _ _ _ _ _ rfl rfl (by simp [go_sem]) (by simp [go_sem]) (by simp [go_sem]) (by simp [go_sem]) (by simp [go_sem]) (by simp [go_sem])) rfl ?_
    exact Ret.of rfl (by repeat (first | exact B_refl | exact Below.refl _ _ | assumption | with_reducible refine B_alloc ?_ _ | with_reducible refine B_ext ?_ _ | with_reducible refine B_drew ?_ | with_reducible refine B_drewN ?_ _ | with_reducible refine B_set ?_ (by simp; omega) _))

end Go.Proofs.Ytmiobhlgpjjbgaa

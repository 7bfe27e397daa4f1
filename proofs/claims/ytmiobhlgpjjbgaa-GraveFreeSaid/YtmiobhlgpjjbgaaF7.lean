/- Walk: the first free level of a site. -/
import Derived.Test.YtmiobhlgpjjbgaaF8
import Derived.Stop.RegionWithIn
namespace Go.Proofs.Ytmiobhlgpjjbgaa
open Go.RowKit Go.Shelf
attribute [local go_sem] World.cell?_alloc_mark ext_size ext_cell ext_frozen lt_add_r lt_add_r2 lt_add_r3 lt_add_r4 lt_add_r5 lt_add_r6 lt_add_r7 lt_add_r8
attribute [local go_sem] Oper.semAt_some

def firstL (lv : Int) (l : List Int) : Int × Int := match l.find? fun x => decide (lv ≤ x) with | none => (0, 16) | some x => (x, 0)
def firstFreeR (p : Bk × Int) (u : Bk) (ss : List Site) (nm : ByteArray) (lv co day : Int) : Int × Int :=
  if wsErr p ss nm != 0 then (0, wsErr p ss nm) else
  match findSite nm ss with
  | none => (0, 0)
  | some s => if !inR lv 0 (s.room - 1) || !inR co 0 2 || !inR day 0 200000 then (0, 2) else firstL lv (freeTo u ss nm co s.room.toNat)
theorem results_cc {fn : Func} {p q : Tmp} {a b : TypeId} (h : fn.results = #[.cell p a, .cell q b]) (tmps : Array Value) (P : Program) (w : World) :
    (results fn tmps).run P w = ((asAddr (tmps.getD p undef)).run P w).andThen fun x w₁ => ((loadVar a x).run P w₁).andThen fun v w₂ => ((asAddr (tmps.getD q undef)).run P w₂).andThen fun y w₃ => ((loadVar b y).run P w₃).andThen fun u w₄ => .ok (.tuple #[v, u]) w₄ := by
  simp only [results, h]
  simp [Sem.run_bind, Result.andThen]
theorem results_ii {fn : Func} {p q : Tmp} (h : fn.results = #[.cell p 3, .cell q 29]) (tmps : Array Value) (w : World) (B C : Nat) (x y : Int) (hp : tmps.getD p undef = .pointer (some ⟨B, 0, none⟩)) (hq : tmps.getD q undef = .pointer (some ⟨C, 0, none⟩))
    (h0 : w.cell? ⟨B, 0, none⟩ = some (.int .i64 x)) (h1 : w.cell? ⟨C, 0, none⟩ = some (.int .i64 y)) : (results fn tmps).run Try.prog w = .ok (.tuple #[.int .i64 x, .int .i64 y]) w := by
  rw [results_cc h, hp, hq]
  go_simp

set_option maxRecDepth 100000 in
set_option maxHeartbeats 2000000 in
theorem gFirst_in (ss : List Site) (rs : List Rest) (A R : Option Addr) (n c rn rc : Nat) (c0 c1 c2 : Int) (es : List Event) (L : Option Addr) (ln lc : Nat) (nm : ByteArray) (lv co day : Int) (w : World) (hy : YardIn w ss rs A n c R rn rc) (hev : EventsIn w es L ln) :
    CallsIn Fence.wide 9 Try.prog 35 #[.agg #[.slice A n c, .slice R rn rc, .int .i64 c0, .int .i64 c1, .int .i64 c2], .slice L ln lc, .agg #[.string nm, .int .i64 lv], .int .i64 co, .int .i64 day] w (Ret w (ret2 (firstFreeR (readP ss rs (bk0 A n c R rn rc c0 c1 c2) es) (upToP ss rs day (bk0 A n c R rn rc c0 c1 c2) es) ss nm lv co day))) := by
  have HW := fun W h1 h2 => withSite_any ss rs A R n c rn rc c0 c1 c2 es L ln lc nm W h1 h2
  have HU := fun W h1 h2 h3 h4 h5 => upTo_any ss rs A R n c rn rc c0 c1 c2 es L ln lc day W h1 h2 h3 h4 h5
  have hsm := fun h => readP_small (ss := ss) (rs := rs) (k := bk0 A n c R rn rc c0 c1 c2) (es := es) h
  have hrm := fun h => readP_rooms (ss := ss) (rs := rs) (A := A) (R := R) (n := n) (c := c) (rn := rn) (rc := rc) (c0 := c0) (c1 := c1) (c2 := c2) (es := es) h
  generalize readP ss rs (bk0 A n c R rn rc c0 c1 c2) es = p at *
  generalize upToP ss rs day (bk0 A n c R rn rc c0 c1 c2) es = u at *
  refine callsIn_of_wp_marks Try.func35 rfl trivial ?_ rfl
  simp only [Try.ntmps35, List.size_toArray, List.length_cons, List.length_nil, Nat.reduceAdd, Nat.reduceSub, Array.replicate_succ, Array.replicate_zero, List.push_toArray, List.append_toArray, List.nil_append, List.cons_append]
  cases hq : (wsErr p ss nm != 0)
  · have HQ := Lib.hid hq
    obtain ⟨s, hf⟩ := wsErr_some hq
    have HF := Lib.hid hf
    have hnm := findSite_name hf
    have hr := hrm (wsErr_zero hq) s (findSite_mem hf)
    obtain ⟨hs1, hs2, hs3⟩ := hsm (wsErr_zero hq)
    have HX : Hid (firstFreeR p u ss nm lv co day = if !inR lv 0 (s.room - 1) || !inR co 0 2 || !inR day 0 200000 then (0, 2) else firstL lv (freeTo u ss nm co s.room.toNat)) := by
      show _ = _
      unfold firstFreeR
      rw [hq, hf]
      simp
    clear hq hf hrm hsm
    obtain ⟨a, kd, so, d, st, r⟩ := s
    dsimp only at hnm HX hr
    subst hnm
    generalize firstFreeR p u ss a lv co day = Y at *
    obtain ⟨hr1, hr2⟩ := hr
    cases hg0 : inR lv 0 (r - 1)
    · have HY : Hid (Y = (0, 2)) := by show _ = _; rw [HX.out, hg0]; rfl
      gi_wp2_with (first | (refine ⟨trivial, ?_⟩; gi_at_call 70; refine (callsIn_wide.2 (HW _ (hy.keep (by repeat (first | exact B_refl | exact Below.refl _ _ | assumption | with_reducible refine B_alloc ?_ _ | with_reducible refine B_ext ?_ _ | with_reducible refine B_drew ?_ | with_reducible refine B_drewN ?_ _ | with_reducible refine B_set ?_ (by simp; omega) _))) (hev.keep (by repeat (first | exact B_refl | exact Below.refl _ _ | assumption | with_reducible refine B_alloc ?_ _ | with_reducible refine B_ext ?_ _ | with_reducible refine B_drew ?_ | with_reducible refine B_drewN ?_ _ | with_reducible refine B_set ?_ (by simp; omega) _))))).mono ?_; intro e wq hpq; obtain ⟨base, bb, rfl, hbs, henv, zq, rfl⟩ := hpq.ok HQ.out HF.out; clear hpq; unfold Site.v) | (refine ⟨trivial, ?_⟩; gi_at_call 60; refine (callsIn_wide.2 (isContainer_any _ _)).mono ?_; rintro e wq ⟨rfl, rfl⟩; rw [hg1]) | (refine ⟨trivial, ?_⟩; gi_at_call 67; refine (callsIn_wide.2 (isDay_any _ _)).mono ?_; rintro e wq ⟨rfl, rfl⟩; rw [hg2]) | (refine ⟨trivial, ?_⟩; gi_at_call 56; refine (callsIn_wide.2 (within_any _ _ _ _)).mono ?_; rintro e wq ⟨rfl, rfl⟩; rw [hg0]) | (refine ⟨trivial, ?_⟩; gi_wp2))
      refine leaves_none (.tuple #[.int .i64 0, .int .i64 2]) (results_ii rfl _ _ (w.heap.size + 1 + 1) (w.heap.size + 1 + 1 + 1) _ _ rfl rfl (by simp [go_sem]) (by simp [go_sem])) ?_
      exact Ret.of (by rw [HY.out]; rfl) (by repeat (first | exact B_refl | exact Below.refl _ _ | assumption | with_reducible refine B_alloc ?_ _ | with_reducible refine B_ext ?_ _ | with_reducible refine B_drew ?_ | with_reducible refine B_drewN ?_ _ | with_reducible refine B_set ?_ (by simp; omega) _))
    cases hg1 : inR co 0 2
    · have HY : Hid (Y = (0, 2)) := by show _ = _; rw [HX.out, hg0, hg1]; rfl
      gi_wp2_with (first | (refine ⟨trivial, ?_⟩; gi_at_call 70; refine (callsIn_wide.2 (HW _ (hy.keep (by repeat (first | exact B_refl | exact Below.refl _ _ | assumption | with_reducible refine B_alloc ?_ _ | with_reducible refine B_ext ?_ _ | with_reducible refine B_drew ?_ | with_reducible refine B_drewN ?_ _ | with_reducible refine B_set ?_ (by simp; omega) _))) (hev.keep (by repeat (first | exact B_refl | exact Below.refl _ _ | assumption | with_reducible refine B_alloc ?_ _ | with_reducible refine B_ext ?_ _ | with_reducible refine B_drew ?_ | with_reducible refine B_drewN ?_ _ | with_reducible refine B_set ?_ (by simp; omega) _))))).mono ?_; intro e wq hpq; obtain ⟨base, bb, rfl, hbs, henv, zq, rfl⟩ := hpq.ok HQ.out HF.out; clear hpq; unfold Site.v) | (refine ⟨trivial, ?_⟩; gi_at_call 60; refine (callsIn_wide.2 (isContainer_any _ _)).mono ?_; rintro e wq ⟨rfl, rfl⟩; rw [hg1]) | (refine ⟨trivial, ?_⟩; gi_at_call 67; refine (callsIn_wide.2 (isDay_any _ _)).mono ?_; rintro e wq ⟨rfl, rfl⟩; rw [hg2]) | (refine ⟨trivial, ?_⟩; gi_at_call 56; refine (callsIn_wide.2 (within_any _ _ _ _)).mono ?_; rintro e wq ⟨rfl, rfl⟩; rw [hg0]) | (refine ⟨trivial, ?_⟩; gi_wp2))
      refine leaves_none (.tuple #[.int .i64 0, .int .i64 2]) (results_ii rfl _ _ (w.heap.size + 1 + 1) (w.heap.size + 1 + 1 + 1) _ _ rfl rfl (by simp [go_sem]) (by simp [go_sem])) ?_
      exact Ret.of (by rw [HY.out]; rfl) (by repeat (first | exact B_refl | exact Below.refl _ _ | assumption | with_reducible refine B_alloc ?_ _ | with_reducible refine B_ext ?_ _ | with_reducible refine B_drew ?_ | with_reducible refine B_drewN ?_ _ | with_reducible refine B_set ?_ (by simp; omega) _))
    cases hg2 : inR day 0 200000
    · have HY : Hid (Y = (0, 2)) := by show _ = _; rw [HX.out, hg0, hg1, hg2]; rfl
      gi_wp2_with (first | (refine ⟨trivial, ?_⟩; gi_at_call 70; refine (callsIn_wide.2 (HW _ (hy.keep (by repeat (first | exact B_refl | exact Below.refl _ _ | assumption | with_reducible refine B_alloc ?_ _ | with_reducible refine B_ext ?_ _ | with_reducible refine B_drew ?_ | with_reducible refine B_drewN ?_ _ | with_reducible refine B_set ?_ (by simp; omega) _))) (hev.keep (by repeat (first | exact B_refl | exact Below.refl _ _ | assumption | with_reducible refine B_alloc ?_ _ | with_reducible refine B_ext ?_ _ | with_reducible refine B_drew ?_ | with_reducible refine B_drewN ?_ _ | with_reducible refine B_set ?_ (by simp; omega) _))))).mono ?_; intro e wq hpq; obtain ⟨base, bb, rfl, hbs, henv, zq, rfl⟩ := hpq.ok HQ.out HF.out; clear hpq; unfold Site.v) | (refine ⟨trivial, ?_⟩; gi_at_call 60; refine (callsIn_wide.2 (isContainer_any _ _)).mono ?_; rintro e wq ⟨rfl, rfl⟩; rw [hg1]) | (refine ⟨trivial, ?_⟩; gi_at_call 67; refine (callsIn_wide.2 (isDay_any _ _)).mono ?_; rintro e wq ⟨rfl, rfl⟩; rw [hg2]) | (refine ⟨trivial, ?_⟩; gi_at_call 56; refine (callsIn_wide.2 (within_any _ _ _ _)).mono ?_; rintro e wq ⟨rfl, rfl⟩; rw [hg0]) | (refine ⟨trivial, ?_⟩; gi_wp2))
      refine leaves_none (.tuple #[.int .i64 0, .int .i64 2]) (results_ii rfl _ _ (w.heap.size + 1 + 1) (w.heap.size + 1 + 1 + 1) _ _ rfl rfl (by simp [go_sem]) (by simp [go_sem])) ?_
      exact Ret.of (by rw [HY.out]; rfl) (by repeat (first | exact B_refl | exact Below.refl _ _ | assumption | with_reducible refine B_alloc ?_ _ | with_reducible refine B_ext ?_ _ | with_reducible refine B_drew ?_ | with_reducible refine B_drewN ?_ _ | with_reducible refine B_set ?_ (by simp; omega) _))
    have HY : Hid (Y = firstL lv (freeTo u ss a co r.toNat)) := by show _ = _; rw [HX.out, hg0, hg1, hg2]; rfl
    have hcc : 0 ≤ co ∧ co ≤ 2 := by simp [inR] at hg1; exact hg1
    have HC := Lib.hid hcc
    clear HX hcc
    gi_wp2_with (first | (refine ⟨trivial, ?_⟩; gi_at_call 70; refine (callsIn_wide.2 (HW _ (hy.keep (by repeat (first | exact B_refl | exact Below.refl _ _ | assumption | with_reducible refine B_alloc ?_ _ | with_reducible refine B_ext ?_ _ | with_reducible refine B_drew ?_ | with_reducible refine B_drewN ?_ _ | with_reducible refine B_set ?_ (by simp; omega) _))) (hev.keep (by repeat (first | exact B_refl | exact Below.refl _ _ | assumption | with_reducible refine B_alloc ?_ _ | with_reducible refine B_ext ?_ _ | with_reducible refine B_drew ?_ | with_reducible refine B_drewN ?_ _ | with_reducible refine B_set ?_ (by simp; omega) _))))).mono ?_; intro e wq hpq; obtain ⟨base, bb, rfl, hbs, henv, zq, rfl⟩ := hpq.ok HQ.out HF.out; clear hpq; unfold Site.v) | (refine ⟨trivial, ?_⟩; gi_at_call 60; refine (callsIn_wide.2 (isContainer_any _ _)).mono ?_; rintro e wq ⟨rfl, rfl⟩; rw [hg1]) | (refine ⟨trivial, ?_⟩; gi_at_call 67; refine (callsIn_wide.2 (isDay_any _ _)).mono ?_; rintro e wq ⟨rfl, rfl⟩; rw [hg2]) | (refine ⟨trivial, ?_⟩; gi_at_call 56; refine (callsIn_wide.2 (within_any _ _ _ _)).mono ?_; rintro e wq ⟨rfl, rfl⟩; rw [hg0]) | (refine ⟨trivial, ?_⟩; gi_wp2))
    refine wpIn_mono (Q := NoPanic _) ?_ NoPanic.imp
    gi_region_with (first
      | (refine ⟨trivial, ?_⟩; gi_at_call 68; refine (callsIn_wide.2 (HU _ (hy.keep (m := w.heap.size) (by repeat (first | exact B_refl | exact Below.refl _ _ | assumption | with_reducible refine B_alloc ?_ _ | with_reducible refine B_ext ?_ _ | with_reducible refine B_drew ?_ | with_reducible refine B_drewN ?_ _ | with_reducible refine B_set ?_ (by simp; omega) _))) (hev.keep (m := w.heap.size) (by repeat (first | exact B_refl | exact Below.refl _ _ | assumption | with_reducible refine B_alloc ?_ _ | with_reducible refine B_ext ?_ _ | with_reducible refine B_drew ?_ | with_reducible refine B_drewN ?_ _ | with_reducible refine B_set ?_ (by simp; omega) _))) hs1 hs2 hs3)).mono ?_; rintro e wq ⟨base2, b2, rfl, hbs2, henv2, z2, rfl⟩)
      | (refine ⟨trivial, ?_⟩; gi_at_call 69; refine (callsIn_wide.2 (free_any _ _ _ _ _ _ _ _ _)).mono ?_; rintro e wq ⟨rfl, rfl⟩))
    all_goals refine NoPanic.normal ?_
    all_goals
      obtain ⟨hc1, hc2⟩ := HC.out
      gi_wp2
      generalize hWe : World.ext (World.drew (World.alloc (World.ext ((((w.alloc (.cells #[.slice A n c, .slice R rn rc, .int .i64 c0, .int .i64 c1, .int .i64 c2] 26)).alloc (.cells #[.string a, .int .i64 lv] 54)).alloc (.cells #[.int .i64 0] 3)).alloc (.cells #[.int .i64 0] 29)) zq) (.cells #[.string a, .int .i64 kd, .int .i64 so, .int .i64 d, .int .i64 st, .int .i64 r] 32))) z2 = We at *
      have hBe : Below w.heap.size w We := by rw [← hWe]; repeat (first | exact B_refl | exact Below.refl _ _ | assumption | with_reducible refine B_alloc ?_ _ | with_reducible refine B_ext ?_ _ | with_reducible refine B_drew ?_ | with_reducible refine B_drewN ?_ _ | with_reducible refine B_set ?_ (by simp; omega) _)
      have e1 : We.heap[w.heap.size + 1]? = some (.cells #[.string a, .int .i64 lv] 54 (0, 0)) := by rw [← hWe]; (repeat (first | with_reducible exact G_new _ _ _ (by simp) | with_reducible exact G_new _ _ _ (by simp [ext_size]) | with_reducible refine G_drew ?_ | with_reducible refine G_ext ?_ | with_reducible refine G_alloc ?_))
      have e2 : We.heap[w.heap.size + 1 + 1]? = some (.cells #[.int .i64 0] 3 (0, 0)) := by rw [← hWe]; (repeat (first | with_reducible exact G_new _ _ _ (by simp) | with_reducible exact G_new _ _ _ (by simp [ext_size]) | with_reducible refine G_drew ?_ | with_reducible refine G_ext ?_ | with_reducible refine G_alloc ?_))
      have e3 : We.heap[w.heap.size + 1 + 1 + 1]? = some (.cells #[.int .i64 0] 29 (0, 0)) := by rw [← hWe]; (repeat (first | with_reducible exact G_new _ _ _ (by simp) | with_reducible exact G_new _ _ _ (by simp [ext_size]) | with_reducible refine G_drew ?_ | with_reducible refine G_ext ?_ | with_reducible refine G_alloc ?_))
      have hse : w.heap.size + 1 + 1 + 1 + 1 + zq.os.size + 1 + z2.os.size = We.heap.size := by rw [← hWe]; simp [ext_size]
      simp only [hse]
      clear hWe
      generalize hq : We.heap.size = q at *
      generalize hW3 : ((We.alloc (.cells #[.pointer (some ⟨b2, 0, none⟩)] 115)).alloc (.cells #[.string a, .int .i64 kd, .int .i64 so, .int .i64 d, .int .i64 st, .int .i64 r] 32)).alloc (.cells #[.int .i64 co] 3) = W3
      have hz3 : W3.heap.size = q + 3 := by rw [← hW3]; simp [hq]
      have s1 : W3.heap[q]? = some (.cells #[.pointer (some ⟨b2, 0, none⟩)] 115 (0, 0)) := by rw [← hW3, ← hq]; (repeat (first | with_reducible exact G_new _ _ _ (by simp) | with_reducible exact G_new _ _ _ (by simp [ext_size]) | with_reducible refine G_drew ?_ | with_reducible refine G_ext ?_ | with_reducible refine G_alloc ?_))
      have s2 : W3.heap[q + 1]? = some (.cells #[.string a, .int .i64 kd, .int .i64 so, .int .i64 d, .int .i64 st, .int .i64 r] 32 (0, 0)) := by rw [← hW3, ← hq]; (repeat (first | with_reducible exact G_new _ _ _ (by simp) | with_reducible exact G_new _ _ _ (by simp [ext_size]) | with_reducible refine G_drew ?_ | with_reducible refine G_ext ?_ | with_reducible refine G_alloc ?_))
      have s3 : W3.heap[q + 2]? = some (.cells #[.int .i64 co] 3 (0, 0)) := by rw [← hW3]; exact G_new _ _ _ (by simp [hq])
      have hB3 : Below q We W3 := by rw [← hW3, ← hq]; repeat (first | exact B_refl | exact Below.refl _ _ | assumption | with_reducible refine B_alloc ?_ _ | with_reducible refine B_ext ?_ _ | with_reducible refine B_drew ?_ | with_reducible refine B_drewN ?_ _ | with_reducible refine B_set ?_ (by simp; omega) _)
      clear hW3
      have HE1 := Lib.hid e1
      have HE2 := Lib.hid e2
      have HE3 := Lib.hid e3
      clear e1 e2 e3 henv hbs hbs2 HU
      refine wpIn_range_bound rfl (by omega) (gf := 85) (lf := #[]) (lb := #[.pointer (some ⟨q + 1, 0, none⟩), .pointer (some ⟨q, 0, none⟩), .pointer (some ⟨q + 2, 0, none⟩)]) rfl trivial (enters_of Try.func85 (by kernel_rfl) rfl)
        (free1_seq (9 - 1) (by omega) q base2 b2 (q + 1) q (q + 2) u ss rs a kd so d st r co We W3 henv2 (by omega) (by omega) hB3 s2 s1 s3 (by omega) hc1 hc2) Kf.trans
        (fun W l o o' hl ho _ _ => Kf.put W o o' (by omega) (by omega) (by omega) (by omega)) (Below.refl _ _) (fun _ => rfl)
        (fun pre W => (pre.find? fun x => decide (lv ≤ x)) = none ∧ (W.heap[q]? = some (.cells #[.pointer (some ⟨b2, 0, none⟩)] 115 (0, 0)) ∧ W.heap[q + 1]? = some (.cells #[.string a, .int .i64 kd, .int .i64 so, .int .i64 d, .int .i64 st, .int .i64 r] 32 (0, 0)) ∧ W.heap[q + 2]? = some (.cells #[.int .i64 co] 3 (0, 0))) ∧ Below q We W)
        (fun c pre W => (∃ x, c = .ret ∧ (pre.find? fun x => decide (lv ≤ x)) = some x ∧ W.heap[w.heap.size + 1 + 1]? = some (.cells #[.int .i64 x] 3 (0, 0)) ∧ W.heap[w.heap.size + 1 + 1 + 1]? = some (.cells #[.int .i64 0] 29 (0, 0))) ∧ Below w.heap.size w W)
        (fun s A B row hs hg hr => ⟨hs.1, ⟨blk_own hs.2.1.1 hg (fun r e => (hr r e).2), blk_own hs.2.1.2.1 hg (fun r e => (hr r e).2), blk_own hs.2.1.2.2 hg (fun r e => (hr r e).2)⟩, hs.2.2.grown hg (by have := hs.2.2.size; omega) (fun r e => by have := (hr r e).1; omega)⟩)
        (fun cc s A B row hs hg hr => ⟨by obtain ⟨⟨x, h1, h2, h3, h4⟩, _⟩ := hs; exact ⟨x, h1, h2, blk_own h3 hg (fun r e => (hr r e).2), blk_own h4 hg (fun r e => (hr r e).2)⟩, hs.2.grown hg (by have := hs.2.size; omega) (fun r e => by have := (hr r e).1; have := hBe.size; omega)⟩) ⟨rfl, ⟨s1, s2, s3⟩, hB3⟩
        (fun x a' _ => ∃ u55 u56 u57 u58 u59, a' = { tmps := #[.agg #[.slice A n c, .slice R rn rc, .int .i64 c0, .int .i64 c1, .int .i64 c2], .slice L ln lc, .agg #[.string a, .int .i64 lv], .int .i64 co, .int .i64 day, .pointer (some ⟨w.heap.size, 0, none⟩), undef, .pointer (some ⟨w.heap.size + 1, 0, none⟩), undef, undef, .pointer (some ⟨w.heap.size + 1 + 1, 0, none⟩), .pointer (some ⟨w.heap.size + 1 + 1 + 1, 0, none⟩), .pointer (some ⟨bb, 0, none⟩), .pointer (some ⟨w.heap.size + 1 + 1 + 1 + 1 + zq.os.size, 0, none⟩), .int .i64 0, .int .i64 x, .tuple #[.pointer (some ⟨bb, 0, none⟩), .agg #[.string a, .int .i64 kd, .int .i64 so, .int .i64 d, .int .i64 st, .int .i64 r], .int .i64 0], .agg #[.slice A n c, .slice R rn rc, .int .i64 c0, .int .i64 c1, .int .i64 c2], .slice L ln lc, .pointer (some ⟨w.heap.size + 1, 0, none⟩), .string a, .tuple #[.pointer (some ⟨bb, 0, none⟩), .agg #[.string a, .int .i64 kd, .int .i64 so, .int .i64 d, .int .i64 st, .int .i64 r], .int .i64 0], .pointer (some ⟨bb, 0, none⟩), .agg #[.string a, .int .i64 kd, .int .i64 so, .int .i64 d, .int .i64 st, .int .i64 r], .int .i64 0, .bool false, .int .i64 0, .bool false, undef, .bool false, .pointer (some ⟨w.heap.size + 1, 1, none⟩), .int .i64 lv, .pointer (some ⟨w.heap.size + 1 + 1 + 1 + 1 + zq.os.size, 5, none⟩), .int .i64 r, .int .i64 (r - 1), .bool true, .bool false, .bool false, .int .i64 co, .bool true, .bool false, .bool false, .bool false, .int .i64 day, .bool true, .bool false, .bool false, .agg #[.slice A n c, .slice R rn rc, .int .i64 c0, .int .i64 c1, .int .i64 c2], .slice L ln lc, .int .i64 day, .pointer (some ⟨b2, 0, none⟩), .agg #[.string a, .int .i64 kd, .int .i64 so, .int .i64 d, .int .i64 st, .int .i64 r], .int .i64 co, .func (.func 85) #[] #[.pointer (some ⟨q + 1, 0, none⟩), .pointer (some ⟨q, 0, none⟩), .pointer (some ⟨q + 2, 0, none⟩)], .int .i64 x, u55, u56, u57, u58, u59], defers := [] }) (fun x a' s A B row hs _ _ => hs) ?assign ?body ?done ?stop
      case assign =>
        rintro l pre x W K hi hK
        gi_wp2
        exact hK _ _ (KeepsFrom.refl _ _) (Kf.refl _ _ _ _ _) hi ⟨_, _, _, _, _, rfl⟩
      case body =>
        rintro l pre x a' W hWl _ ⟨hf, ⟨y1, y2, y3⟩, hBW⟩ ⟨u55, u56, u57, u58, u59, rfl⟩ hlen
        have hz := hBe.size
        have b1 := (hBW.block (w.heap.size + 1) (by omega)).trans HE1.out
        have b2' := (hBW.block (w.heap.size + 1 + 1) (by omega)).trans HE2.out
        have b3 := (hBW.block (w.heap.size + 1 + 1 + 1) (by omega)).trans HE3.out
        have c1' : W.cell? ⟨w.heap.size + 1, 1, none⟩ = some (.int .i64 lv) := by simp [World.cell?, b1]
        have c2' : W.cell? ⟨w.heap.size + 1 + 1, 0, none⟩ = some (.int .i64 0) := by simp [World.cell?, b2']
        have c3' : W.cell? ⟨w.heap.size + 1 + 1 + 1, 0, none⟩ = some (.int .i64 0) := by simp [World.cell?, b3]
        have f2' : W.frozen? ⟨w.heap.size + 1 + 1, 0, none⟩ = false := by simp [World.frozen?, b2']
        have f3' : W.frozen? ⟨w.heap.size + 1 + 1 + 1, 0, none⟩ = false := by simp [World.frozen?, b3]
        have HFN := Lib.hid hf
        have Y1 := Lib.hid y1
        have Y2 := Lib.hid y2
        have Y3 := Lib.hid y3
        have HB2 := Lib.hid b2'
        have HB3 := Lib.hid b3
        clear hf y1 y2 y3 b1 b2' b3
        by_cases hx : lv ≤ x
        · gi_wp2
          have g2 := Boxed.set (.int .i64 x) HB2.out
          have g3 : (W.setCell ⟨w.heap.size + 1 + 1, 0, none⟩ (.int .i64 x)).heap[w.heap.size + 1 + 1 + 1]? = some (.cells #[.int .i64 0] 29 (0, 0)) := (heap_setCell_other W ⟨w.heap.size + 1 + 1, 0, none⟩ _ _ (by simp)).trans HB3.out
          refine ⟨((KeepsOthers.setCell _ _ _).from _).trans ((KeepsOthers.setCell _ _ _).from _), ⟨x, rfl, by rw [List.find?_append, HFN.out]; simp [hx], (heap_setCell_other _ ⟨w.heap.size + 1 + 1 + 1, 0, none⟩ _ _ (by simp)).trans g2, Boxed.set (.int .i64 0) g3⟩, B_set (B_set (hBe.trans (hBW.mono (by omega))) (by simp; omega) _) (by simp; omega) _⟩
        · gi_wp2
          refine ⟨KeepsFrom.refl _ _, Kf.refl _ _ _ _ _, ?_, ⟨Y1.out, Y2.out, Y3.out⟩, hBW⟩
          have h0 := List.find?_eq_none.1 HFN.out
          intro y hy
          rcases List.mem_append.1 hy with hy | hy
          · have := h0 y hy
            simp at this
            omega
          · have : y = x := by simpa using hy
            omega
      case done =>
        rintro D ys W hD rfl ⟨hf, _, hBW⟩ hK
        have hz := hBe.size
        have HY2 : Hid (Y = (0, 16)) := by show _ = _; rw [HY.out, firstL, hf]
        have b2' := (hBW.block (w.heap.size + 1 + 1) (by omega)).trans HE2.out
        have b3 := (hBW.block (w.heap.size + 1 + 1 + 1) (by omega)).trans HE3.out
        have c2' : W.cell? ⟨w.heap.size + 1 + 1, 0, none⟩ = some (.int .i64 0) := by simp [World.cell?, b2']
        have c3' : W.cell? ⟨w.heap.size + 1 + 1 + 1, 0, none⟩ = some (.int .i64 0) := by simp [World.cell?, b3]
        have f2' : W.frozen? ⟨w.heap.size + 1 + 1, 0, none⟩ = false := by simp [World.frozen?, b2']
        have f3' : W.frozen? ⟨w.heap.size + 1 + 1 + 1, 0, none⟩ = false := by simp [World.frozen?, b3]
        have HK := Lib.hid hK
        have HB2 := Lib.hid b2'
        have HB3 := Lib.hid b3
        clear hK b2' b3 hf
        gi_wp2
        have g2 := Boxed.set (.int .i64 0) HB2.out
        have g3 : (W.setCell ⟨w.heap.size + 1 + 1, 0, none⟩ (.int .i64 0)).heap[w.heap.size + 1 + 1 + 1]? = some (.cells #[.int .i64 0] 29 (0, 0)) := (heap_setCell_other W ⟨w.heap.size + 1 + 1, 0, none⟩ _ _ (by simp)).trans HB3.out
        have g4 := Boxed.set (.int .i64 16) g3
        have g5 : ((W.setCell ⟨w.heap.size + 1 + 1, 0, none⟩ (.int .i64 0)).setCell ⟨w.heap.size + 1 + 1 + 1, 0, none⟩ (.int .i64 16)).heap[w.heap.size + 1 + 1]? = some (.cells #[.int .i64 0] 3 (0, 0)) := (heap_setCell_other _ ⟨w.heap.size + 1 + 1 + 1, 0, none⟩ _ _ (by simp)).trans g2
        have hD2 : ((W.setCell ⟨w.heap.size + 1 + 1, 0, none⟩ (.int .i64 0)).setCell ⟨w.heap.size + 1 + 1 + 1, 0, none⟩ (.int .i64 16)).heap[D]? = some (.deferred (some [])) := (heap_setCell_other _ ⟨w.heap.size + 1 + 1 + 1, 0, none⟩ _ _ (by simp; omega)).trans ((heap_setCell_other W ⟨w.heap.size + 1 + 1, 0, none⟩ _ _ (by simp; omega)).trans HK.out)
        refine leaves_marks (base := w.heap.size) [D] _ (by simp) (fun D' hD' => by
          have : D' = D := by simpa using hD'
          subst this
          exact ⟨by omega, hD2⟩) fun w' hB' hc' => ⟨.tuple #[.int .i64 0, .int .i64 16], results_ii rfl _ _ (w.heap.size + 1 + 1) (w.heap.size + 1 + 1 + 1) _ _ rfl rfl (by simp [World.cell?, hc' _ _ _ _ g5]) (by simp [World.cell?, hc' _ _ _ _ g4]), ?_⟩
        exact Ret.of (by rw [HY2.out]; rfl) ((B_set (B_set (hBe.trans (hBW.mono (by omega))) (by simp; omega) _) (by simp; omega) _).trans hB')
      case stop =>
        rintro D cc pre W hD hpre ⟨⟨x, rfl, hf, g2, g3⟩, hBW⟩ hK
        have hz := hBe.size
        have HY2 : Hid (Y = (x, 0)) := by
          show _ = _
          obtain ⟨r', hr'⟩ := hpre
          rw [HY.out, firstL, ← hr', List.find?_append, hf]
          rfl
        have HK := Lib.hid hK
        have G2 := Lib.hid g2
        have G3 := Lib.hid g3
        clear hK g2 g3 hf
        gi_wp2
        refine leaves_marks (base := w.heap.size) [D] _ (by simp) (fun D' hD' => by
          have : D' = D := by simpa using hD'
          subst this
          exact ⟨by omega, HK.out⟩) fun w' hB' hc' => ⟨.tuple #[.int .i64 x, .int .i64 0], results_ii rfl _ _ (w.heap.size + 1 + 1) (w.heap.size + 1 + 1 + 1) _ _ rfl rfl (by simp [World.cell?, hc' _ _ _ _ G2.out]) (by simp [World.cell?, hc' _ _ _ _ G3.out]), ?_⟩
        exact Ret.of (by rw [HY2.out]; rfl) (hBW.trans hB')
  · clear hrm hsm
    have HQ := Lib.hid hq
    have HY : Hid (firstFreeR p u ss nm lv co day = (0, wsErr p ss nm)) := by
      show _ = _
      unfold firstFreeR
      rw [if_pos hq]
    generalize firstFreeR p u ss nm lv co day = Y at *
    gi_wp2_with (refine ⟨trivial, ?_⟩; gi_at_call 70; refine (callsIn_wide.2 (HW _ (hy.keep (by repeat (first | exact B_refl | exact Below.refl _ _ | assumption | with_reducible refine B_alloc ?_ _ | with_reducible refine B_ext ?_ _ | with_reducible refine B_drew ?_ | with_reducible refine B_drewN ?_ _ | with_reducible refine B_set ?_ (by simp; omega) _))) (hev.keep (by repeat (first | exact B_refl | exact Below.refl _ _ | assumption | with_reducible refine B_alloc ?_ _ | with_reducible refine B_ext ?_ _ | with_reducible refine B_drew ?_ | with_reducible refine B_drewN ?_ _ | with_reducible refine B_set ?_ (by simp; omega) _))))).mono ?_; intro e wq hpq; obtain ⟨rfl, zq, rfl⟩ := hpq.bad HQ.out; clear hpq; unfold Site.v zeroSite)
    refine leaves_none (.tuple #[.int .i64 0, .int .i64 (wsErr p ss nm)]) (results_ii rfl _ _ (w.heap.size + 1 + 1) (w.heap.size + 1 + 1 + 1) _ _ rfl rfl (by simp [go_sem]) (by simp [go_sem])) ?_
    exact Ret.of (by rw [HY.out]; rfl) (by repeat (first | exact B_refl | exact Below.refl _ _ | assumption | with_reducible refine B_alloc ?_ _ | with_reducible refine B_ext ?_ _ | with_reducible refine B_drew ?_ | with_reducible refine B_drewN ?_ _ | with_reducible refine B_set ?_ (by simp; omega) _))
theorem gFirst_any (ss : List Site) (rs : List Rest) (A R : Option Addr) (n c rn rc : Nat) (c0 c1 c2 : Int) (es : List Event) (L : Option Addr) (ln lc : Nat) (nm : ByteArray) (lv co day : Int) (w : World) (hy : YardIn w ss rs A n c R rn rc) (hev : EventsIn w es L ln) :
    Calls Try.prog 35 #[.agg #[.slice A n c, .slice R rn rc, .int .i64 c0, .int .i64 c1, .int .i64 c2], .slice L ln lc, .agg #[.string nm, .int .i64 lv], .int .i64 co, .int .i64 day] w (Ret w (ret2 (firstFreeR (readP ss rs (bk0 A n c R rn rc c0 c1 c2) es) (upToP ss rs day (bk0 A n c R rn rc c0 c1 c2) es) ss nm lv co day))) :=
  callsIn_wide.1 (gFirst_in ss rs A R n c rn rc c0 c1 c2 es L ln lc nm lv co day w hy hev)
end Go.Proofs.Ytmiobhlgpjjbgaa

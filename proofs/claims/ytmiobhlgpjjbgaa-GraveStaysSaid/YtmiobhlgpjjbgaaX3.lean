/- Walk: events with one more. -/
import Derived.Test.YtmiobhlgpjjbgaaX2
namespace Go.Proofs.Ytmiobhlgpjjbgaa
open Go.RowKit
attribute [local go_sem] World.cell?_alloc_mark ext_size ext_cell ext_frozen lt_add_r lt_add_r2 lt_add_r3 lt_add_r4 lt_add_r5 lt_add_r6 lt_add_r7 lt_add_r8
theorem drew_ext (w : World) (z : Ez) : w.drew.ext z = w.ext z := rfl
attribute [local go_sem] drew_ext
theorem own_drew {w : World} {base size k : Nat} {e : TypeId} {v : Value} {xs : List Value} (h : w.ownsRow base e size v k xs) : w.drew.ownsRow base e size v k xs := h
theorem own_mono {w : World} {base base' size k : Nat} {e : TypeId} {v : Value} {xs : List Value} (h : w.ownsRow base e size v k xs) (hb : base' ≤ base) : w.ownsRow base' e size v k xs := by
  refine ⟨h.1, ?_⟩
  rcases h.2 with h | ⟨g, cap, cur, e1, e2, e3⟩
  · exact .inl h
  · exact .inr ⟨g, cap, cur, e1, by omega, e3⟩
theorem sl_event {w : World} {g : Nat} {dy kd : Int} {si : ByteArray} {lv : Int} {rm : ByteArray} {co : Int} {od : Bool} {t : TypeId} {fr : Nat × Nat} (h : w.heap[g]? = some (.cells #[.int .i64 dy, .int .i64 kd, .string si, .int .i64 lv, .string rm, .int .i64 co, .bool od] t fr)) :
    Sl w 7 Event.cells (some ⟨g, 0, none⟩) [⟨dy, kd, si, lv, rm, co, od⟩] := fun _ => by
  refine ⟨g, 0, rfl, blk_lt h, fun k x hx j u hu => ?_⟩
  cases k with
  | zero =>
    simp only [List.getElem?_cons_zero, Option.some.injEq] at hx
    subst hx
    simp only [World.cell?, h, Nat.zero_mul, Nat.zero_add]
    simpa [Event.cells] using hu
  | succ k => simp at hx

def addR (ss : List Site) (rs : List Rest) (p : Bk × Int) (es : List Event) (ev : Event) : List Event × Int :=
  if p.2 != 0 then ([], p.2) else if decide ((300 : Int) ≤ es.length) then ([], 8) else
  if (errorP p.1 ss rs ev).2 != 0 then ([], (errorP p.1 ss rs ev).2) else (es ++ [ev], 0)
def AddRPost (w : World) (r : List Event × Int) (e : Ending) (w' : World) : Prop :=
  ∃ v, e = .returned (.tuple #[v, .int .i64 r.2]) ∧ w'.ownsRow w.heap.size 80 7 v r.1.length (r.1.flatMap Event.cells) ∧ ∃ z, w' = w.ext z
theorem AddRPost.none {w w' : World} {c : Int} (h : Below w.heap.size w w') : AddRPost w ([], c) (.returned (.tuple #[.slice none 0 0, .int .i64 c])) w' := ⟨_, rfl, World.ownsRow_nil _ _ _ _, ext_below h⟩

set_option maxRecDepth 100000 in
set_option maxHeartbeats 2000000 in
theorem gAdd_any (ss : List Site) (rs : List Rest) (A R : Option Addr) (n c rn rc : Nat) (c0 c1 c2 : Int) (es : List Event) (L : Option Addr) (ln lc : Nat) (dy kd : Int) (si : ByteArray) (lv : Int) (rm : ByteArray) (co : Int) (od : Bool) (w : World) (hy : YardIn w ss rs A n c R rn rc) (hev : EventsIn w es L ln) (hs : si.size ≤ 100000) (hr : rm.size ≤ 100000) :
    Calls Try.prog 41 #[.agg #[.slice A n c, .slice R rn rc, .int .i64 c0, .int .i64 c1, .int .i64 c2], .slice L ln lc, .agg #[.int .i64 dy, .int .i64 kd, .string si, .int .i64 lv, .string rm, .int .i64 co, .bool od]] w (AddRPost w (addR ss rs (readP ss rs (bk0 A n c R rn rc c0 c1 c2) es) es ⟨dy, kd, si, lv, rm, co, od⟩)) := by
  have HR := fun W h1 h2 => read_any ss rs A R n c rn rc c0 c1 c2 es L ln lc W h1 h2
  have HS := Lib.hid hs
  have HM := Lib.hid hr
  clear hs hr
  have hln := hev.hn
  subst hln
  generalize (readP ss rs (bk0 A n c R rn rc c0 c1 c2) es) = p at *
  obtain ⟨k, er⟩ := p
  go_enter Try.func41, Try.ntmps41
  cases hq : (er != 0)
  · have HQ := Lib.hid hq
    clear hq
    by_cases hbig : (300 : Int) ≤ es.length
    · have hX : addR ss rs (k, er) es ⟨dy, kd, si, lv, rm, co, od⟩ = ([], 8) := by rw [addR, if_neg (by rw [HQ.out]; exact Bool.false_ne_true), if_pos (by simpa using hbig)]
      rw [hX]
      clear hX
      go_wp2_with (go_at_call 61; refine (HR _ (hy.keep (by repeat (first | exact B_refl | exact Below.refl _ _ | assumption | with_reducible refine B_alloc ?_ _ | with_reducible refine B_ext ?_ _ | with_reducible refine B_drew ?_ | with_reducible refine B_drewN ?_ _ | with_reducible refine B_set ?_ (by simp; omega) _))) (hev.keep (by repeat (first | exact B_refl | exact Below.refl _ _ | assumption | with_reducible refine B_alloc ?_ _ | with_reducible refine B_ext ?_ _ | with_reducible refine B_drew ?_ | with_reducible refine B_drewN ?_ _ | with_reducible refine B_set ?_ (by simp; omega) _)))).mono ?_; intro e wq hpq; obtain ⟨base, bb, rfl, hbs, henv, zq, rfl⟩ := hpq.ok HQ.out; clear hpq)
      go_ret2
      exact AddRPost.none (by repeat (first | exact B_refl | exact Below.refl _ _ | assumption | with_reducible refine B_alloc ?_ _ | with_reducible refine B_ext ?_ _ | with_reducible refine B_drew ?_ | with_reducible refine B_drewN ?_ _ | with_reducible refine B_set ?_ (by simp; omega) _))
    · cases hq2 : ((errorP k ss rs ⟨dy, kd, si, lv, rm, co, od⟩).2 != 0)
      · have HQ2 := Lib.hid hq2
        clear hq2
        have hX : addR ss rs (k, er) es ⟨dy, kd, si, lv, rm, co, od⟩ = (es ++ [⟨dy, kd, si, lv, rm, co, od⟩], 0) := by rw [addR, if_neg (by rw [HQ.out]; exact Bool.false_ne_true), if_neg (by simpa using hbig), if_neg (by rw [HQ2.out]; exact Bool.false_ne_true)]
        rw [hX]
        clear hX
        go_wp2_with (first | (go_at_call 61; refine (HR _ (hy.keep (by repeat (first | exact B_refl | exact Below.refl _ _ | assumption | with_reducible refine B_alloc ?_ _ | with_reducible refine B_ext ?_ _ | with_reducible refine B_drew ?_ | with_reducible refine B_drewN ?_ _ | with_reducible refine B_set ?_ (by simp; omega) _))) (hev.keep (by repeat (first | exact B_refl | exact Below.refl _ _ | assumption | with_reducible refine B_alloc ?_ _ | with_reducible refine B_ext ?_ _ | with_reducible refine B_drew ?_ | with_reducible refine B_drewN ?_ _ | with_reducible refine B_set ?_ (by simp; omega) _)))).mono ?_; intro e wq hpq; obtain ⟨base, bb, rfl, hbs, henv, zq, rfl⟩ := hpq.ok HQ.out; clear hpq) | (go_at_call 75; refine (add_any base bb k ss rs _ _ _ _ _ _ _ _ henv HS.out HM.out).mono ?_; intro e wq hpq; obtain ⟨rfl, _, hB3⟩ := hpq.ok HQ2.out; clear hpq; obtain ⟨z3, rfl⟩ := ext_below (Below.trans (below_ext _ _) (hB3.mono hbs.out)); clear hB3 henv hbs))
        generalize hW0 : World.ext ((w.alloc (.cells #[.slice A n c, .slice R rn rc, .int .i64 c0, .int .i64 c1, .int .i64 c2] 26)).alloc (.cells #[.int .i64 dy, .int .i64 kd, .string si, .int .i64 lv, .string rm, .int .i64 co, .bool od] 80)) z3 = W0
        have hB : Below w.heap.size w W0 := by rw [← hW0]; repeat (first | exact B_refl | exact Below.refl _ _ | assumption | with_reducible refine B_alloc ?_ _ | with_reducible refine B_ext ?_ _ | with_reducible refine B_drew ?_ | with_reducible refine B_drewN ?_ _ | with_reducible refine B_set ?_ (by simp; omega) _)
        have hE : W0.heap[w.heap.size + 1]? = some (.cells #[.int .i64 dy, .int .i64 kd, .string si, .int .i64 lv, .string rm, .int .i64 co, .bool od] 80) := by rw [← hW0]; (repeat (first | with_reducible exact G_new _ _ _ (by simp) | with_reducible exact G_new _ _ _ (by simp [ext_size]) | with_reducible refine G_drew ?_ | with_reducible refine G_ext ?_ | with_reducible refine G_alloc ?_))
        have hEl := blk_lt hE
        have hz : w.heap.size ≤ W0.heap.size := hB.size
        have hl3 : es.length ≤ 100000 := hev.l1
        clear hW0
        have e0 : W0.cell? ⟨w.heap.size + 1, 0, none⟩ = some (.int .i64 dy) := by simp [World.cell?, hE]
        have e1 : W0.cell? ⟨w.heap.size + 1, 1, none⟩ = some (.int .i64 kd) := by simp [World.cell?, hE]
        have e2 : W0.cell? ⟨w.heap.size + 1, 2, none⟩ = some (.string si) := by simp [World.cell?, hE]
        have e3 : W0.cell? ⟨w.heap.size + 1, 3, none⟩ = some (.int .i64 lv) := by simp [World.cell?, hE]
        have e4 : W0.cell? ⟨w.heap.size + 1, 4, none⟩ = some (.string rm) := by simp [World.cell?, hE]
        have e5 : W0.cell? ⟨w.heap.size + 1, 5, none⟩ = some (.int .i64 co) := by simp [World.cell?, hE]
        have e6 : W0.cell? ⟨w.heap.size + 1, 6, none⟩ = some (.bool od) := by simp [World.cell?, hE]
        clear hE HR
        go_region_law (first
           | (go_simp; go_at_call 76; refine (clone_any es _ _ _ _ (hev.keep (m := w.heap.size) ?q1)).mono ?_; case q1 => (first | exact B_drew hB | exact B_drew (B_alloc hB _ (by (first | omega | (simp; done) | (simp; omega) | (simp [ext_size]; done) | (simp [ext_size]; omega)))) | exact B_alloc (B_drew hB) _ (by (first | omega | (simp; done) | (simp; omega) | (simp [ext_size]; done) | (simp [ext_size]; omega))))
              rintro e wq ⟨v1, rfl, h1, zc, rfl⟩; simp only [drew_ext] at h1; have o1 : ∀ g, v1.ownBlock = some g → w.heap.size ≤ g := fun g hg => Nat.le_trans (by (first | omega | (simp; done) | (simp; omega) | (simp [ext_size]; done) | (simp [ext_size]; omega))) (h1.lt g hg).1; replace h1 := own_mono h1 (base' := w.heap.size) (by (first | omega | (simp; done) | (simp; omega) | (simp [ext_size]; done) | (simp [ext_size]; omega))))
           | (refine step_append_sl rfl _ _ rfl elEvent event_len event_one rfl (base := w.heap.size) (n := es.length) (m := 1) (v := v1) (xs := es.flatMap Event.cells) ?q1 rfl (ys := [⟨dy, kd, si, lv, rm, co, od⟩]) rfl ?q2 ?q3 ?q4 ?q5 ?_
              case q1 => repeat (first | with_reducible exact h1 | with_reducible refine own_ext ?_ _ | with_reducible refine own_alloc ?_ _ | with_reducible refine own_drew ?_)
              case q2 => (refine sl_event (t := 80) (fr := (0, 0)) ?_; (repeat (first | with_reducible exact G_new _ _ _ (by simp) | with_reducible exact G_new _ _ _ (by simp [ext_size]) | with_reducible refine G_drew ?_ | with_reducible refine G_ext ?_ | with_reducible refine G_alloc ?_)))
              case q3 => simp [maxLen]; omega
              case q4 => omega
              case q5 => (first | omega | (simp; done) | (simp; omega) | (simp [ext_size]; done) | (simp [ext_size]; omega))
              intro v2 w2 h2 g2 o2))
        all_goals go_wp2_with fail
        all_goals go_ret2
        all_goals refine ⟨v2, rfl, by simpa using h2, ext_below (Below.grown (by repeat (first | exact B_refl | exact Below.refl _ _ | assumption | with_reducible refine B_alloc ?_ _ | with_reducible refine B_ext ?_ _ | with_reducible refine B_drew ?_ | with_reducible refine B_drewN ?_ _ | with_reducible refine B_set ?_ (by simp; omega) _)) g2 (by (first | omega | (simp; done) | (simp; omega) | (simp [ext_size]; done) | (simp [ext_size]; omega))) o1)⟩
      · have HQ2 := Lib.hid hq2
        have hX : addR ss rs (k, er) es ⟨dy, kd, si, lv, rm, co, od⟩ = ([], (errorP k ss rs ⟨dy, kd, si, lv, rm, co, od⟩).2) := by rw [addR, if_neg (by rw [HQ.out]; exact Bool.false_ne_true), if_neg (by simpa using hbig), if_pos HQ2.out]
        rw [hX]
        clear hX
        go_wp2_with (first | (go_at_call 61; refine (HR _ (hy.keep (by repeat (first | exact B_refl | exact Below.refl _ _ | assumption | with_reducible refine B_alloc ?_ _ | with_reducible refine B_ext ?_ _ | with_reducible refine B_drew ?_ | with_reducible refine B_drewN ?_ _ | with_reducible refine B_set ?_ (by simp; omega) _))) (hev.keep (by repeat (first | exact B_refl | exact Below.refl _ _ | assumption | with_reducible refine B_alloc ?_ _ | with_reducible refine B_ext ?_ _ | with_reducible refine B_drew ?_ | with_reducible refine B_drewN ?_ _ | with_reducible refine B_set ?_ (by simp; omega) _)))).mono ?_; intro e wq hpq; obtain ⟨base, bb, rfl, hbs, henv, zq, rfl⟩ := hpq.ok HQ.out; clear hpq) | (go_at_call 75; refine (add_any base bb k ss rs _ _ _ _ _ _ _ _ henv HS.out HM.out).mono ?_; intro e wq hpq; obtain ⟨rfl, zq2, rfl⟩ := hpq.bad HQ2.out; clear hpq))
        go_ret2
        exact AddRPost.none (by repeat (first | exact B_refl | exact Below.refl _ _ | assumption | with_reducible refine B_alloc ?_ _ | with_reducible refine B_ext ?_ _ | with_reducible refine B_drew ?_ | with_reducible refine B_drewN ?_ _ | with_reducible refine B_set ?_ (by simp; omega) _))
  · have HQ := Lib.hid hq
    have hX : addR ss rs (k, er) es ⟨dy, kd, si, lv, rm, co, od⟩ = ([], er) := by rw [addR, if_pos HQ.out]
    rw [hX]
    clear hX
    go_wp2_with (go_at_call 61; refine (HR _ (hy.keep (by repeat (first | exact B_refl | exact Below.refl _ _ | assumption | with_reducible refine B_alloc ?_ _ | with_reducible refine B_ext ?_ _ | with_reducible refine B_drew ?_ | with_reducible refine B_drewN ?_ _ | with_reducible refine B_set ?_ (by simp; omega) _))) (hev.keep (by repeat (first | exact B_refl | exact Below.refl _ _ | assumption | with_reducible refine B_alloc ?_ _ | with_reducible refine B_ext ?_ _ | with_reducible refine B_drew ?_ | with_reducible refine B_drewN ?_ _ | with_reducible refine B_set ?_ (by simp; omega) _)))).mono ?_; intro e wq hpq; obtain ⟨rfl, zq, rfl⟩ := hpq.bad HQ.out; clear hpq)
    go_ret2
    exact AddRPost.none (by repeat (first | exact B_refl | exact Below.refl _ _ | assumption | with_reducible refine B_alloc ?_ _ | with_reducible refine B_ext ?_ _ | with_reducible refine B_drew ?_ | with_reducible refine B_drewN ?_ _ | with_reducible refine B_set ?_ (by simp; omega) _))
end Go.Proofs.Ytmiobhlgpjjbgaa

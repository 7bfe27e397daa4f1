/- Walk: a copy of a yard. -/
import Derived.Test.YtmiobhlgpjjbgaaX1
import Derived.Deep.RegionLaw
import Derived.Deep.RegionHeld3
namespace Go.Proofs.Ytmiobhlgpjjbgaa
open Go.RowKit
attribute [local go_sem] World.cell?_alloc_mark ext_size ext_cell ext_frozen lt_add_r lt_add_r2 lt_add_r3 lt_add_r4 lt_add_r5 lt_add_r6 lt_add_r7 lt_add_r8

def CopyYPost (w : World) (ss : List Site) (rs : List Rest) (c0 c1 c2 : Int) (e : Ending) (w' : World) : Prop :=
  ∃ v u, e = .returned (.agg #[v, u, .int .i64 c0, .int .i64 c1, .int .i64 c2]) ∧ w'.ownsRow w.heap.size 32 6 v ss.length (ss.flatMap Site.cells) ∧ w'.ownsRow w.heap.size 112 3 u rs.length (rs.flatMap Rest.cells) ∧ ∃ z, w' = w.ext z

theorem G_new (w : World) (o : Obj) (k : Nat) (h : k = w.heap.size) : (w.alloc o).heap[k]? = some o := by rw [h]; exact heap_alloc_new w o
theorem G_alloc {w : World} {o x : Obj} {k : Nat} (h : w.heap[k]? = some x) : (w.alloc o).heap[k]? = some x := (Below.heap_alloc w o k (blk_lt h)).trans h
theorem G_drew {w : World} {x : Obj} {k : Nat} (h : w.heap[k]? = some x) : w.drew.heap[k]? = some x := h
theorem G_ext {w : World} {z : Ez} {x : Obj} {k : Nat} (h : w.heap[k]? = some x) : (w.ext z).heap[k]? = some x := (ext_heap_lt w z k (blk_lt h)).trans h
theorem own_alloc {w : World} {base size k : Nat} {e : TypeId} {v : Value} {xs : List Value} (h : w.ownsRow base e size v k xs) (o : Obj) : (w.alloc o).ownsRow base e size v k xs := h.alloc o
theorem own_set {w : World} {base size k : Nat} {e : TypeId} {v : Value} {xs : List Value} (h : w.ownsRow base e size v k xs) (b i : Nat) (u : Value) (hne : some b ≠ v.ownBlock) : (w.setCell ⟨b, i, none⟩ u).ownsRow base e size v k xs := h.kept (grown_set w b i u) (.inr (Ne.symm hne))
theorem G_set5 {w : World} {g : Nat} {z0 z1 z2 z3 z4 a b c d e : Value} {t : TypeId} {fr : Nat × Nat} (h : w.heap[g]? = some (.cells #[z0, z1, z2, z3, z4] t fr)) :
    (((((w.setCell ⟨g, 0, none⟩ a).setCell ⟨g, 1, none⟩ b).setCell ⟨g, 2, none⟩ c).setCell ⟨g, 3, none⟩ d).setCell ⟨g, 4, none⟩ e).heap[g]? = some (.cells #[a, b, c, d, e] t fr) := by
  have := Joins.block_setCell (i := 4) (Joins.block_setCell (i := 3) (Joins.block_setCell (i := 2) (Joins.block_setCell (i := 1) (Joins.block_setCell (i := 0) h a) b) c) d) e
  simpa using this
theorem results_cell1 {fn : Func} {p : Tmp} {ty : TypeId} (h : fn.results = #[.cell p ty]) (tmps : Array Value) (P : Program) (w : World) :
    (results fn tmps).run P w = ((asAddr (tmps.getD p undef)).run P w).andThen fun a w₁ => (loadVar ty a).run P w₁ := by
  simp only [results, h]
  simp [Sem.run_bind]
theorem ret_yard {fn : Func} {p : Tmp} {Q : Ending → World → Prop} {a : Act} {W : World} {B : Nat} {A R : Option Addr} {n c rn rc : Nat} {c0 c1 c2 : Int} {fr : Nat × Nat} (h : fn.results = #[.cell p 26]) (hd : a.defers = [])
    (hp : a.tmps.getD p undef = .pointer (some ⟨B, 0, none⟩)) (hb : W.heap[B]? = some (.cells #[.slice A n c, .slice R rn rc, .int .i64 c0, .int .i64 c1, .int .i64 c2] 26 fr))
    (hR : Q (.returned (.agg #[.slice A n c, .slice R rn rc, .int .i64 c0, .int .i64 c1, .int .i64 c2])) W) : bodyPost Try.prog fn Q .ret a W := by
  have h0 : W.cell? ⟨B, 0, none⟩ = some (.slice A n c) := by simp [World.cell?, hb]
  have h1 : W.cell? ⟨B, 1, none⟩ = some (.slice R rn rc) := by simp [World.cell?, hb]
  have h2 : W.cell? ⟨B, 2, none⟩ = some (.int .i64 c0) := by simp [World.cell?, hb]
  have h3 : W.cell? ⟨B, 3, none⟩ = some (.int .i64 c1) := by simp [World.cell?, hb]
  have h4 : W.cell? ⟨B, 4, none⟩ = some (.int .i64 c2) := by simp [World.cell?, hb]
  refine bodyPost_ret (v := .agg #[.slice A n c, .slice R rn rc, .int .i64 c0, .int .i64 c1, .int .i64 c2]) ?_ hd hR
  rw [results_cell1 h, hp]
  go_simp

set_option maxRecDepth 100000 in
set_option maxHeartbeats 2000000 in
theorem copyYard_any (ss : List Site) (rs : List Rest) (A R : Option Addr) (n c rn rc : Nat) (c0 c1 c2 : Int) (w : World) (hy : YardIn w ss rs A n c R rn rc) :
    Calls Try.prog 17 #[.agg #[.slice A n c, .slice R rn rc, .int .i64 c0, .int .i64 c1, .int .i64 c2]] w (CopyYPost w ss rs c0 c1 c2) := by
  have hl1 := hy.l1
  have hl2 := hy.l2
  have HN := Lib.hid hy.hn
  have HR := Lib.hid hy.hrn
  go_enter Try.func17, Try.ntmps17
  go_wp2_with fail
  go_region_held3 (fun w' => w'.cell? ⟨w.heap.size, 0, none⟩ = some (.slice A n c) ∧ w'.cell? ⟨w.heap.size, 1, none⟩ = some (.slice R rn rc) ∧ w'.cell? ⟨w.heap.size, 2, none⟩ = some (.int .i64 c0) ∧ w'.cell? ⟨w.heap.size, 3, none⟩ = some (.int .i64 c1) ∧ w'.cell? ⟨w.heap.size, 4, none⟩ = some (.int .i64 c2))
    (first | go_keep | (simp [go_sem]; done))
    (first
    | (refine step_append_fresh rfl _ _ rfl elRest rest_len rest_one (by decide) (base := w.heap.size) rfl ?q1 ?q2 rfl HR.out hl2 (hy.sr.keep (n := w.heap.size) ?q3) ?q4 ?_
       case q1 => (repeat (first | with_reducible exact G_new _ _ _ (by simp) | with_reducible exact G_new _ _ _ (by simp [ext_size]) | with_reducible refine G_drew ?_ | with_reducible refine G_ext ?_ | with_reducible refine G_alloc ?_))
       case q2 => (first | omega | (simp; done) | (simp; omega) | (simp [ext_size]; done) | (simp [ext_size]; omega))
       case q3 => repeat (first | exact B_refl | exact Below.refl _ _ | assumption | with_reducible refine B_alloc ?_ _ | with_reducible refine B_ext ?_ _ | with_reducible refine B_drew ?_ | with_reducible refine B_drewN ?_ _ | with_reducible refine B_set ?_ (by simp; omega) _)
       case q4 => (first | omega | (simp; done) | (simp; omega) | (simp [ext_size]; done) | (simp [ext_size]; omega))
       intro v2 z2 h2; obtain ⟨A2, k2, rfl, s2, e2⟩ := own_sl rest_len h2)
    | (refine step_append_fresh rfl _ _ rfl elSite site_len site_one (by decide) (base := w.heap.size) rfl ?q1 ?q2 rfl HN.out hl1 (hy.sl.keep (n := w.heap.size) ?q3) ?q4 ?_
       case q1 => (repeat (first | with_reducible exact G_new _ _ _ (by simp) | with_reducible exact G_new _ _ _ (by simp [ext_size]) | with_reducible refine G_drew ?_ | with_reducible refine G_ext ?_ | with_reducible refine G_alloc ?_))
       case q2 => (first | omega | (simp; done) | (simp; omega) | (simp [ext_size]; done) | (simp [ext_size]; omega))
       case q3 => repeat (first | exact B_refl | exact Below.refl _ _ | assumption | with_reducible refine B_alloc ?_ _ | with_reducible refine B_ext ?_ _ | with_reducible refine B_drew ?_ | with_reducible refine B_drewN ?_ _ | with_reducible refine B_set ?_ (by simp; omega) _)
       case q4 => (first | omega | (simp; done) | (simp; omega) | (simp [ext_size]; done) | (simp [ext_size]; omega))
       intro v1 z1 h1; obtain ⟨A1, k1, rfl, s1, e1⟩ := own_sl site_len h1))
  all_goals
    have n1 : some (w.heap.size + 1) ≠ (Value.slice A1 ss.length k1).ownBlock := own_ne h1 (b := w.heap.size + 1) (cs := #[.slice none 0 0, .slice none 0 0, .int .i64 0, .int .i64 0, .int .i64 0]) (t := 26) (fr := (0, 0)) (by (repeat (first | with_reducible exact G_new _ _ _ (by simp) | with_reducible exact G_new _ _ _ (by simp [ext_size]) | with_reducible refine G_drew ?_ | with_reducible refine G_ext ?_ | with_reducible refine G_alloc ?_))) (by decide)
    have n2 : some (w.heap.size + 1) ≠ (Value.slice A2 rs.length k2).ownBlock := own_ne h2 (b := w.heap.size + 1) (cs := #[.slice none 0 0, .slice none 0 0, .int .i64 0, .int .i64 0, .int .i64 0]) (t := 26) (fr := (0, 0)) (by (repeat (first | with_reducible exact G_new _ _ _ (by simp) | with_reducible exact G_new _ _ _ (by simp [ext_size]) | with_reducible refine G_drew ?_ | with_reducible refine G_ext ?_ | with_reducible refine G_alloc ?_))) (by decide)
    go_wp2_with fail
    refine ret_yard (B := w.heap.size + 1) (A := A1) (n := ss.length) (c := k1) (R := A2) (rn := rs.length) (rc := k2) (c0 := c0) (c1 := c1) (c2 := c2) (fr := (0, 0)) rfl rfl rfl ?_ ⟨_, _, rfl, ?_, ?_, ext_below ?_⟩
    · refine G_set5 (z0 := .slice none 0 0) (z1 := .slice none 0 0) (z2 := .int .i64 0) (z3 := .int .i64 0) (z4 := .int .i64 0) ?_
      (repeat (first | with_reducible exact G_new _ _ _ (by simp) | with_reducible exact G_new _ _ _ (by simp [ext_size]) | with_reducible refine G_drew ?_ | with_reducible refine G_ext ?_ | with_reducible refine G_alloc ?_))
    · repeat (first | with_reducible exact h1 | with_reducible refine own_set ?_ _ _ _ n1 | with_reducible refine own_ext ?_ _ | with_reducible refine own_alloc ?_ _)
    · repeat (first | with_reducible exact h2 | with_reducible refine own_set ?_ _ _ _ n2 | with_reducible refine own_ext ?_ _ | with_reducible refine own_alloc ?_ _)
    · iterate 5 (refine B_set ?_ (by simp) _)
      repeat (first | exact B_refl | exact Below.refl _ _ | assumption | with_reducible refine B_alloc ?_ _ | with_reducible refine B_ext ?_ _ | with_reducible refine B_drew ?_ | with_reducible refine B_drewN ?_ _ | with_reducible refine B_set ?_ (by simp; omega) _)
theorem CopyYPost.form {w : World} {ss : List Site} {rs : List Rest} {c0 c1 c2 : Int} {e : Ending} {w' : World} (h : CopyYPost w ss rs c0 c1 c2 e w') (h1 : ss.length ≤ 100000) (h2 : rs.length ≤ 100000) (hsh : ∀ s ∈ ss, s.name.size ≤ 100000) :
    ∃ A c R rc, e = .returned (.agg #[.slice A ss.length c, .slice R rs.length rc, .int .i64 c0, .int .i64 c1, .int .i64 c2]) ∧ YardIn w' ss rs A ss.length c R rs.length rc ∧ ∃ z, w' = w.ext z := by
  obtain ⟨v, u, rfl, h3, h4, z, rfl⟩ := h
  obtain ⟨A, c, rfl, hS, hc⟩ := own_sl site_len h3
  obtain ⟨R, rc, rfl, hR, hrc⟩ := own_sl rest_len h4
  exact ⟨A, c, R, rc, rfl, ⟨rfl, rfl, hS, hR, hc, h1, h2, hsh⟩, z, rfl⟩
end Go.Proofs.Ytmiobhlgpjjbgaa

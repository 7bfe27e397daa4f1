/- Walks: copies of yards and events; one event more. -/
/- Walk: a copy of a yard. -/
/- Walk: events with one more. -/
import Derived.Test.YtpohkolapgofdaaGreatDoorX0
import Derived.Test.YtpohkolapgofdaaGreatDoorB6
import Derived.BigRegion
import Derived.Deep.RegionLaw
import Derived.Deep.RegionHeld3
namespace Go.Proofs.YtpohkolapgofdaaGreatDoor
open Go.RowKit
attribute [local go_sem] World.cell?_alloc_mark ext_size ext_cell ext_frozen lt_add_r lt_add_r2 lt_add_r3 lt_add_r4 lt_add_r5 lt_add_r6 lt_add_r7 lt_add_r8
attribute [local go_sem] ext_setCell alloc_setCell_lt

def CopyPost (w : World) (es : List Event) (base : Nat) (e : Ending) (w' : World) : Prop :=
  ∃ v, e = .returned v ∧ w'.ownsRow base 23 7 v es.length (es.flatMap Event.cells) ∧ ∃ z, w' = w.ext z
theorem CopyPost.form {w : World} {es : List Event} {base : Nat} {e : Ending} {w' : World} (h : CopyPost w es base e w') (hl : es.length ≤ 100000) (hsh : ∀ e ∈ es, e.site.size ≤ 100000 ∧ e.remain.size ≤ 100000) : ∃ A c z, e = .returned (.slice A es.length c) ∧ w' = w.ext z ∧ EventsIn w' es A es.length := by
  obtain ⟨v, rfl, h1, z, rfl⟩ := h
  obtain ⟨A, c, rfl, hS, hc⟩ := own_sl event_len h1
  exact ⟨A, c, z, rfl, rfl, rfl, hS, hl, hsh⟩

set_option maxRecDepth 100000 in
set_option maxHeartbeats 2000000 in
theorem copyEvents_any (es : List Event) (L : Option Addr) (ln lc : Nat) (w : World) (hev : EventsIn w es L ln) :
    Calls Tryz.prog 20 #[.slice L ln lc] w (CopyPost w es w.heap.size) := by
  have hl1 := hev.l1
  have HM := Lib.hid hev.hn
  go_enter Tryz.func20, Tryz.ntmps20
  go_wp2_with (at_builtin; refine wpList_append_sl rfl _ _ rfl elEvent event_len event_one rfl (World.ownsRow_made w #[] 0 (Nat.le_refl _) (Nat.zero_le _) (by simp)) rfl HM.out (hev.sl.keep (by repeat (first | exact B_refl | exact Below.refl _ _ | assumption | with_reducible refine B_alloc ?_ _ | with_reducible refine B_ext ?_ _ | with_reducible refine B_drew ?_ | with_reducible refine B_drewN ?_ _ | with_reducible refine B_set ?_ (by simp; omega) _))) ?q1 ?q2 (by simp) ?_)
  case q1 => simp [maxLen, HM.out]; omega
  case q2 => simp [HM.out]; omega
  intro v' w' h1 h2 h3
  go_wp2_with fail
  go_ret
  refine ⟨v', rfl, by simpa [HM.out] using h1, ext_below (Below.grown (by repeat (first | exact B_refl | exact Below.refl _ _ | assumption | with_reducible refine B_alloc ?_ _ | with_reducible refine B_ext ?_ _ | with_reducible refine B_drew ?_ | with_reducible refine B_drewN ?_ _ | with_reducible refine B_set ?_ (by simp; omega) _)) h2 (by simp) (by intro k hk; simp [Value.ownBlock] at hk; omega))⟩

set_option maxRecDepth 100000 in
set_option maxHeartbeats 2000000 in
theorem clone_any (es : List Event) (L : Option Addr) (ln lc : Nat) (w : World) (hev : EventsIn w es L ln) :
    Calls Tryz.prog 59 #[.slice L ln lc] w (CopyPost w es w.heap.size) := by
  have hl1 := hev.l1
  have HM := Lib.hid hev.hn
  have q22 : ∀ (w : World) (a : Option Addr) (n c n' c' : Nat), (binOp .eql 41 (.slice a n c) (.slice none n' c')).run Tryz.prog w = .ok (.bool a.isNone) w := fun w a n c n' c' => Lib.run_eql_slice_nil w _ _ a n c n' c' Tryz.underlying41
  go_enter Tryz.func59, Tryz.ntmps59
  cases L with
  | none =>
    have h0 : es = [] := by
      cases es with
      | nil => rfl
      | cons y ys => obtain ⟨b, off, h, _⟩ := hev.sl (by simp); cases h
    subst h0
    go_wp2_with fail
    go_ret
    exact ⟨_, rfl, World.ownsRow_nil _ _ _ _, ext_below (Below.refl _ _)⟩
  | some ad =>
    go_wp2_with (at_builtin; refine wpList_append_sl rfl _ _ rfl elEvent event_len event_one rfl (World.ownsRow_made w #[] 0 (Nat.le_refl _) (Nat.zero_le _) (by simp)) rfl HM.out (hev.sl.keep (by repeat (first | exact B_refl | exact Below.refl _ _ | assumption | with_reducible refine B_alloc ?_ _ | with_reducible refine B_ext ?_ _ | with_reducible refine B_drew ?_ | with_reducible refine B_drewN ?_ _ | with_reducible refine B_set ?_ (by simp; omega) _))) ?q1 ?q2 (by simp) ?_)
    case q1 => simp [maxLen, HM.out]; omega
    case q2 => simp [HM.out]; omega
    intro v' w' h1 h2 h3
    go_wp2_with fail
    go_ret
    refine ⟨v', rfl, by simpa [HM.out] using h1, ext_below (Below.grown (by repeat (first | exact B_refl | exact Below.refl _ _ | assumption | with_reducible refine B_alloc ?_ _ | with_reducible refine B_ext ?_ _ | with_reducible refine B_drew ?_ | with_reducible refine B_drewN ?_ _ | with_reducible refine B_set ?_ (by simp; omega) _)) h2 (by simp) (by intro k hk; simp [Value.ownBlock] at hk; omega))⟩
end Go.Proofs.YtpohkolapgofdaaGreatDoor
namespace Go.Proofs.YtpohkolapgofdaaGreatDoor
open Go.RowKit
attribute [local go_sem] World.cell?_alloc_mark ext_size ext_cell ext_frozen lt_add_r lt_add_r2 lt_add_r3 lt_add_r4 lt_add_r5 lt_add_r6 lt_add_r7 lt_add_r8

def CopyYPost (w : World) (ss : List Site) (rs : List Rest) (c0 c1 c2 : Int) (e : Ending) (w' : World) : Prop :=
  ∃ v u, e = .returned (.agg #[v, u, .int .i64 c0, .int .i64 c1, .int .i64 c2]) ∧ w'.ownsRow w.heap.size 81 6 v ss.length (ss.flatMap Site.cells) ∧ w'.ownsRow w.heap.size 94 3 u rs.length (rs.flatMap Rest.cells) ∧ ∃ z, w' = w.ext z

theorem G_new (w : World) (o : Obj) (k : Nat) (h : k = w.heap.size) : (w.alloc o).heap[k]? = some o := by rw [h]; exact heap_alloc_new w o
theorem G_alloc {w : World} {o x : Obj} {k : Nat} (h : w.heap[k]? = some x) : (w.alloc o).heap[k]? = some x := (Below.heap_alloc w o k (blk_lt h)).trans h
theorem G_drew {w : World} {x : Obj} {k : Nat} (h : w.heap[k]? = some x) : w.drew.heap[k]? = some x := h
theorem G_ext {w : World} {z : Ez} {x : Obj} {k : Nat} (h : w.heap[k]? = some x) : (w.ext z).heap[k]? = some x := (ext_heap_lt w z k (blk_lt h)).trans h
theorem own_alloc {w : World} {base size k : Nat} {e : TypeId} {v : Value} {xs : List Value} (h : w.ownsRow base e size v k xs) (o : Obj) : (w.alloc o).ownsRow base e size v k xs := h.alloc o
theorem own_set {w : World} {base size k : Nat} {e : TypeId} {v : Value} {xs : List Value} (h : w.ownsRow base e size v k xs) (b i : Nat) (u : Value) (hne : some b ≠ v.ownBlock) : (w.setCell ⟨b, i, none⟩ u).ownsRow base e size v k xs := h.kept (grown_set w b i u) (.inr (Ne.symm hne))
theorem G_set5 {w : World} {g : Nat} {z0 z1 z2 z3 z4 a b c d e : Value} {t : TypeId} {fr : Nat × Nat} (h : w.heap[g]? = some (.cells #[z0, z1, z2, z3, z4] t fr)) :
    (((((w.setCell ⟨g, 0, none⟩ a).setCell ⟨g, 1, none⟩ b).setCell ⟨g, 2, none⟩ c).setCell ⟨g, 3, none⟩ d).setCell ⟨g, 4, none⟩ e).heap[g]? = some (.cells #[a, b, c, d, e] t fr) := by
  have := Joins.block_setCell (i := 4) (Joins.block_setCell (i := 3) (Joins.block_setCell (i := 2) (Joins.block_setCell (i := 1) (Joins.block_setCell (i := 0) h a) b) c) d) e
  simpa using this
theorem results_cell1 {fn : Func} {p : Tmp} {ty : TypeId} (h : fn.results = #[.cell p ty]) (tmps : Array Value) (P : Program) (w : World) :
    (results fn tmps).run P w = ((asAddr (tmps.getD p undef)).run P w).andThen fun a w₁ => (loadVar ty a).run P w₁ := by
  simp only [results, h]
  simp [Sem.run_bind]
theorem ret_yard {fn : Func} {p : Tmp} {Q : Ending → World → Prop} {a : Act} {W : World} {B : Nat} {A R : Option Addr} {n c rn rc : Nat} {c0 c1 c2 : Int} {fr : Nat × Nat} (h : fn.results = #[.cell p 40]) (hd : a.defers = [])
    (hp : a.tmps.getD p undef = .pointer (some ⟨B, 0, none⟩)) (hb : W.heap[B]? = some (.cells #[.slice A n c, .slice R rn rc, .int .i64 c0, .int .i64 c1, .int .i64 c2] 40 fr))
    (hR : Q (.returned (.agg #[.slice A n c, .slice R rn rc, .int .i64 c0, .int .i64 c1, .int .i64 c2])) W) : bodyPost Tryz.prog fn Q .ret a W := by
  have h0 : W.cell? ⟨B, 0, none⟩ = some (.slice A n c) := by simp [World.cell?, hb]
  have h1 : W.cell? ⟨B, 1, none⟩ = some (.slice R rn rc) := by simp [World.cell?, hb]
  have h2 : W.cell? ⟨B, 2, none⟩ = some (.int .i64 c0) := by simp [World.cell?, hb]
  have h3 : W.cell? ⟨B, 3, none⟩ = some (.int .i64 c1) := by simp [World.cell?, hb]
  have h4 : W.cell? ⟨B, 4, none⟩ = some (.int .i64 c2) := by simp [World.cell?, hb]
  refine bodyPost_ret (v := .agg #[.slice A n c, .slice R rn rc, .int .i64 c0, .int .i64 c1, .int .i64 c2]) ?_ hd hR
  rw [results_cell1 h, hp]
  go_simp

set_option maxRecDepth 100000 in
set_option maxHeartbeats 2000000 in
theorem copyYard_any (ss : List Site) (rs : List Rest) (A R : Option Addr) (n c rn rc : Nat) (c0 c1 c2 : Int) (w : World) (hy : YardIn w ss rs A n c R rn rc) :
    Calls Tryz.prog 19 #[.agg #[.slice A n c, .slice R rn rc, .int .i64 c0, .int .i64 c1, .int .i64 c2]] w (CopyYPost w ss rs c0 c1 c2) := by
  have hl1 := hy.l1
  have hl2 := hy.l2
  have HN := Lib.hid hy.hn
  have HR := Lib.hid hy.hrn
  go_enter Tryz.func19, Tryz.ntmps19
  go_wp2_with fail
  go_region_held3 (fun w' => w'.cell? ⟨w.heap.size, 0, none⟩ = some (.slice A n c) ∧ w'.cell? ⟨w.heap.size, 1, none⟩ = some (.slice R rn rc) ∧ w'.cell? ⟨w.heap.size, 2, none⟩ = some (.int .i64 c0) ∧ w'.cell? ⟨w.heap.size, 3, none⟩ = some (.int .i64 c1) ∧ w'.cell? ⟨w.heap.size, 4, none⟩ = some (.int .i64 c2))
    (first | go_keep | (simp [go_sem]; done))
    (first
    | (refine step_append_fresh rfl _ _ rfl elRest rest_len rest_one (by decide) (base := w.heap.size) rfl ?q1 ?q2 rfl HR.out hl2 (hy.sr.keep (n := w.heap.size) ?q3) ?q4 ?_
       case q1 => (repeat (first | with_reducible exact G_new _ _ _ (by simp) | with_reducible exact G_new _ _ _ (by simp [ext_size]) | with_reducible refine G_drew ?_ | with_reducible refine G_ext ?_ | with_reducible refine G_alloc ?_))
       case q2 => (first | omega | (simp; done) | (simp; omega) | (simp [ext_size]; done) | (simp [ext_size]; omega))
       case q3 => repeat (first | exact B_refl | exact Below.refl _ _ | assumption | with_reducible refine B_alloc ?_ _ | with_reducible refine B_ext ?_ _ | with_reducible refine B_drew ?_ | with_reducible refine B_drewN ?_ _ | with_reducible refine B_set ?_ (by simp; omega) _)
       case q4 => (first | omega | (simp; done) | (simp; omega) | (simp [ext_size]; done) | (simp [ext_size]; omega))
       intro v2 z2 h2; obtain ⟨A2, k2, rfl, s2, e2⟩ := own_sl rest_len h2)
    | (refine step_append_fresh rfl _ _ rfl elSite site_len site_one (by decide) (base := w.heap.size) rfl ?q1 ?q2 rfl HN.out hl1 (hy.sl.keep (n := w.heap.size) ?q3) ?q4 ?_
       case q1 => (repeat (first | with_reducible exact G_new _ _ _ (by simp) | with_reducible exact G_new _ _ _ (by simp [ext_size]) | with_reducible refine G_drew ?_ | with_reducible refine G_ext ?_ | with_reducible refine G_alloc ?_))
       case q2 => (first | omega | (simp; done) | (simp; omega) | (simp [ext_size]; done) | (simp [ext_size]; omega))
       case q3 => repeat (first | exact B_refl | exact Below.refl _ _ | assumption | with_reducible refine B_alloc ?_ _ | with_reducible refine B_ext ?_ _ | with_reducible refine B_drew ?_ | with_reducible refine B_drewN ?_ _ | with_reducible refine B_set ?_ (by simp; omega) _)
       case q4 => (first | omega | (simp; done) | (simp; omega) | (simp [ext_size]; done) | (simp [ext_size]; omega))
       intro v1 z1 h1; obtain ⟨A1, k1, rfl, s1, e1⟩ := own_sl site_len h1))
  all_goals
    have n1 : some (w.heap.size + 1) ≠ (Value.slice A1 ss.length k1).ownBlock := own_ne h1 (b := w.heap.size + 1) (cs := #[.slice none 0 0, .slice none 0 0, .int .i64 0, .int .i64 0, .int .i64 0]) (t := 40) (fr := (0, 0)) (by (repeat (first | with_reducible exact G_new _ _ _ (by simp) | with_reducible exact G_new _ _ _ (by simp [ext_size]) | with_reducible refine G_drew ?_ | with_reducible refine G_ext ?_ | with_reducible refine G_alloc ?_))) (by decide)
    have n2 : some (w.heap.size + 1) ≠ (Value.slice A2 rs.length k2).ownBlock := own_ne h2 (b := w.heap.size + 1) (cs := #[.slice none 0 0, .slice none 0 0, .int .i64 0, .int .i64 0, .int .i64 0]) (t := 40) (fr := (0, 0)) (by (repeat (first | with_reducible exact G_new _ _ _ (by simp) | with_reducible exact G_new _ _ _ (by simp [ext_size]) | with_reducible refine G_drew ?_ | with_reducible refine G_ext ?_ | with_reducible refine G_alloc ?_))) (by decide)
    go_wp2_with fail
    refine ret_yard (B := w.heap.size + 1) (A := A1) (n := ss.length) (c := k1) (R := A2) (rn := rs.length) (rc := k2) (c0 := c0) (c1 := c1) (c2 := c2) (fr := (0, 0)) rfl rfl rfl ?_ ⟨_, _, rfl, ?_, ?_, ext_below ?_⟩
    · refine G_set5 (z0 := .slice none 0 0) (z1 := .slice none 0 0) (z2 := .int .i64 0) (z3 := .int .i64 0) (z4 := .int .i64 0) ?_
      (repeat (first | with_reducible exact G_new _ _ _ (by simp) | with_reducible exact G_new _ _ _ (by simp [ext_size]) | with_reducible refine G_drew ?_ | with_reducible refine G_ext ?_ | with_reducible refine G_alloc ?_))
    · repeat (first | with_reducible exact h1 | with_reducible refine own_set ?_ _ _ _ n1 | with_reducible refine own_ext ?_ _ | with_reducible refine own_alloc ?_ _)
    · repeat (first | with_reducible exact h2 | with_reducible refine own_set ?_ _ _ _ n2 | with_reducible refine own_ext ?_ _ | with_reducible refine own_alloc ?_ _)
    · iterate 5 (refine B_set ?_ (by simp) _)
      repeat (first | exact B_refl | exact Below.refl _ _ | assumption | with_reducible refine B_alloc ?_ _ | with_reducible refine B_ext ?_ _ | with_reducible refine B_drew ?_ | with_reducible refine B_drewN ?_ _ | with_reducible refine B_set ?_ (by simp; omega) _)
theorem CopyYPost.form {w : World} {ss : List Site} {rs : List Rest} {c0 c1 c2 : Int} {e : Ending} {w' : World} (h : CopyYPost w ss rs c0 c1 c2 e w') (h1 : ss.length ≤ 100000) (h2 : rs.length ≤ 100000) (hsh : ∀ s ∈ ss, s.name.size ≤ 100000) :
    ∃ A c R rc, e = .returned (.agg #[.slice A ss.length c, .slice R rs.length rc, .int .i64 c0, .int .i64 c1, .int .i64 c2]) ∧ YardIn w' ss rs A ss.length c R rs.length rc ∧ ∃ z, w' = w.ext z := by
  obtain ⟨v, u, rfl, h3, h4, z, rfl⟩ := h
  obtain ⟨A, c, rfl, hS, hc⟩ := own_sl site_len h3
  obtain ⟨R, rc, rfl, hR, hrc⟩ := own_sl rest_len h4
  exact ⟨A, c, R, rc, rfl, ⟨rfl, rfl, hS, hR, hc, h1, h2, hsh⟩, z, rfl⟩
end Go.Proofs.YtpohkolapgofdaaGreatDoor
namespace Go.Proofs.YtpohkolapgofdaaGreatDoor
open Go.RowKit
attribute [local go_sem] World.cell?_alloc_mark ext_size ext_cell ext_frozen lt_add_r lt_add_r2 lt_add_r3 lt_add_r4 lt_add_r5 lt_add_r6 lt_add_r7 lt_add_r8
theorem drew_ext (w : World) (z : Ez) : w.drew.ext z = w.ext z := rfl
attribute [local go_sem] drew_ext
theorem own_drew {w : World} {base size k : Nat} {e : TypeId} {v : Value} {xs : List Value} (h : w.ownsRow base e size v k xs) : w.drew.ownsRow base e size v k xs := h
theorem own_mono {w : World} {base base' size k : Nat} {e : TypeId} {v : Value} {xs : List Value} (h : w.ownsRow base e size v k xs) (hb : base' ≤ base) : w.ownsRow base' e size v k xs := by
  refine ⟨h.1, ?_⟩
  rcases h.2 with h | ⟨g, cap, cur, e1, e2, e3⟩
  · exact .inl h
  · exact .inr ⟨g, cap, cur, e1, by omega, e3⟩
theorem sl_event {w : World} {g : Nat} {dy kd : Int} {si : ByteArray} {lv : Int} {rm : ByteArray} {co : Int} {od : Bool} {t : TypeId} {fr : Nat × Nat} (h : w.heap[g]? = some (.cells #[.int .i64 dy, .int .i64 kd, .string si, .int .i64 lv, .string rm, .int .i64 co, .bool od] t fr)) :
    Sl w 7 Event.cells (some ⟨g, 0, none⟩) [⟨dy, kd, si, lv, rm, co, od⟩] := fun _ => by
  refine ⟨g, 0, rfl, blk_lt h, fun k x hx j u hu => ?_⟩
  cases k with
  | zero =>
    simp only [List.getElem?_cons_zero, Option.some.injEq] at hx
    subst hx
    simp only [World.cell?, h, Nat.zero_mul, Nat.zero_add]
    simpa [Event.cells] using hu
  | succ k => simp at hx

def addR (ss : List Site) (rs : List Rest) (p : Bk × Int) (es : List Event) (ev : Event) : List Event × Int :=
  if p.2 != 0 then ([], p.2) else if decide ((300 : Int) ≤ es.length) then ([], 8) else
  if (errorP p.1 ss rs ev).2 != 0 then ([], (errorP p.1 ss rs ev).2) else (es ++ [ev], 0)
def AddRPost (w : World) (r : List Event × Int) (e : Ending) (w' : World) : Prop :=
  ∃ v, e = .returned (.tuple #[v, .int .i64 r.2]) ∧ w'.ownsRow w.heap.size 23 7 v r.1.length (r.1.flatMap Event.cells) ∧ ∃ z, w' = w.ext z
theorem AddRPost.none {w w' : World} {c : Int} (h : Below w.heap.size w w') : AddRPost w ([], c) (.returned (.tuple #[.slice none 0 0, .int .i64 c])) w' := ⟨_, rfl, World.ownsRow_nil _ _ _ _, ext_below h⟩

set_option maxRecDepth 100000 in
set_option maxHeartbeats 2000000 in
theorem gAdd_any (ss : List Site) (rs : List Rest) (A R : Option Addr) (n c rn rc : Nat) (c0 c1 c2 : Int) (es : List Event) (L : Option Addr) (ln lc : Nat) (dy kd : Int) (si : ByteArray) (lv : Int) (rm : ByteArray) (co : Int) (od : Bool) (w : World) (hy : YardIn w ss rs A n c R rn rc) (hev : EventsIn w es L ln) (hs : si.size ≤ 100000) (hr : rm.size ≤ 100000) :
    Calls Tryz.prog 27 #[.agg #[.slice A n c, .slice R rn rc, .int .i64 c0, .int .i64 c1, .int .i64 c2], .slice L ln lc, .agg #[.int .i64 dy, .int .i64 kd, .string si, .int .i64 lv, .string rm, .int .i64 co, .bool od]] w (AddRPost w (addR ss rs (readP ss rs (bk0 A n c R rn rc c0 c1 c2) es) es ⟨dy, kd, si, lv, rm, co, od⟩)) := by
  have HR := fun W h1 h2 => read_any ss rs A R n c rn rc c0 c1 c2 es L ln lc W h1 h2
  have HS := Lib.hid hs
  have HM := Lib.hid hr
  clear hs hr
  have hln := hev.hn
  subst hln
  generalize (readP ss rs (bk0 A n c R rn rc c0 c1 c2) es) = p at *
  obtain ⟨k, er⟩ := p
  go_enter Tryz.func27, Tryz.ntmps27
  cases hq : (er != 0)
  · have HQ := Lib.hid hq
    clear hq
    by_cases hbig : (300 : Int) ≤ es.length
    · have hX : addR ss rs (k, er) es ⟨dy, kd, si, lv, rm, co, od⟩ = ([], 8) := by rw [addR, if_neg (by rw [HQ.out]; exact Bool.false_ne_true), if_pos (by simpa using hbig)]
      rw [hX]
      clear hX
      go_wp2_with (go_at_call 48; refine (HR _ (hy.keep (by repeat (first | exact B_refl | exact Below.refl _ _ | assumption | with_reducible refine B_alloc ?_ _ | with_reducible refine B_ext ?_ _ | with_reducible refine B_drew ?_ | with_reducible refine B_drewN ?_ _ | with_reducible refine B_set ?_ (by simp; omega) _))) (hev.keep (by repeat (first | exact B_refl | exact Below.refl _ _ | assumption | with_reducible refine B_alloc ?_ _ | with_reducible refine B_ext ?_ _ | with_reducible refine B_drew ?_ | with_reducible refine B_drewN ?_ _ | with_reducible refine B_set ?_ (by simp; omega) _)))).mono ?_; intro e wq hpq; obtain ⟨base, bb, rfl, hbs, henv, zq, rfl⟩ := hpq.ok HQ.out; clear hpq)
      go_ret2
      exact AddRPost.none (by repeat (first | exact B_refl | exact Below.refl _ _ | assumption | with_reducible refine B_alloc ?_ _ | with_reducible refine B_ext ?_ _ | with_reducible refine B_drew ?_ | with_reducible refine B_drewN ?_ _ | with_reducible refine B_set ?_ (by simp; omega) _))
    · cases hq2 : ((errorP k ss rs ⟨dy, kd, si, lv, rm, co, od⟩).2 != 0)
      · have HQ2 := Lib.hid hq2
        clear hq2
        have hX : addR ss rs (k, er) es ⟨dy, kd, si, lv, rm, co, od⟩ = (es ++ [⟨dy, kd, si, lv, rm, co, od⟩], 0) := by rw [addR, if_neg (by rw [HQ.out]; exact Bool.false_ne_true), if_neg (by simpa using hbig), if_neg (by rw [HQ2.out]; exact Bool.false_ne_true)]
        rw [hX]
        clear hX
        go_wp2_with (first | (go_at_call 48; refine (HR _ (hy.keep (by repeat (first | exact B_refl | exact Below.refl _ _ | assumption | with_reducible refine B_alloc ?_ _ | with_reducible refine B_ext ?_ _ | with_reducible refine B_drew ?_ | with_reducible refine B_drewN ?_ _ | with_reducible refine B_set ?_ (by simp; omega) _))) (hev.keep (by repeat (first | exact B_refl | exact Below.refl _ _ | assumption | with_reducible refine B_alloc ?_ _ | with_reducible refine B_ext ?_ _ | with_reducible refine B_drew ?_ | with_reducible refine B_drewN ?_ _ | with_reducible refine B_set ?_ (by simp; omega) _)))).mono ?_; intro e wq hpq; obtain ⟨base, bb, rfl, hbs, henv, zq, rfl⟩ := hpq.ok HQ.out; clear hpq) | (go_at_call 58; refine (add_any base bb k ss rs _ _ _ _ _ _ _ _ henv HS.out HM.out).mono ?_; intro e wq hpq; obtain ⟨rfl, _, hB3⟩ := hpq.ok HQ2.out; clear hpq; obtain ⟨z3, rfl⟩ := ext_below (Below.trans (below_ext _ _) (hB3.mono hbs.out)); clear hB3 henv hbs))
        generalize hW0 : World.ext ((w.alloc (.cells #[.slice A n c, .slice R rn rc, .int .i64 c0, .int .i64 c1, .int .i64 c2] 40)).alloc (.cells #[.int .i64 dy, .int .i64 kd, .string si, .int .i64 lv, .string rm, .int .i64 co, .bool od] 23)) z3 = W0
        have hB : Below w.heap.size w W0 := by rw [← hW0]; repeat (first | exact B_refl | exact Below.refl _ _ | assumption | with_reducible refine B_alloc ?_ _ | with_reducible refine B_ext ?_ _ | with_reducible refine B_drew ?_ | with_reducible refine B_drewN ?_ _ | with_reducible refine B_set ?_ (by simp; omega) _)
        have hE : W0.heap[w.heap.size + 1]? = some (.cells #[.int .i64 dy, .int .i64 kd, .string si, .int .i64 lv, .string rm, .int .i64 co, .bool od] 23) := by rw [← hW0]; (repeat (first | with_reducible exact G_new _ _ _ (by simp) | with_reducible exact G_new _ _ _ (by simp [ext_size]) | with_reducible refine G_drew ?_ | with_reducible refine G_ext ?_ | with_reducible refine G_alloc ?_))
        have hEl := blk_lt hE
        have hz : w.heap.size ≤ W0.heap.size := hB.size
        have hl3 : es.length ≤ 100000 := hev.l1
        clear hW0
        have e0 : W0.cell? ⟨w.heap.size + 1, 0, none⟩ = some (.int .i64 dy) := by simp [World.cell?, hE]
        have e1 : W0.cell? ⟨w.heap.size + 1, 1, none⟩ = some (.int .i64 kd) := by simp [World.cell?, hE]
        have e2 : W0.cell? ⟨w.heap.size + 1, 2, none⟩ = some (.string si) := by simp [World.cell?, hE]
        have e3 : W0.cell? ⟨w.heap.size + 1, 3, none⟩ = some (.int .i64 lv) := by simp [World.cell?, hE]
        have e4 : W0.cell? ⟨w.heap.size + 1, 4, none⟩ = some (.string rm) := by simp [World.cell?, hE]
        have e5 : W0.cell? ⟨w.heap.size + 1, 5, none⟩ = some (.int .i64 co) := by simp [World.cell?, hE]
        have e6 : W0.cell? ⟨w.heap.size + 1, 6, none⟩ = some (.bool od) := by simp [World.cell?, hE]
        clear hE HR
        go_region_law (first
           | (go_simp; go_at_call 59; refine (clone_any es _ _ _ _ (hev.keep (m := w.heap.size) ?q1)).mono ?_; case q1 => (first | exact B_drew hB | exact B_drew (B_alloc hB _ (by (first | omega | (simp; done) | (simp; omega) | (simp [ext_size]; done) | (simp [ext_size]; omega)))) | exact B_alloc (B_drew hB) _ (by (first | omega | (simp; done) | (simp; omega) | (simp [ext_size]; done) | (simp [ext_size]; omega))))
              rintro e wq ⟨v1, rfl, h1, zc, rfl⟩; simp only [drew_ext] at h1; have o1 : ∀ g, v1.ownBlock = some g → w.heap.size ≤ g := fun g hg => Nat.le_trans (by (first | omega | (simp; done) | (simp; omega) | (simp [ext_size]; done) | (simp [ext_size]; omega))) (h1.lt g hg).1; replace h1 := own_mono h1 (base' := w.heap.size) (by (first | omega | (simp; done) | (simp; omega) | (simp [ext_size]; done) | (simp [ext_size]; omega))))
           | (refine step_append_sl rfl _ _ rfl elEvent event_len event_one rfl (base := w.heap.size) (n := es.length) (m := 1) (v := v1) (xs := es.flatMap Event.cells) ?q1 rfl (ys := [⟨dy, kd, si, lv, rm, co, od⟩]) rfl ?q2 ?q3 ?q4 ?q5 ?_
              case q1 => repeat (first | with_reducible exact h1 | with_reducible refine own_ext ?_ _ | with_reducible refine own_alloc ?_ _ | with_reducible refine own_drew ?_)
              case q2 => (refine sl_event (t := 23) (fr := (0, 0)) ?_; (repeat (first | with_reducible exact G_new _ _ _ (by simp) | with_reducible exact G_new _ _ _ (by simp [ext_size]) | with_reducible refine G_drew ?_ | with_reducible refine G_ext ?_ | with_reducible refine G_alloc ?_)))
              case q3 => simp [maxLen]; omega
              case q4 => omega
              case q5 => (first | omega | (simp; done) | (simp; omega) | (simp [ext_size]; done) | (simp [ext_size]; omega))
              intro v2 w2 h2 g2 o2))
        all_goals go_wp2_with fail
        all_goals go_ret2
        all_goals refine ⟨v2, rfl, by simpa using h2, ext_below (Below.grown (by repeat (first | exact B_refl | exact Below.refl _ _ | assumption | with_reducible refine B_alloc ?_ _ | with_reducible refine B_ext ?_ _ | with_reducible refine B_drew ?_ | with_reducible refine B_drewN ?_ _ | with_reducible refine B_set ?_ (by simp; omega) _)) g2 (by (first | omega | (simp; done) | (simp; omega) | (simp [ext_size]; done) | (simp [ext_size]; omega))) o1)⟩
      · have HQ2 := Lib.hid hq2
        have hX : addR ss rs (k, er) es ⟨dy, kd, si, lv, rm, co, od⟩ = ([], (errorP k ss rs ⟨dy, kd, si, lv, rm, co, od⟩).2) := by rw [addR, if_neg (by rw [HQ.out]; exact Bool.false_ne_true), if_neg (by simpa using hbig), if_pos HQ2.out]
        rw [hX]
        clear hX
        go_wp2_with (first | (go_at_call 48; refine (HR _ (hy.keep (by repeat (first | exact B_refl | exact Below.refl _ _ | assumption | with_reducible refine B_alloc ?_ _ | with_reducible refine B_ext ?_ _ | with_reducible refine B_drew ?_ | with_reducible refine B_drewN ?_ _ | with_reducible refine B_set ?_ (by simp; omega) _))) (hev.keep (by repeat (first | exact B_refl | exact Below.refl _ _ | assumption | with_reducible refine B_alloc ?_ _ | with_reducible refine B_ext ?_ _ | with_reducible refine B_drew ?_ | with_reducible refine B_drewN ?_ _ | with_reducible refine B_set ?_ (by simp; omega) _)))).mono ?_; intro e wq hpq; obtain ⟨base, bb, rfl, hbs, henv, zq, rfl⟩ := hpq.ok HQ.out; clear hpq) | (go_at_call 58; refine (add_any base bb k ss rs _ _ _ _ _ _ _ _ henv HS.out HM.out).mono ?_; intro e wq hpq; obtain ⟨rfl, zq2, rfl⟩ := hpq.bad HQ2.out; clear hpq))
        go_ret2
        exact AddRPost.none (by repeat (first | exact B_refl | exact Below.refl _ _ | assumption | with_reducible refine B_alloc ?_ _ | with_reducible refine B_ext ?_ _ | with_reducible refine B_drew ?_ | with_reducible refine B_drewN ?_ _ | with_reducible refine B_set ?_ (by simp; omega) _))
  · have HQ := Lib.hid hq
    have hX : addR ss rs (k, er) es ⟨dy, kd, si, lv, rm, co, od⟩ = ([], er) := by rw [addR, if_pos HQ.out]
    rw [hX]
    clear hX
    go_wp2_with (go_at_call 48; refine (HR _ (hy.keep (by repeat (first | exact B_refl | exact Below.refl _ _ | assumption | with_reducible refine B_alloc ?_ _ | with_reducible refine B_ext ?_ _ | with_reducible refine B_drew ?_ | with_reducible refine B_drewN ?_ _ | with_reducible refine B_set ?_ (by simp; omega) _))) (hev.keep (by repeat (first | exact B_refl | exact Below.refl _ _ | assumption | with_reducible refine B_alloc ?_ _ | with_reducible refine B_ext ?_ _ | with_reducible refine B_drew ?_ | with_reducible refine B_drewN ?_ _ | with_reducible refine B_set ?_ (by simp; omega) _)))).mono ?_; intro e wq hpq; obtain ⟨rfl, zq, rfl⟩ := hpq.bad HQ.out; clear hpq)
    go_ret2
    exact AddRPost.none (by repeat (first | exact B_refl | exact Below.refl _ _ | assumption | with_reducible refine B_alloc ?_ _ | with_reducible refine B_ext ?_ _ | with_reducible refine B_drew ?_ | with_reducible refine B_drewN ?_ _ | with_reducible refine B_set ?_ (by simp; omega) _))
end Go.Proofs.YtpohkolapgofdaaGreatDoor

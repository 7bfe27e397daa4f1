/- Walk: a yard behind all events, and a site. -/
/- Walk: how many burials are left at a site. -/
/- Walk: the first free level of a site. -/
/- Walk: all free levels on a day, whatever the yard and the events. -/
import Derived.Test.YtmiobhlgpjjbgaaF4
import Derived.Test.YtmiobhlgpjjbgaaR2
import Derived.Test.YtmiobhlgpjjbgaaL9
import Derived.Stop.RegionWithIn
namespace Go.Proofs.Ytmiobhlgpjjbgaa
open Go.RowKit
attribute [local go_sem] World.cell?_alloc_mark ext_size ext_cell ext_frozen lt_add_r lt_add_r2 lt_add_r3 lt_add_r4 lt_add_r5 lt_add_r6 lt_add_r7 lt_add_r8
attribute [local go_sem] ext_setCell alloc_setCell_lt

def Site.v (s : Site) : Value := .agg #[.string s.name, .int .i64 s.kind, .int .i64 s.soil, .int .i64 s.depth, .int .i64 s.step, .int .i64 s.room]
def wsErr (p : Bk × Int) (ss : List Site) (nm : ByteArray) : Int := if p.2 != 0 then p.2 else if (findSite nm ss).isSome then 0 else 6
def WsPost (w : World) (ss : List Site) (rs : List Rest) (p : Bk × Int) (nm : ByteArray) (e : Ending) (w' : World) : Prop :=
  (wsErr p ss nm ≠ 0 ∧ Ret w (.tuple #[.pointer none, zeroSite.v, .int .i64 (wsErr p ss nm)]) e w') ∨
  (wsErr p ss nm = 0 ∧ ∃ s bb, findSite nm ss = some s ∧ e = .returned (.tuple #[.pointer (some ⟨bb, 0, none⟩), s.v, .int .i64 0]) ∧ Env w' w.heap.size bb p.1 ss rs ∧ ∃ z, w' = w.ext z)
theorem WsPost.bad {w w' : World} {ss : List Site} {rs : List Rest} {p : Bk × Int} {nm : ByteArray} {e : Ending} (h : WsPost w ss rs p nm e w') (h0 : (wsErr p ss nm != 0) = true) : e = .returned (.tuple #[.pointer none, zeroSite.v, .int .i64 (wsErr p ss nm)]) ∧ ∃ z, w' = w.ext z := by
  rcases h with ⟨_, h⟩ | ⟨h, _⟩
  · exact h
  · simp [h] at h0
theorem WsPost.ok {w w' : World} {ss : List Site} {rs : List Rest} {p : Bk × Int} {nm : ByteArray} {e : Ending} {s : Site} (h : WsPost w ss rs p nm e w') (h0 : (wsErr p ss nm != 0) = false) (hs : findSite nm ss = some s) :
    ∃ base bb, e = .returned (.tuple #[.pointer (some ⟨bb, 0, none⟩), s.v, .int .i64 0]) ∧ Hid (w.heap.size ≤ base) ∧ Env w' base bb p.1 ss rs ∧ ∃ z, w' = w.ext z := by
  rcases h with ⟨h, _⟩ | ⟨_, h⟩
  · simp at h0; exact absurd h0 h
  · obtain ⟨s', bb, h1, h2, h3, h4⟩ := h
    rw [hs] at h1
    cases h1
    exact ⟨_, bb, h2, Nat.le_refl _, h3, h4⟩
theorem results_tct {fn : Func} {p q u : Tmp} {ty : TypeId} (h : fn.results = #[.tmp p, .cell q ty, .tmp u]) (tmps : Array Value) (P : Program) (w : World) :
    (results fn tmps).run P w = ((asAddr (tmps.getD q undef)).run P w).andThen fun a w₁ => ((loadVar ty a).run P w₁).andThen fun v w₂ => .ok (.tuple #[tmps.getD p undef, v, tmps.getD u undef]) w₂ := by
  simp only [results, h]
  simp [Sem.run_bind, Result.andThen]
theorem results_ws {fn : Func} {p q u : Tmp} (h : fn.results = #[.tmp p, .cell q 32, .tmp u]) (tmps : Array Value) (w : World) (B : Nat) (s : Site) (x y : Value) (hp : tmps.getD p undef = x) (hq : tmps.getD q undef = .pointer (some ⟨B, 0, none⟩)) (hu : tmps.getD u undef = y)
    (h0 : w.cell? ⟨B, 0, none⟩ = some (.string s.name)) (h1 : w.cell? ⟨B, 1, none⟩ = some (.int .i64 s.kind)) (h2 : w.cell? ⟨B, 2, none⟩ = some (.int .i64 s.soil)) (h3 : w.cell? ⟨B, 3, none⟩ = some (.int .i64 s.depth))
    (h4 : w.cell? ⟨B, 4, none⟩ = some (.int .i64 s.step)) (h5 : w.cell? ⟨B, 5, none⟩ = some (.int .i64 s.room)) : (results fn tmps).run Try.prog w = .ok (.tuple #[x, s.v, y]) w := by
  rw [results_tct h, hq, hp, hu]
  unfold Site.v
  go_simp
theorem adds_yard {ss : List Site} {rs : List Rest} : ∀ (es : List Event) (k : Bk), (addsP ss rs k es).1.A = k.A ∧ (addsP ss rs k es).1.R = k.R
  | [], _ => ⟨rfl, rfl⟩
  | e :: l, k => by
    unfold addsP
    split
    · exact ⟨rfl, rfl⟩
    · exact adds_yard l _
theorem readP_yard (ss : List Site) (rs : List Rest) (A R : Option Addr) (n c rn rc : Nat) (c0 c1 c2 : Int) (es : List Event) : (readP ss rs (bk0 A n c R rn rc c0 c1 c2) es).1.A = A ∧ (readP ss rs (bk0 A n c R rn rc c0 c1 c2) es).1.R = R := by
  unfold readP
  split
  · exact ⟨rfl, rfl⟩
  split
  · exact ⟨rfl, rfl⟩
  · exact adds_yard es _
theorem upTo_yard {ss : List Site} {rs : List Rest} {day : Int} : ∀ (es : List Event) (k : Bk), (upToP ss rs day k es).A = k.A ∧ (upToP ss rs day k es).R = k.R
  | [], _ => ⟨rfl, rfl⟩
  | e :: l, k => by
    unfold upToP
    split
    · split
      · exact upTo_yard l _
      · exact upTo_yard l _
    · exact upTo_yard l _
/-- A book stays when a block below its own memory is turned. -/
theorem BookAt.turned {w W : World} {base bb g : Nat} {k : Bk} (h : BookAt w base bb k) (hg : w.grownBy W (some g)) (hgb : g < base) : BookAt W base bb k := by
  obtain ⟨v, bm, h1, h2, h3, h4, h5⟩ := h
  have hne : ∀ b, base ≤ b → some b ≠ some g := fun b hb e => by
    have : b = g := by simpa using e
    omega
  refine ⟨v, bm, (hg.block bb (blk_lt h1) (hne bb h4)).trans h1, h2.kept hg ?_, h3.keep (hg.block bm h3.lt (hne bm h5)), h4, h5⟩
  refine .inr ?_
  intro e
  have h6 := own_ge h2 g (by first | exact e | exact e.symm)
  omega
theorem Env.turned {w W W' : World} {base bb g n c rn rc : Nat} {k : Bk} {ss : List Site} {rs : List Rest} {A R : Option Addr} (h : Env W base bb k ss rs) (hg : W.grownBy W' (some g)) (hgb : g < base) (hA : k.A = A) (hR : k.R = R) (hy : YardIn w ss rs A n c R rn rc) (hB : Below w.heap.size w W') : Env W' base bb k ss rs :=
  ⟨h.bk.turned hg hgb, by rw [hA]; exact hy.sl.keep hB, by rw [hR]; exact hy.sr.keep hB, h.hn, h.hrn, h.cap, h.l1, h.l2, h.l3, h.good, h.short, h.lies⟩
theorem alloc_swap (w : World) (o o' : Obj) (z : Ez) : ((w.alloc o).ext z).grownBy ((w.alloc o').ext z) (some w.heap.size) := by
  refine ⟨rfl, rfl, rfl, by simp [ext_size], fun i hi hne => ?_⟩
  have hne' : i ≠ w.heap.size := fun e => hne (by rw [e])
  simp only [World.ext, Array.getElem?_append, World.size_alloc, alloc_get]
  split
  · simp [hne']
  · rfl
set_option maxRecDepth 100000 in
set_option maxHeartbeats 2000000 in
theorem withSite_any (ss : List Site) (rs : List Rest) (A R : Option Addr) (n c rn rc : Nat) (c0 c1 c2 : Int) (es : List Event) (L : Option Addr) (ln lc : Nat) (nm : ByteArray) (w : World) (hy : YardIn w ss rs A n c R rn rc) (hev : EventsIn w es L ln) :
    Calls Try.prog 70 #[.agg #[.slice A n c, .slice R rn rc, .int .i64 c0, .int .i64 c1, .int .i64 c2], .slice L ln lc, .string nm] w (WsPost w ss rs (readP ss rs (bk0 A n c R rn rc c0 c1 c2) es) nm) := by
  have HR := fun W h1 h2 => read_any ss rs A R n c rn rc c0 c1 c2 es L ln lc W h1 h2
  obtain ⟨hkA, hkR⟩ := readP_yard ss rs A R n c rn rc c0 c1 c2 es
  generalize readP ss rs (bk0 A n c R rn rc c0 c1 c2) es = p at *
  obtain ⟨k, er⟩ := p
  dsimp only at hkA hkR
  have HKA := Lib.hid hkA
  have HKR := Lib.hid hkR
  clear hkA hkR
  have hres := site_res hy.sl nm
  have hln := hy.hn
  subst hln
  have hl1 := hy.l1
  go_enter Try.func70, Try.ntmps70
  cases hq : (er != 0)
  · have HQ := Lib.hid hq
    clear hq
    cases hf : findSite nm ss with
    | none =>
      rw [hf] at hres
      have hp : sitePtr A nm ss = none := hres
      have HX : Hid (wsErr (k, er) ss nm = 6) := by show _ = _; unfold wsErr; dsimp only; rw [HQ.out, hf]; rfl
      clear hres hf
      go_wp2_with (first
        | (go_at_call 61; refine (HR _ (hy.keep (by repeat (first | exact B_refl | exact Below.refl _ _ | assumption | with_reducible refine B_alloc ?_ _ | with_reducible refine B_ext ?_ _ | with_reducible refine B_drew ?_ | with_reducible refine B_drewN ?_ _ | with_reducible refine B_set ?_ (by simp; omega) _))) (hev.keep (by repeat (first | exact B_refl | exact Below.refl _ _ | assumption | with_reducible refine B_alloc ?_ _ | with_reducible refine B_ext ?_ _ | with_reducible refine B_drew ?_ | with_reducible refine B_drewN ?_ _ | with_reducible refine B_set ?_ (by simp; omega) _)))).mono ?_; intro e wq hpq; obtain ⟨base, bb, rfl, hbs, henv, zq, rfl⟩ := hpq.ok HQ.out; clear hpq)
        | (go_at_call 59; refine (siteOf_any ss _ _ _ _ _ _ _ _ _ _ _ hy.hn (hy.sl.keep (n := w.heap.size) (by repeat (first | exact B_refl | exact Below.refl _ _ | assumption | with_reducible refine B_alloc ?_ _ | with_reducible refine B_ext ?_ _ | with_reducible refine B_drew ?_ | with_reducible refine B_drewN ?_ _ | with_reducible refine B_set ?_ (by simp; omega) _))) (by omega)).mono ?_; rintro e wq ⟨rfl, zs, rfl⟩))
      refine bodyPost_ret (v := .tuple #[.pointer none, zeroSite.v, .int .i64 6]) (results_ws rfl _ _ (w.heap.size + 1) zeroSite _ _ rfl rfl rfl (by simp [go_sem, zeroSite]) (by simp [go_sem, zeroSite]) (by simp [go_sem, zeroSite]) (by simp [go_sem, zeroSite]) (by simp [go_sem, zeroSite]) (by simp [go_sem, zeroSite])) rfl ?_
      exact .inl ⟨by rw [HX.out]; decide, Ret.of (by rw [HX.out]) (by repeat (first | exact B_refl | exact Below.refl _ _ | assumption | with_reducible refine B_alloc ?_ _ | with_reducible refine B_ext ?_ _ | with_reducible refine B_drew ?_ | with_reducible refine B_drewN ?_ _ | with_reducible refine B_set ?_ (by simp; omega) _))⟩
    | some s =>
      have HF := Lib.hid hf
      have HX : Hid (wsErr (k, er) ss nm = 0) := by show _ = _; unfold wsErr; dsimp only; rw [HQ.out, hf]; rfl
      rw [hf] at hres
      obtain ⟨b, off, hp, hb, hcs⟩ := hres
      have x0 : w.cell? ⟨b, off, none⟩ = some (.string s.name) := hcs 0 _ rfl
      have x1 : w.cell? ⟨b, off + 1, none⟩ = some (.int .i64 s.kind) := hcs 1 _ rfl
      have x2 : w.cell? ⟨b, off + 2, none⟩ = some (.int .i64 s.soil) := hcs 2 _ rfl
      have x3 : w.cell? ⟨b, off + 3, none⟩ = some (.int .i64 s.depth) := hcs 3 _ rfl
      have x4 : w.cell? ⟨b, off + 4, none⟩ = some (.int .i64 s.step) := hcs 4 _ rfl
      have x5 : w.cell? ⟨b, off + 5, none⟩ = some (.int .i64 s.room) := hcs 5 _ rfl
      clear hcs hf
      obtain ⟨a, kd, so, d, st, r⟩ := s
      dsimp only at x0 x1 x2 x3 x4 x5
      go_wp2_with (first
        | (go_at_call 61; refine (HR _ (hy.keep (by repeat (first | exact B_refl | exact Below.refl _ _ | assumption | with_reducible refine B_alloc ?_ _ | with_reducible refine B_ext ?_ _ | with_reducible refine B_drew ?_ | with_reducible refine B_drewN ?_ _ | with_reducible refine B_set ?_ (by simp; omega) _))) (hev.keep (by repeat (first | exact B_refl | exact Below.refl _ _ | assumption | with_reducible refine B_alloc ?_ _ | with_reducible refine B_ext ?_ _ | with_reducible refine B_drew ?_ | with_reducible refine B_drewN ?_ _ | with_reducible refine B_set ?_ (by simp; omega) _)))).mono ?_; intro e wq hpq; obtain ⟨base, bb, rfl, hbs, henv, zq, rfl⟩ := hpq.ok HQ.out; clear hpq)
        | (go_at_call 59; refine (siteOf_any ss _ _ _ _ _ _ _ _ _ _ _ hy.hn (hy.sl.keep (n := w.heap.size) (by repeat (first | exact B_refl | exact Below.refl _ _ | assumption | with_reducible refine B_alloc ?_ _ | with_reducible refine B_ext ?_ _ | with_reducible refine B_drew ?_ | with_reducible refine B_drewN ?_ _ | with_reducible refine B_set ?_ (by simp; omega) _))) (by omega)).mono ?_; rintro e wq ⟨rfl, zs, rfl⟩))
      go_region
      all_goals go_wp2_with fail
      all_goals refine bodyPost_ret (v := .tuple #[.pointer (some ⟨bb, 0, none⟩), Site.v ⟨a, kd, so, d, st, r⟩, .int .i64 0]) (results_ws rfl _ _ (w.heap.size + 1) ⟨a, kd, so, d, st, r⟩ _ _ rfl rfl rfl (by simp [go_sem, zeroSite]) (by simp [go_sem, zeroSite]) (by simp [go_sem, zeroSite]) (by simp [go_sem, zeroSite]) (by simp [go_sem, zeroSite]) (by simp [go_sem, zeroSite])) rfl ?_
      all_goals exact .inr ⟨HX.out, _, bb, HF.out, rfl, ((henv.turned (alloc_swap _ _ (.cells #[.string a, .int .i64 kd, .int .i64 so, .int .i64 d, .int .i64 st, .int .i64 r] 32) _) (by have := hbs.out; simp at this ⊢; omega) HKA.out HKR.out hy (by repeat (first | exact B_refl | exact Below.refl _ _ | assumption | with_reducible refine B_alloc ?_ _ | with_reducible refine B_ext ?_ _ | with_reducible refine B_drew ?_ | with_reducible refine B_drewN ?_ _ | with_reducible refine B_set ?_ (by simp; omega) _))).keep (n := (World.ext ((w.alloc (.cells #[.slice A ss.length c, .slice R rn rc, .int .i64 c0, .int .i64 c1, .int .i64 c2] 26)).alloc (.cells #[.string a, .int .i64 kd, .int .i64 so, .int .i64 d, .int .i64 st, .int .i64 r] 32)) zq).heap.size) (by repeat (first | exact B_refl | exact Below.refl _ _ | assumption | with_reducible refine B_alloc ?_ _ | with_reducible refine B_ext ?_ _ | with_reducible refine B_drew ?_ | with_reducible refine B_drewN ?_ _ | with_reducible refine B_set ?_ (by simp; omega) _))).mono (by have := hbs.out; simp at this; omega), ext_below (by repeat (first | exact B_refl | exact Below.refl _ _ | assumption | with_reducible refine B_alloc ?_ _ | with_reducible refine B_ext ?_ _ | with_reducible refine B_drew ?_ | with_reducible refine B_drewN ?_ _ | with_reducible refine B_set ?_ (by simp; omega) _))⟩
  · have HQ := Lib.hid hq
    have HX : Hid (wsErr (k, er) ss nm = er) := by show _ = _; unfold wsErr; dsimp only; rw [HQ.out]; rfl
    go_wp2_with (go_at_call 61; refine (HR _ (hy.keep (by repeat (first | exact B_refl | exact Below.refl _ _ | assumption | with_reducible refine B_alloc ?_ _ | with_reducible refine B_ext ?_ _ | with_reducible refine B_drew ?_ | with_reducible refine B_drewN ?_ _ | with_reducible refine B_set ?_ (by simp; omega) _))) (hev.keep (by repeat (first | exact B_refl | exact Below.refl _ _ | assumption | with_reducible refine B_alloc ?_ _ | with_reducible refine B_ext ?_ _ | with_reducible refine B_drew ?_ | with_reducible refine B_drewN ?_ _ | with_reducible refine B_set ?_ (by simp; omega) _)))).mono ?_; intro e wq hpq; obtain ⟨rfl, zq, rfl⟩ := hpq.bad HQ.out; clear hpq)
    refine bodyPost_ret (v := .tuple #[.pointer none, zeroSite.v, .int .i64 er]) (results_ws rfl _ _ (w.heap.size + 1) zeroSite _ _ rfl rfl rfl (by simp [go_sem, zeroSite]) (by simp [go_sem, zeroSite]) (by simp [go_sem, zeroSite]) (by simp [go_sem, zeroSite]) (by simp [go_sem, zeroSite]) (by simp [go_sem, zeroSite])) rfl ?_
    exact .inl ⟨by rw [HX.out]; simpa using HQ.out, Ret.of (by rw [HX.out]) (by repeat (first | exact B_refl | exact Below.refl _ _ | assumption | with_reducible refine B_alloc ?_ _ | with_reducible refine B_ext ?_ _ | with_reducible refine B_drew ?_ | with_reducible refine B_drewN ?_ _ | with_reducible refine B_set ?_ (by simp; omega) _))⟩
end Go.Proofs.Ytmiobhlgpjjbgaa
namespace Go.Proofs.Ytmiobhlgpjjbgaa
open Go.RowKit Go.Shelf
attribute [local go_sem] World.cell?_alloc_mark ext_size ext_cell ext_frozen lt_add_r lt_add_r2 lt_add_r3 lt_add_r4 lt_add_r5 lt_add_r6 lt_add_r7 lt_add_r8
attribute [local go_sem] Oper.semAt_some

def leftR (p : Bk × Int) (ss : List Site) (nm : ByteArray) (co : Int) : Int × Int :=
  if wsErr p ss nm != 0 then (0, wsErr p ss nm) else if !inR co 0 2 then (0, 2) else
  match findSite nm ss with
  | none => (0, 0)
  | some s => if s.kind == 3 then (0, 15) else ((freeTo p.1 ss nm co s.room.toNat).length, 0)
theorem wsErr_some {p : Bk × Int} {ss : List Site} {nm : ByteArray} (h : (wsErr p ss nm != 0) = false) : ∃ s, findSite nm ss = some s := by
  unfold wsErr at h
  cases hf : findSite nm ss with
  | some s => exact ⟨s, rfl⟩
  | none =>
    rw [hf] at h
    exfalso
    split at h
    · rename_i h1
      rw [h1] at h
      cases h
    · simp at h

theorem wsErr_zero {p : Bk × Int} {ss : List Site} {nm : ByteArray} (h : (wsErr p ss nm != 0) = false) : p.2 = 0 := by
  unfold wsErr at h
  split at h
  · rename_i h1
    rw [h1] at h
    cases h
  · rename_i h1
    simpa using h1
theorem readP_rooms {ss : List Site} {rs : List Rest} {A R : Option Addr} {n c rn rc : Nat} {c0 c1 c2 : Int} {es : List Event} (h : (readP ss rs (bk0 A n c R rn rc c0 c1 c2) es).2 = 0) : ∀ s ∈ ss, 1 ≤ s.room ∧ s.room ≤ 12 := by
  have hc : checkYardP ss rs c0 c1 c2 = 0 := by
    unfold readP at h
    split at h
    · exact h
    · rename_i h1
      simpa [bk0] using h1
  intro s hs
  have := checkSite_room (yard_room hc s hs)
  omega

set_option maxRecDepth 100000 in
set_option maxHeartbeats 2000000 in
theorem gLeft_in (ss : List Site) (rs : List Rest) (A R : Option Addr) (n c rn rc : Nat) (c0 c1 c2 : Int) (es : List Event) (L : Option Addr) (ln lc : Nat) (nm : ByteArray) (co : Int) (w : World) (hy : YardIn w ss rs A n c R rn rc) (hev : EventsIn w es L ln) :
    CallsIn Fence.wide 9 Try.prog 36 #[.agg #[.slice A n c, .slice R rn rc, .int .i64 c0, .int .i64 c1, .int .i64 c2], .slice L ln lc, .string nm, .int .i64 co] w (Ret w (ret2 (leftR (readP ss rs (bk0 A n c R rn rc c0 c1 c2) es) ss nm co))) := by
  have HW := fun W h1 h2 => withSite_any ss rs A R n c rn rc c0 c1 c2 es L ln lc nm W h1 h2
  have hrm := fun h => readP_rooms (ss := ss) (rs := rs) (A := A) (R := R) (n := n) (c := c) (rn := rn) (rc := rc) (c0 := c0) (c1 := c1) (c2 := c2) (es := es) h
  generalize readP ss rs (bk0 A n c R rn rc c0 c1 c2) es = p at *
  refine callsIn_of_wp_marks Try.func36 rfl trivial ?_ rfl
  simp only [Try.ntmps36, List.size_toArray, List.length_cons, List.length_nil, Nat.reduceAdd, Nat.reduceSub, Array.replicate_succ, Array.replicate_zero, List.push_toArray, List.append_toArray, List.nil_append, List.cons_append]
  cases hq : (wsErr p ss nm != 0)
  · have HQ := Lib.hid hq
    obtain ⟨s, hf⟩ := wsErr_some hq
    have HF := Lib.hid hf
    have hnm := findSite_name hf
    have hr : s.room ≤ 100000 := by have := hrm (wsErr_zero hq) s (findSite_mem hf); omega
    have HX : Hid (leftR p ss nm co = if !inR co 0 2 then (0, 2) else if s.kind == 3 then (0, 15) else (((freeTo p.1 ss nm co s.room.toNat).length : Int), 0)) := by
      show _ = _
      unfold leftR
      rw [hq, hf]
      simp
    clear hq hf hrm
    obtain ⟨a, kd, so, d, st, r⟩ := s
    dsimp only at hnm HX hr
    subst hnm
    generalize leftR p ss a co = Y at *
    cases hg1 : inR co 0 2
    · have HY : Hid (Y = (0, 2)) := by show _ = _; rw [HX.out, hg1]; rfl
      gi_wp2_with (first | (refine ⟨trivial, ?_⟩; gi_at_call 70; refine (callsIn_wide.2 (HW _ (hy.keep (by repeat (first | exact B_refl | exact Below.refl _ _ | assumption | with_reducible refine B_alloc ?_ _ | with_reducible refine B_ext ?_ _ | with_reducible refine B_drew ?_ | with_reducible refine B_drewN ?_ _ | with_reducible refine B_set ?_ (by simp; omega) _))) (hev.keep (by repeat (first | exact B_refl | exact Below.refl _ _ | assumption | with_reducible refine B_alloc ?_ _ | with_reducible refine B_ext ?_ _ | with_reducible refine B_drew ?_ | with_reducible refine B_drewN ?_ _ | with_reducible refine B_set ?_ (by simp; omega) _))))).mono ?_; intro e wq hpq; obtain ⟨base, bb, rfl, hbs, henv, zq, rfl⟩ := hpq.ok HQ.out HF.out; clear hpq; unfold Site.v) | (refine ⟨trivial, ?_⟩; gi_at_call 60; refine (callsIn_wide.2 (isContainer_any _ _)).mono ?_; rintro e wq ⟨rfl, rfl⟩; rw [hg1]))
      refine leaves_none (.tuple #[.int .i64 0, .int .i64 2]) (by simp [results, Try.f36]) ?_
      exact Ret.of (by rw [HY.out]; rfl) (by repeat (first | exact B_refl | exact Below.refl _ _ | assumption | with_reducible refine B_alloc ?_ _ | with_reducible refine B_ext ?_ _ | with_reducible refine B_drew ?_ | with_reducible refine B_drewN ?_ _ | with_reducible refine B_set ?_ (by simp; omega) _))
    cases hk : (kd == 3)
    rotate_left
    · have HY : Hid (Y = (0, 15)) := by show _ = _; rw [HX.out, hg1, hk]; rfl
      gi_wp2_with (first | (refine ⟨trivial, ?_⟩; gi_at_call 70; refine (callsIn_wide.2 (HW _ (hy.keep (by repeat (first | exact B_refl | exact Below.refl _ _ | assumption | with_reducible refine B_alloc ?_ _ | with_reducible refine B_ext ?_ _ | with_reducible refine B_drew ?_ | with_reducible refine B_drewN ?_ _ | with_reducible refine B_set ?_ (by simp; omega) _))) (hev.keep (by repeat (first | exact B_refl | exact Below.refl _ _ | assumption | with_reducible refine B_alloc ?_ _ | with_reducible refine B_ext ?_ _ | with_reducible refine B_drew ?_ | with_reducible refine B_drewN ?_ _ | with_reducible refine B_set ?_ (by simp; omega) _))))).mono ?_; intro e wq hpq; obtain ⟨base, bb, rfl, hbs, henv, zq, rfl⟩ := hpq.ok HQ.out HF.out; clear hpq; unfold Site.v) | (refine ⟨trivial, ?_⟩; gi_at_call 60; refine (callsIn_wide.2 (isContainer_any _ _)).mono ?_; rintro e wq ⟨rfl, rfl⟩; rw [hg1]))
      refine leaves_none (.tuple #[.int .i64 0, .int .i64 15]) (by simp [results, Try.f36]) ?_
      exact Ret.of (by rw [HY.out]; rfl) (by repeat (first | exact B_refl | exact Below.refl _ _ | assumption | with_reducible refine B_alloc ?_ _ | with_reducible refine B_ext ?_ _ | with_reducible refine B_drew ?_ | with_reducible refine B_drewN ?_ _ | with_reducible refine B_set ?_ (by simp; omega) _))
    have HY : Hid (Y = (((freeTo p.1 ss a co r.toNat).length : Int), 0)) := by show _ = _; rw [HX.out, hg1, hk]; rfl
    have hcc : 0 ≤ co ∧ co ≤ 2 := by simp [inR] at hg1; exact hg1
    have HC := Lib.hid hcc
    clear HX hcc
    gi_wp2_with (first
      | (refine ⟨trivial, ?_⟩; gi_at_call 70; refine (callsIn_wide.2 (HW _ (hy.keep (by repeat (first | exact B_refl | exact Below.refl _ _ | assumption | with_reducible refine B_alloc ?_ _ | with_reducible refine B_ext ?_ _ | with_reducible refine B_drew ?_ | with_reducible refine B_drewN ?_ _ | with_reducible refine B_set ?_ (by simp; omega) _))) (hev.keep (by repeat (first | exact B_refl | exact Below.refl _ _ | assumption | with_reducible refine B_alloc ?_ _ | with_reducible refine B_ext ?_ _ | with_reducible refine B_drew ?_ | with_reducible refine B_drewN ?_ _ | with_reducible refine B_set ?_ (by simp; omega) _))))).mono ?_; intro e wq hpq; obtain ⟨base, bb, rfl, hbs, henv, zq, rfl⟩ := hpq.ok HQ.out HF.out; clear hpq; unfold Site.v)
      | (refine ⟨trivial, ?_⟩; gi_at_call 60; refine (callsIn_wide.2 (isContainer_any _ _)).mono ?_; rintro e wq ⟨rfl, rfl⟩; rw [hg1])
      | (refine ⟨trivial, ?_⟩; gi_at_call 69; refine (callsIn_wide.2 (free_any _ _ _ _ _ _ _ _ _)).mono ?_; rintro e wq ⟨rfl, rfl⟩))
    obtain ⟨hc1, hc2⟩ := HC.out
    generalize hWe : World.ext (w.alloc (.cells #[.slice A n c, .slice R rn rc, .int .i64 c0, .int .i64 c1, .int .i64 c2] 26)) zq = We at *
    have hBe : Below w.heap.size w We := by rw [← hWe]; repeat (first | exact B_refl | exact Below.refl _ _ | assumption | with_reducible refine B_alloc ?_ _ | with_reducible refine B_ext ?_ _ | with_reducible refine B_drew ?_ | with_reducible refine B_drewN ?_ _ | with_reducible refine B_set ?_ (by simp; omega) _)
    have hse : w.heap.size + 1 + zq.os.size = We.heap.size := by rw [← hWe]; simp [ext_size]
    simp only [hse]
    generalize hq : We.heap.size = q at *
    generalize hW3 : ((((We.alloc (.cells #[.string a, .int .i64 kd, .int .i64 so, .int .i64 d, .int .i64 st, .int .i64 r] 32)).alloc (.cells #[.int .i64 0] 3)).alloc (.cells #[.pointer (some ⟨bb, 0, none⟩)] 115)).alloc (.cells #[.string a, .int .i64 kd, .int .i64 so, .int .i64 d, .int .i64 st, .int .i64 r] 32)).alloc (.cells #[.int .i64 co] 3) = W3
    have hz3 : W3.heap.size = q + 5 := by rw [← hW3]; simp [hq]
    have s0 : W3.heap[q + 1]? = some (.cells #[.int .i64 0] 3 (0, 0)) := by rw [← hW3]; simp only [alloc_get, World.size_alloc, hq]; rw [if_neg (by omega), if_neg (by omega), if_neg (by omega), if_pos trivial]
    have s1 : W3.heap[q + 1 + 1]? = some (.cells #[.pointer (some ⟨bb, 0, none⟩)] 115 (0, 0)) := by rw [← hW3]; simp only [alloc_get, World.size_alloc, hq]; rw [if_neg (by omega), if_neg (by omega), if_pos trivial]
    have s2 : W3.heap[q + 1 + 1 + 1]? = some (.cells #[.string a, .int .i64 kd, .int .i64 so, .int .i64 d, .int .i64 st, .int .i64 r] 32 (0, 0)) := by rw [← hW3]; simp only [alloc_get, World.size_alloc, hq]; rw [if_neg (by omega), if_pos trivial]
    have s3 : W3.heap[q + 1 + 1 + 2]? = some (.cells #[.int .i64 co] 3 (0, 0)) := by rw [← hW3]; exact G_new _ _ _ (by simp [hq])
    have hB3 : Below q We W3 := by rw [← hW3, ← hq]; repeat (first | exact B_refl | exact Below.refl _ _ | assumption | with_reducible refine B_alloc ?_ _ | with_reducible refine B_ext ?_ _ | with_reducible refine B_drew ?_ | with_reducible refine B_drewN ?_ _ | with_reducible refine B_set ?_ (by simp; omega) _)
    clear hW3
    refine wpIn_range_bound rfl (by omega) (gf := 85) (lf := #[]) (lb := #[.pointer (some ⟨q + 1 + 1 + 1, 0, none⟩), .pointer (some ⟨q + 1 + 1, 0, none⟩), .pointer (some ⟨q + 1 + 1 + 2, 0, none⟩)]) rfl trivial (enters_of Try.func85 (by kernel_rfl) rfl)
      (free1_seq (9 - 1) (by omega) q base bb (q + 1 + 1 + 1) (q + 1 + 1) (q + 1 + 1 + 2) p.1 ss rs a kd so d st r co We W3 henv (by omega) (by omega) hB3 s2 s1 s3 hr hc1 hc2) Kf.trans
      (fun W l o o' hl ho _ _ => Kf.put W o o' (by omega) (by omega) (by omega) (by omega)) (Below.refl _ _) (fun _ => rfl)
      (fun pre W => W.heap[q + 1]? = some (.cells #[.int .i64 (pre.length : Int)] 3 (0, 0)) ∧ (W.heap[q + 1 + 1]? = some (.cells #[.pointer (some ⟨bb, 0, none⟩)] 115 (0, 0)) ∧ W.heap[q + 1 + 1 + 1]? = some (.cells #[.string a, .int .i64 kd, .int .i64 so, .int .i64 d, .int .i64 st, .int .i64 r] 32 (0, 0)) ∧ W.heap[q + 1 + 1 + 2]? = some (.cells #[.int .i64 co] 3 (0, 0))) ∧ Below q We W)
      (fun _ _ _ => False)
      (fun s A B row hs hg hr => ⟨blk_own hs.1 hg (fun r e => (hr r e).2), ⟨blk_own hs.2.1.1 hg (fun r e => (hr r e).2), blk_own hs.2.1.2.1 hg (fun r e => (hr r e).2), blk_own hs.2.1.2.2 hg (fun r e => (hr r e).2)⟩, hs.2.2.grown hg (by have := hs.2.2.size; omega) (fun r e => by have := (hr r e).1; omega)⟩)
      (fun _ s A B row hs _ _ => hs.elim) ⟨s0, ⟨s1, s2, s3⟩, hB3⟩
      (fun x a' _ => ∃ u39 u40 u41, a' = { tmps := #[.agg #[.slice A n c, .slice R rn rc, .int .i64 c0, .int .i64 c1, .int .i64 c2], .slice L ln lc, .string a, .int .i64 co, .pointer (some ⟨w.heap.size, 0, none⟩), undef, undef, undef, .int .i64 0, .int .i64 0, .pointer (some ⟨bb, 0, none⟩), .pointer (some ⟨q, 0, none⟩), .int .i64 0, .pointer (some ⟨q + 1, 0, none⟩), .tuple #[.pointer (some ⟨bb, 0, none⟩), .agg #[.string a, .int .i64 kd, .int .i64 so, .int .i64 d, .int .i64 st, .int .i64 r], .int .i64 0], .agg #[.slice A n c, .slice R rn rc, .int .i64 c0, .int .i64 c1, .int .i64 c2], .slice L ln lc, .string a, .tuple #[.pointer (some ⟨bb, 0, none⟩), .agg #[.string a, .int .i64 kd, .int .i64 so, .int .i64 d, .int .i64 st, .int .i64 r], .int .i64 0], .pointer (some ⟨bb, 0, none⟩), .agg #[.string a, .int .i64 kd, .int .i64 so, .int .i64 d, .int .i64 st, .int .i64 r], .int .i64 0, .bool false, .int .i64 0, .bool false, undef, .bool false, .int .i64 co, .bool true, .bool false, .bool false, .pointer (some ⟨q, 1, none⟩), .int .i64 kd, .bool false, .pointer (some ⟨bb, 0, none⟩), .agg #[.string a, .int .i64 kd, .int .i64 so, .int .i64 d, .int .i64 st, .int .i64 r], .int .i64 co, .func (.func 85) #[] #[.pointer (some ⟨q + 1 + 1 + 1, 0, none⟩), .pointer (some ⟨q + 1 + 1, 0, none⟩), .pointer (some ⟨q + 1 + 1 + 2, 0, none⟩)], .int .i64 x, u39, u40, u41], defers := [] }) (fun x a' s A B row hs _ _ => hs) ?assign ?body ?done ?stop
    case assign =>
      rintro l pre x W K hi hK
      gi_wp2
      exact hK _ _ (KeepsFrom.refl _ _) (Kf.refl _ _ _ _ _) hi ⟨_, _, _, rfl⟩
    case body =>
      rintro l pre x a' W hWl _ ⟨hv, ⟨y1, y2, y3⟩, hBW⟩ ⟨u39, u40, u41, rfl⟩ hlen
      have hbl := freeTo_len p.1 ss a co r.toNat
      have hpl : (pre.length : Int) ≤ 200000 := by omega
      have hcv : W.cell? ⟨q + 1, 0, none⟩ = some (.int .i64 (pre.length : Int)) := by simp [World.cell?, hv]
      have hfv : W.frozen? ⟨q + 1, 0, none⟩ = false := by simp [World.frozen?, hv]
      have HV := Lib.hid hv
      have Y1 := Lib.hid y1
      have Y2 := Lib.hid y2
      have Y3 := Lib.hid y3
      clear hv y1 y2 y3
      gi_wp2
      have ho : ∀ b, b ≠ q + 1 → (W.setCell ⟨q + 1, 0, none⟩ (.int .i64 ((pre.length : Int) + 1))).heap[b]? = W.heap[b]? := fun b hb => heap_setCell_other W ⟨q + 1, 0, none⟩ b _ hb
      refine ⟨(KeepsOthers.setCell _ _ _).from _, ⟨B_set (Below.refl _ _) (by simp) _, fun b hb _ => ho b (by omega)⟩, ?_, ⟨(ho _ (by omega)).trans Y1.out, (ho _ (by omega)).trans Y2.out, (ho _ (by omega)).trans Y3.out⟩, hBW.trans (B_set (Below.refl _ _) (by simp) _)⟩
      rw [show ((pre ++ [x]).length : Int) = (pre.length : Int) + 1 by simp]
      exact Boxed.set (.int .i64 ((pre.length : Int) + 1)) HV.out
    case done =>
      rintro D ys W hD rfl ⟨hv, _, hBW⟩ hK
      have hcv : W.cell? ⟨q + 1, 0, none⟩ = some (.int .i64 ((freeTo p.1 ss a co r.toNat).length : Int)) := by simp [World.cell?, hv]
      have HV := Lib.hid hv
      have HK := Lib.hid hK
      clear hv hK
      generalize ((freeTo p.1 ss a co r.toNat).length : Int) = N at *
      gi_wp2
      refine leaves_marks (base := w.heap.size) [D] W (by simp) (fun D' hD' => by
        have : D' = D := by simpa using hD'
        subst this
        exact ⟨by omega, HK.out⟩) fun w' hB' hc' => ⟨.tuple #[.int .i64 N, .int .i64 0], by simp [results, Try.f36], ?_⟩
      exact Ret.of (by rw [HY.out]; rfl) ((hBe.trans (hBW.mono (by omega))).trans hB')
    case stop =>
      rintro D cc pre W _ _ h _
      exact h.elim
  · clear hrm
    have HQ := Lib.hid hq
    have HY : Hid (leftR p ss nm co = (0, wsErr p ss nm)) := by
      show _ = _
      unfold leftR
      rw [if_pos hq]
    generalize leftR p ss nm co = Y at *
    gi_wp2_with (refine ⟨trivial, ?_⟩; gi_at_call 70; refine (callsIn_wide.2 (HW _ (hy.keep (by repeat (first | exact B_refl | exact Below.refl _ _ | assumption | with_reducible refine B_alloc ?_ _ | with_reducible refine B_ext ?_ _ | with_reducible refine B_drew ?_ | with_reducible refine B_drewN ?_ _ | with_reducible refine B_set ?_ (by simp; omega) _))) (hev.keep (by repeat (first | exact B_refl | exact Below.refl _ _ | assumption | with_reducible refine B_alloc ?_ _ | with_reducible refine B_ext ?_ _ | with_reducible refine B_drew ?_ | with_reducible refine B_drewN ?_ _ | with_reducible refine B_set ?_ (by simp; omega) _))))).mono ?_; intro e wq hpq; obtain ⟨rfl, zq, rfl⟩ := hpq.bad HQ.out; clear hpq; unfold Site.v zeroSite)
    refine leaves_none (.tuple #[.int .i64 0, .int .i64 (wsErr p ss nm)]) (by simp [results, Try.f36]) ?_
    exact Ret.of (by rw [HY.out]; rfl) (by repeat (first | exact B_refl | exact Below.refl _ _ | assumption | with_reducible refine B_alloc ?_ _ | with_reducible refine B_ext ?_ _ | with_reducible refine B_drew ?_ | with_reducible refine B_drewN ?_ _ | with_reducible refine B_set ?_ (by simp; omega) _))
theorem gLeft_any (ss : List Site) (rs : List Rest) (A R : Option Addr) (n c rn rc : Nat) (c0 c1 c2 : Int) (es : List Event) (L : Option Addr) (ln lc : Nat) (nm : ByteArray) (co : Int) (w : World) (hy : YardIn w ss rs A n c R rn rc) (hev : EventsIn w es L ln) :
    Calls Try.prog 36 #[.agg #[.slice A n c, .slice R rn rc, .int .i64 c0, .int .i64 c1, .int .i64 c2], .slice L ln lc, .string nm, .int .i64 co] w (Ret w (ret2 (leftR (readP ss rs (bk0 A n c R rn rc c0 c1 c2) es) ss nm co))) :=
  callsIn_wide.1 (gLeft_in ss rs A R n c rn rc c0 c1 c2 es L ln lc nm co w hy hev)
end Go.Proofs.Ytmiobhlgpjjbgaa
namespace Go.Proofs.Ytmiobhlgpjjbgaa
open Go.RowKit Go.Shelf
attribute [local go_sem] World.cell?_alloc_mark ext_size ext_cell ext_frozen lt_add_r lt_add_r2 lt_add_r3 lt_add_r4 lt_add_r5 lt_add_r6 lt_add_r7 lt_add_r8
attribute [local go_sem] Oper.semAt_some

def firstL (lv : Int) (l : List Int) : Int × Int := match l.find? fun x => decide (lv ≤ x) with | none => (0, 16) | some x => (x, 0)
def firstFreeR (p : Bk × Int) (u : Bk) (ss : List Site) (nm : ByteArray) (lv co day : Int) : Int × Int :=
  if wsErr p ss nm != 0 then (0, wsErr p ss nm) else
  match findSite nm ss with
  | none => (0, 0)
  | some s => if !inR lv 0 (s.room - 1) || !inR co 0 2 || !inR day 0 200000 then (0, 2) else firstL lv (freeTo u ss nm co s.room.toNat)
theorem results_cc {fn : Func} {p q : Tmp} {a b : TypeId} (h : fn.results = #[.cell p a, .cell q b]) (tmps : Array Value) (P : Program) (w : World) :
    (results fn tmps).run P w = ((asAddr (tmps.getD p undef)).run P w).andThen fun x w₁ => ((loadVar a x).run P w₁).andThen fun v w₂ => ((asAddr (tmps.getD q undef)).run P w₂).andThen fun y w₃ => ((loadVar b y).run P w₃).andThen fun u w₄ => .ok (.tuple #[v, u]) w₄ := by
  simp only [results, h]
  simp [Sem.run_bind, Result.andThen]
theorem results_ii {fn : Func} {p q : Tmp} (h : fn.results = #[.cell p 3, .cell q 29]) (tmps : Array Value) (w : World) (B C : Nat) (x y : Int) (hp : tmps.getD p undef = .pointer (some ⟨B, 0, none⟩)) (hq : tmps.getD q undef = .pointer (some ⟨C, 0, none⟩))
    (h0 : w.cell? ⟨B, 0, none⟩ = some (.int .i64 x)) (h1 : w.cell? ⟨C, 0, none⟩ = some (.int .i64 y)) : (results fn tmps).run Try.prog w = .ok (.tuple #[.int .i64 x, .int .i64 y]) w := by
  rw [results_cc h, hp, hq]
  go_simp

set_option maxRecDepth 100000 in
set_option maxHeartbeats 2000000 in
theorem gFirst_in (ss : List Site) (rs : List Rest) (A R : Option Addr) (n c rn rc : Nat) (c0 c1 c2 : Int) (es : List Event) (L : Option Addr) (ln lc : Nat) (nm : ByteArray) (lv co day : Int) (w : World) (hy : YardIn w ss rs A n c R rn rc) (hev : EventsIn w es L ln) :
    CallsIn Fence.wide 9 Try.prog 35 #[.agg #[.slice A n c, .slice R rn rc, .int .i64 c0, .int .i64 c1, .int .i64 c2], .slice L ln lc, .agg #[.string nm, .int .i64 lv], .int .i64 co, .int .i64 day] w (Ret w (ret2 (firstFreeR (readP ss rs (bk0 A n c R rn rc c0 c1 c2) es) (upToP ss rs day (bk0 A n c R rn rc c0 c1 c2) es) ss nm lv co day))) := by
  have HW := fun W h1 h2 => withSite_any ss rs A R n c rn rc c0 c1 c2 es L ln lc nm W h1 h2
  have HU := fun W h1 h2 h3 h4 h5 => upTo_any ss rs A R n c rn rc c0 c1 c2 es L ln lc day W h1 h2 h3 h4 h5
  have hsm := fun h => readP_small (ss := ss) (rs := rs) (k := bk0 A n c R rn rc c0 c1 c2) (es := es) h
  have hrm := fun h => readP_rooms (ss := ss) (rs := rs) (A := A) (R := R) (n := n) (c := c) (rn := rn) (rc := rc) (c0 := c0) (c1 := c1) (c2 := c2) (es := es) h
  generalize readP ss rs (bk0 A n c R rn rc c0 c1 c2) es = p at *
  generalize upToP ss rs day (bk0 A n c R rn rc c0 c1 c2) es = u at *
  refine callsIn_of_wp_marks Try.func35 rfl trivial ?_ rfl
  simp only [Try.ntmps35, List.size_toArray, List.length_cons, List.length_nil, Nat.reduceAdd, Nat.reduceSub, Array.replicate_succ, Array.replicate_zero, List.push_toArray, List.append_toArray, List.nil_append, List.cons_append]
  cases hq : (wsErr p ss nm != 0)
  · have HQ := Lib.hid hq
    obtain ⟨s, hf⟩ := wsErr_some hq
    have HF := Lib.hid hf
    have hnm := findSite_name hf
    have hr := hrm (wsErr_zero hq) s (findSite_mem hf)
    obtain ⟨hs1, hs2, hs3⟩ := hsm (wsErr_zero hq)
    have HX : Hid (firstFreeR p u ss nm lv co day = if !inR lv 0 (s.room - 1) || !inR co 0 2 || !inR day 0 200000 then (0, 2) else firstL lv (freeTo u ss nm co s.room.toNat)) := by
      show _ = _
      unfold firstFreeR
      rw [hq, hf]
      simp
    clear hq hf hrm hsm
    obtain ⟨a, kd, so, d, st, r⟩ := s
    dsimp only at hnm HX hr
    subst hnm
    generalize firstFreeR p u ss a lv co day = Y at *
    obtain ⟨hr1, hr2⟩ := hr
    cases hg0 : inR lv 0 (r - 1)
    · have HY : Hid (Y = (0, 2)) := by show _ = _; rw [HX.out, hg0]; rfl
      gi_wp2_with (first | (refine ⟨trivial, ?_⟩; gi_at_call 70; refine (callsIn_wide.2 (HW _ (hy.keep (by repeat (first | exact B_refl | exact Below.refl _ _ | assumption | with_reducible refine B_alloc ?_ _ | with_reducible refine B_ext ?_ _ | with_reducible refine B_drew ?_ | with_reducible refine B_drewN ?_ _ | with_reducible refine B_set ?_ (by simp; omega) _))) (hev.keep (by repeat (first | exact B_refl | exact Below.refl _ _ | assumption | with_reducible refine B_alloc ?_ _ | with_reducible refine B_ext ?_ _ | with_reducible refine B_drew ?_ | with_reducible refine B_drewN ?_ _ | with_reducible refine B_set ?_ (by simp; omega) _))))).mono ?_; intro e wq hpq; obtain ⟨base, bb, rfl, hbs, henv, zq, rfl⟩ := hpq.ok HQ.out HF.out; clear hpq; unfold Site.v) | (refine ⟨trivial, ?_⟩; gi_at_call 60; refine (callsIn_wide.2 (isContainer_any _ _)).mono ?_; rintro e wq ⟨rfl, rfl⟩; rw [hg1]) | (refine ⟨trivial, ?_⟩; gi_at_call 67; refine (callsIn_wide.2 (isDay_any _ _)).mono ?_; rintro e wq ⟨rfl, rfl⟩; rw [hg2]) | (refine ⟨trivial, ?_⟩; gi_at_call 56; refine (callsIn_wide.2 (within_any _ _ _ _)).mono ?_; rintro e wq ⟨rfl, rfl⟩; rw [hg0]) | (refine ⟨trivial, ?_⟩; gi_wp2))
      refine leaves_none (.tuple #[.int .i64 0, .int .i64 2]) (results_ii rfl _ _ (w.heap.size + 1 + 1) (w.heap.size + 1 + 1 + 1) _ _ rfl rfl (by simp [go_sem]) (by simp [go_sem])) ?_
      exact Ret.of (by rw [HY.out]; rfl) (by repeat (first | exact B_refl | exact Below.refl _ _ | assumption | with_reducible refine B_alloc ?_ _ | with_reducible refine B_ext ?_ _ | with_reducible refine B_drew ?_ | with_reducible refine B_drewN ?_ _ | with_reducible refine B_set ?_ (by simp; omega) _))
    cases hg1 : inR co 0 2
    · have HY : Hid (Y = (0, 2)) := by show _ = _; rw [HX.out, hg0, hg1]; rfl
      gi_wp2_with (first | (refine ⟨trivial, ?_⟩; gi_at_call 70; refine (callsIn_wide.2 (HW _ (hy.keep (by repeat (first | exact B_refl | exact Below.refl _ _ | assumption | with_reducible refine B_alloc ?_ _ | with_reducible refine B_ext ?_ _ | with_reducible refine B_drew ?_ | with_reducible refine B_drewN ?_ _ | with_reducible refine B_set ?_ (by simp; omega) _))) (hev.keep (by repeat (first | exact B_refl | exact Below.refl _ _ | assumption | with_reducible refine B_alloc ?_ _ | with_reducible refine B_ext ?_ _ | with_reducible refine B_drew ?_ | with_reducible refine B_drewN ?_ _ | with_reducible refine B_set ?_ (by simp; omega) _))))).mono ?_; intro e wq hpq; obtain ⟨base, bb, rfl, hbs, henv, zq, rfl⟩ := hpq.ok HQ.out HF.out; clear hpq; unfold Site.v) | (refine ⟨trivial, ?_⟩; gi_at_call 60; refine (callsIn_wide.2 (isContainer_any _ _)).mono ?_; rintro e wq ⟨rfl, rfl⟩; rw [hg1]) | (refine ⟨trivial, ?_⟩; gi_at_call 67; refine (callsIn_wide.2 (isDay_any _ _)).mono ?_; rintro e wq ⟨rfl, rfl⟩; rw [hg2]) | (refine ⟨trivial, ?_⟩; gi_at_call 56; refine (callsIn_wide.2 (within_any _ _ _ _)).mono ?_; rintro e wq ⟨rfl, rfl⟩; rw [hg0]) | (refine ⟨trivial, ?_⟩; gi_wp2))
      refine leaves_none (.tuple #[.int .i64 0, .int .i64 2]) (results_ii rfl _ _ (w.heap.size + 1 + 1) (w.heap.size + 1 + 1 + 1) _ _ rfl rfl (by simp [go_sem]) (by simp [go_sem])) ?_
      exact Ret.of (by rw [HY.out]; rfl) (by repeat (first | exact B_refl | exact Below.refl _ _ | assumption | with_reducible refine B_alloc ?_ _ | with_reducible refine B_ext ?_ _ | with_reducible refine B_drew ?_ | with_reducible refine B_drewN ?_ _ | with_reducible refine B_set ?_ (by simp; omega) _))
    cases hg2 : inR day 0 200000
    · have HY : Hid (Y = (0, 2)) := by show _ = _; rw [HX.out, hg0, hg1, hg2]; rfl
      gi_wp2_with (first | (refine ⟨trivial, ?_⟩; gi_at_call 70; refine (callsIn_wide.2 (HW _ (hy.keep (by repeat (first | exact B_refl | exact Below.refl _ _ | assumption | with_reducible refine B_alloc ?_ _ | with_reducible refine B_ext ?_ _ | with_reducible refine B_drew ?_ | with_reducible refine B_drewN ?_ _ | with_reducible refine B_set ?_ (by simp; omega) _))) (hev.keep (by repeat (first | exact B_refl | exact Below.refl _ _ | assumption | with_reducible refine B_alloc ?_ _ | with_reducible refine B_ext ?_ _ | with_reducible refine B_drew ?_ | with_reducible refine B_drewN ?_ _ | with_reducible refine B_set ?_ (by simp; omega) _))))).mono ?_; intro e wq hpq; obtain ⟨base, bb, rfl, hbs, henv, zq, rfl⟩ := hpq.ok HQ.out HF.out; clear hpq; unfold Site.v) | (refine ⟨trivial, ?_⟩; gi_at_call 60; refine (callsIn_wide.2 (isContainer_any _ _)).mono ?_; rintro e wq ⟨rfl, rfl⟩; rw [hg1]) | (refine ⟨trivial, ?_⟩; gi_at_call 67; refine (callsIn_wide.2 (isDay_any _ _)).mono ?_; rintro e wq ⟨rfl, rfl⟩; rw [hg2]) | (refine ⟨trivial, ?_⟩; gi_at_call 56; refine (callsIn_wide.2 (within_any _ _ _ _)).mono ?_; rintro e wq ⟨rfl, rfl⟩; rw [hg0]) | (refine ⟨trivial, ?_⟩; gi_wp2))
      refine leaves_none (.tuple #[.int .i64 0, .int .i64 2]) (results_ii rfl _ _ (w.heap.size + 1 + 1) (w.heap.size + 1 + 1 + 1) _ _ rfl rfl (by simp [go_sem]) (by simp [go_sem])) ?_
      exact Ret.of (by rw [HY.out]; rfl) (by repeat (first | exact B_refl | exact Below.refl _ _ | assumption | with_reducible refine B_alloc ?_ _ | with_reducible refine B_ext ?_ _ | with_reducible refine B_drew ?_ | with_reducible refine B_drewN ?_ _ | with_reducible refine B_set ?_ (by simp; omega) _))
    have HY : Hid (Y = firstL lv (freeTo u ss a co r.toNat)) := by show _ = _; rw [HX.out, hg0, hg1, hg2]; rfl
    have hcc : 0 ≤ co ∧ co ≤ 2 := by simp [inR] at hg1; exact hg1
    have HC := Lib.hid hcc
    clear HX hcc
    gi_wp2_with (first | (refine ⟨trivial, ?_⟩; gi_at_call 70; refine (callsIn_wide.2 (HW _ (hy.keep (by repeat (first | exact B_refl | exact Below.refl _ _ | assumption | with_reducible refine B_alloc ?_ _ | with_reducible refine B_ext ?_ _ | with_reducible refine B_drew ?_ | with_reducible refine B_drewN ?_ _ | with_reducible refine B_set ?_ (by simp; omega) _))) (hev.keep (by repeat (first | exact B_refl | exact Below.refl _ _ | assumption | with_reducible refine B_alloc ?_ _ | with_reducible refine B_ext ?_ _ | with_reducible refine B_drew ?_ | with_reducible refine B_drewN ?_ _ | with_reducible refine B_set ?_ (by simp; omega) _))))).mono ?_; intro e wq hpq; obtain ⟨base, bb, rfl, hbs, henv, zq, rfl⟩ := hpq.ok HQ.out HF.out; clear hpq; unfold Site.v) | (refine ⟨trivial, ?_⟩; gi_at_call 60; refine (callsIn_wide.2 (isContainer_any _ _)).mono ?_; rintro e wq ⟨rfl, rfl⟩; rw [hg1]) | (refine ⟨trivial, ?_⟩; gi_at_call 67; refine (callsIn_wide.2 (isDay_any _ _)).mono ?_; rintro e wq ⟨rfl, rfl⟩; rw [hg2]) | (refine ⟨trivial, ?_⟩; gi_at_call 56; refine (callsIn_wide.2 (within_any _ _ _ _)).mono ?_; rintro e wq ⟨rfl, rfl⟩; rw [hg0]) | (refine ⟨trivial, ?_⟩; gi_wp2))
    refine wpIn_mono (Q := NoPanic _) ?_ NoPanic.imp
    gi_region_with (first
      | (refine ⟨trivial, ?_⟩; gi_at_call 68; refine (callsIn_wide.2 (HU _ (hy.keep (m := w.heap.size) (by repeat (first | exact B_refl | exact Below.refl _ _ | assumption | with_reducible refine B_alloc ?_ _ | with_reducible refine B_ext ?_ _ | with_reducible refine B_drew ?_ | with_reducible refine B_drewN ?_ _ | with_reducible refine B_set ?_ (by simp; omega) _))) (hev.keep (m := w.heap.size) (by repeat (first | exact B_refl | exact Below.refl _ _ | assumption | with_reducible refine B_alloc ?_ _ | with_reducible refine B_ext ?_ _ | with_reducible refine B_drew ?_ | with_reducible refine B_drewN ?_ _ | with_reducible refine B_set ?_ (by simp; omega) _))) hs1 hs2 hs3)).mono ?_; rintro e wq ⟨base2, b2, rfl, hbs2, henv2, z2, rfl⟩)
      | (refine ⟨trivial, ?_⟩; gi_at_call 69; refine (callsIn_wide.2 (free_any _ _ _ _ _ _ _ _ _)).mono ?_; rintro e wq ⟨rfl, rfl⟩))
    all_goals refine NoPanic.normal ?_
    all_goals
      obtain ⟨hc1, hc2⟩ := HC.out
      gi_wp2
      generalize hWe : World.ext (World.drew (World.alloc (World.ext ((((w.alloc (.cells #[.slice A n c, .slice R rn rc, .int .i64 c0, .int .i64 c1, .int .i64 c2] 26)).alloc (.cells #[.string a, .int .i64 lv] 54)).alloc (.cells #[.int .i64 0] 3)).alloc (.cells #[.int .i64 0] 29)) zq) (.cells #[.string a, .int .i64 kd, .int .i64 so, .int .i64 d, .int .i64 st, .int .i64 r] 32))) z2 = We at *
      have hBe : Below w.heap.size w We := by rw [← hWe]; repeat (first | exact B_refl | exact Below.refl _ _ | assumption | with_reducible refine B_alloc ?_ _ | with_reducible refine B_ext ?_ _ | with_reducible refine B_drew ?_ | with_reducible refine B_drewN ?_ _ | with_reducible refine B_set ?_ (by simp; omega) _)
      have e1 : We.heap[w.heap.size + 1]? = some (.cells #[.string a, .int .i64 lv] 54 (0, 0)) := by rw [← hWe]; (repeat (first | with_reducible exact G_new _ _ _ (by simp) | with_reducible exact G_new _ _ _ (by simp [ext_size]) | with_reducible refine G_drew ?_ | with_reducible refine G_ext ?_ | with_reducible refine G_alloc ?_))
      have e2 : We.heap[w.heap.size + 1 + 1]? = some (.cells #[.int .i64 0] 3 (0, 0)) := by rw [← hWe]; (repeat (first | with_reducible exact G_new _ _ _ (by simp) | with_reducible exact G_new _ _ _ (by simp [ext_size]) | with_reducible refine G_drew ?_ | with_reducible refine G_ext ?_ | with_reducible refine G_alloc ?_))
      have e3 : We.heap[w.heap.size + 1 + 1 + 1]? = some (.cells #[.int .i64 0] 29 (0, 0)) := by rw [← hWe]; (repeat (first | with_reducible exact G_new _ _ _ (by simp) | with_reducible exact G_new _ _ _ (by simp [ext_size]) | with_reducible refine G_drew ?_ | with_reducible refine G_ext ?_ | with_reducible refine G_alloc ?_))
      have hse : w.heap.size + 1 + 1 + 1 + 1 + zq.os.size + 1 + z2.os.size = We.heap.size := by rw [← hWe]; simp [ext_size]
      simp only [hse]
      clear hWe
      generalize hq : We.heap.size = q at *
      generalize hW3 : ((We.alloc (.cells #[.pointer (some ⟨b2, 0, none⟩)] 115)).alloc (.cells #[.string a, .int .i64 kd, .int .i64 so, .int .i64 d, .int .i64 st, .int .i64 r] 32)).alloc (.cells #[.int .i64 co] 3) = W3
      have hz3 : W3.heap.size = q + 3 := by rw [← hW3]; simp [hq]
      have s1 : W3.heap[q]? = some (.cells #[.pointer (some ⟨b2, 0, none⟩)] 115 (0, 0)) := by rw [← hW3, ← hq]; (repeat (first | with_reducible exact G_new _ _ _ (by simp) | with_reducible exact G_new _ _ _ (by simp [ext_size]) | with_reducible refine G_drew ?_ | with_reducible refine G_ext ?_ | with_reducible refine G_alloc ?_))
      have s2 : W3.heap[q + 1]? = some (.cells #[.string a, .int .i64 kd, .int .i64 so, .int .i64 d, .int .i64 st, .int .i64 r] 32 (0, 0)) := by rw [← hW3, ← hq]; (repeat (first | with_reducible exact G_new _ _ _ (by simp) | with_reducible exact G_new _ _ _ (by simp [ext_size]) | with_reducible refine G_drew ?_ | with_reducible refine G_ext ?_ | with_reducible refine G_alloc ?_))
      have s3 : W3.heap[q + 2]? = some (.cells #[.int .i64 co] 3 (0, 0)) := by rw [← hW3]; exact G_new _ _ _ (by simp [hq])
      have hB3 : Below q We W3 := by rw [← hW3, ← hq]; repeat (first | exact B_refl | exact Below.refl _ _ | assumption | with_reducible refine B_alloc ?_ _ | with_reducible refine B_ext ?_ _ | with_reducible refine B_drew ?_ | with_reducible refine B_drewN ?_ _ | with_reducible refine B_set ?_ (by simp; omega) _)
      clear hW3
      have HE1 := Lib.hid e1
      have HE2 := Lib.hid e2
      have HE3 := Lib.hid e3
      clear e1 e2 e3 henv hbs hbs2 HU
      refine wpIn_range_bound rfl (by omega) (gf := 85) (lf := #[]) (lb := #[.pointer (some ⟨q + 1, 0, none⟩), .pointer (some ⟨q, 0, none⟩), .pointer (some ⟨q + 2, 0, none⟩)]) rfl trivial (enters_of Try.func85 (by kernel_rfl) rfl)
        (free1_seq (9 - 1) (by omega) q base2 b2 (q + 1) q (q + 2) u ss rs a kd so d st r co We W3 henv2 (by omega) (by omega) hB3 s2 s1 s3 (by omega) hc1 hc2) Kf.trans
        (fun W l o o' hl ho _ _ => Kf.put W o o' (by omega) (by omega) (by omega) (by omega)) (Below.refl _ _) (fun _ => rfl)
        (fun pre W => (pre.find? fun x => decide (lv ≤ x)) = none ∧ (W.heap[q]? = some (.cells #[.pointer (some ⟨b2, 0, none⟩)] 115 (0, 0)) ∧ W.heap[q + 1]? = some (.cells #[.string a, .int .i64 kd, .int .i64 so, .int .i64 d, .int .i64 st, .int .i64 r] 32 (0, 0)) ∧ W.heap[q + 2]? = some (.cells #[.int .i64 co] 3 (0, 0))) ∧ Below q We W)
        (fun c pre W => (∃ x, c = .ret ∧ (pre.find? fun x => decide (lv ≤ x)) = some x ∧ W.heap[w.heap.size + 1 + 1]? = some (.cells #[.int .i64 x] 3 (0, 0)) ∧ W.heap[w.heap.size + 1 + 1 + 1]? = some (.cells #[.int .i64 0] 29 (0, 0))) ∧ Below w.heap.size w W)
        (fun s A B row hs hg hr => ⟨hs.1, ⟨blk_own hs.2.1.1 hg (fun r e => (hr r e).2), blk_own hs.2.1.2.1 hg (fun r e => (hr r e).2), blk_own hs.2.1.2.2 hg (fun r e => (hr r e).2)⟩, hs.2.2.grown hg (by have := hs.2.2.size; omega) (fun r e => by have := (hr r e).1; omega)⟩)
        (fun cc s A B row hs hg hr => ⟨by obtain ⟨⟨x, h1, h2, h3, h4⟩, _⟩ := hs; exact ⟨x, h1, h2, blk_own h3 hg (fun r e => (hr r e).2), blk_own h4 hg (fun r e => (hr r e).2)⟩, hs.2.grown hg (by have := hs.2.size; omega) (fun r e => by have := (hr r e).1; have := hBe.size; omega)⟩) ⟨rfl, ⟨s1, s2, s3⟩, hB3⟩
        (fun x a' _ => ∃ u55 u56 u57 u58 u59, a' = { tmps := #[.agg #[.slice A n c, .slice R rn rc, .int .i64 c0, .int .i64 c1, .int .i64 c2], .slice L ln lc, .agg #[.string a, .int .i64 lv], .int .i64 co, .int .i64 day, .pointer (some ⟨w.heap.size, 0, none⟩), undef, .pointer (some ⟨w.heap.size + 1, 0, none⟩), undef, undef, .pointer (some ⟨w.heap.size + 1 + 1, 0, none⟩), .pointer (some ⟨w.heap.size + 1 + 1 + 1, 0, none⟩), .pointer (some ⟨bb, 0, none⟩), .pointer (some ⟨w.heap.size + 1 + 1 + 1 + 1 + zq.os.size, 0, none⟩), .int .i64 0, .int .i64 x, .tuple #[.pointer (some ⟨bb, 0, none⟩), .agg #[.string a, .int .i64 kd, .int .i64 so, .int .i64 d, .int .i64 st, .int .i64 r], .int .i64 0], .agg #[.slice A n c, .slice R rn rc, .int .i64 c0, .int .i64 c1, .int .i64 c2], .slice L ln lc, .pointer (some ⟨w.heap.size + 1, 0, none⟩), .string a, .tuple #[.pointer (some ⟨bb, 0, none⟩), .agg #[.string a, .int .i64 kd, .int .i64 so, .int .i64 d, .int .i64 st, .int .i64 r], .int .i64 0], .pointer (some ⟨bb, 0, none⟩), .agg #[.string a, .int .i64 kd, .int .i64 so, .int .i64 d, .int .i64 st, .int .i64 r], .int .i64 0, .bool false, .int .i64 0, .bool false, undef, .bool false, .pointer (some ⟨w.heap.size + 1, 1, none⟩), .int .i64 lv, .pointer (some ⟨w.heap.size + 1 + 1 + 1 + 1 + zq.os.size, 5, none⟩), .int .i64 r, .int .i64 (r - 1), .bool true, .bool false, .bool false, .int .i64 co, .bool true, .bool false, .bool false, .bool false, .int .i64 day, .bool true, .bool false, .bool false, .agg #[.slice A n c, .slice R rn rc, .int .i64 c0, .int .i64 c1, .int .i64 c2], .slice L ln lc, .int .i64 day, .pointer (some ⟨b2, 0, none⟩), .agg #[.string a, .int .i64 kd, .int .i64 so, .int .i64 d, .int .i64 st, .int .i64 r], .int .i64 co, .func (.func 85) #[] #[.pointer (some ⟨q + 1, 0, none⟩), .pointer (some ⟨q, 0, none⟩), .pointer (some ⟨q + 2, 0, none⟩)], .int .i64 x, u55, u56, u57, u58, u59], defers := [] }) (fun x a' s A B row hs _ _ => hs) ?assign ?body ?done ?stop
      case assign =>
        rintro l pre x W K hi hK
        gi_wp2
        exact hK _ _ (KeepsFrom.refl _ _) (Kf.refl _ _ _ _ _) hi ⟨_, _, _, _, _, rfl⟩
      case body =>
        rintro l pre x a' W hWl _ ⟨hf, ⟨y1, y2, y3⟩, hBW⟩ ⟨u55, u56, u57, u58, u59, rfl⟩ hlen
        have hz := hBe.size
        have b1 := (hBW.block (w.heap.size + 1) (by omega)).trans HE1.out
        have b2' := (hBW.block (w.heap.size + 1 + 1) (by omega)).trans HE2.out
        have b3 := (hBW.block (w.heap.size + 1 + 1 + 1) (by omega)).trans HE3.out
        have c1' : W.cell? ⟨w.heap.size + 1, 1, none⟩ = some (.int .i64 lv) := by simp [World.cell?, b1]
        have c2' : W.cell? ⟨w.heap.size + 1 + 1, 0, none⟩ = some (.int .i64 0) := by simp [World.cell?, b2']
        have c3' : W.cell? ⟨w.heap.size + 1 + 1 + 1, 0, none⟩ = some (.int .i64 0) := by simp [World.cell?, b3]
        have f2' : W.frozen? ⟨w.heap.size + 1 + 1, 0, none⟩ = false := by simp [World.frozen?, b2']
        have f3' : W.frozen? ⟨w.heap.size + 1 + 1 + 1, 0, none⟩ = false := by simp [World.frozen?, b3]
        have HFN := Lib.hid hf
        have Y1 := Lib.hid y1
        have Y2 := Lib.hid y2
        have Y3 := Lib.hid y3
        have HB2 := Lib.hid b2'
        have HB3 := Lib.hid b3
        clear hf y1 y2 y3 b1 b2' b3
        by_cases hx : lv ≤ x
        · gi_wp2
          have g2 := Boxed.set (.int .i64 x) HB2.out
          have g3 : (W.setCell ⟨w.heap.size + 1 + 1, 0, none⟩ (.int .i64 x)).heap[w.heap.size + 1 + 1 + 1]? = some (.cells #[.int .i64 0] 29 (0, 0)) := (heap_setCell_other W ⟨w.heap.size + 1 + 1, 0, none⟩ _ _ (by simp)).trans HB3.out
          refine ⟨((KeepsOthers.setCell _ _ _).from _).trans ((KeepsOthers.setCell _ _ _).from _), ⟨x, rfl, by rw [List.find?_append, HFN.out]; simp [hx], (heap_setCell_other _ ⟨w.heap.size + 1 + 1 + 1, 0, none⟩ _ _ (by simp)).trans g2, Boxed.set (.int .i64 0) g3⟩, B_set (B_set (hBe.trans (hBW.mono (by omega))) (by simp; omega) _) (by simp; omega) _⟩
        · gi_wp2
          refine ⟨KeepsFrom.refl _ _, Kf.refl _ _ _ _ _, ?_, ⟨Y1.out, Y2.out, Y3.out⟩, hBW⟩
          have h0 := List.find?_eq_none.1 HFN.out
          intro y hy
          rcases List.mem_append.1 hy with hy | hy
          · have := h0 y hy
            simp at this
            omega
          · have : y = x := by simpa using hy
            omega
      case done =>
        rintro D ys W hD rfl ⟨hf, _, hBW⟩ hK
        have hz := hBe.size
        have HY2 : Hid (Y = (0, 16)) := by show _ = _; rw [HY.out, firstL, hf]
        have b2' := (hBW.block (w.heap.size + 1 + 1) (by omega)).trans HE2.out
        have b3 := (hBW.block (w.heap.size + 1 + 1 + 1) (by omega)).trans HE3.out
        have c2' : W.cell? ⟨w.heap.size + 1 + 1, 0, none⟩ = some (.int .i64 0) := by simp [World.cell?, b2']
        have c3' : W.cell? ⟨w.heap.size + 1 + 1 + 1, 0, none⟩ = some (.int .i64 0) := by simp [World.cell?, b3]
        have f2' : W.frozen? ⟨w.heap.size + 1 + 1, 0, none⟩ = false := by simp [World.frozen?, b2']
        have f3' : W.frozen? ⟨w.heap.size + 1 + 1 + 1, 0, none⟩ = false := by simp [World.frozen?, b3]
        have HK := Lib.hid hK
        have HB2 := Lib.hid b2'
        have HB3 := Lib.hid b3
        clear hK b2' b3 hf
        gi_wp2
        have g2 := Boxed.set (.int .i64 0) HB2.out
        have g3 : (W.setCell ⟨w.heap.size + 1 + 1, 0, none⟩ (.int .i64 0)).heap[w.heap.size + 1 + 1 + 1]? = some (.cells #[.int .i64 0] 29 (0, 0)) := (heap_setCell_other W ⟨w.heap.size + 1 + 1, 0, none⟩ _ _ (by simp)).trans HB3.out
        have g4 := Boxed.set (.int .i64 16) g3
        have g5 : ((W.setCell ⟨w.heap.size + 1 + 1, 0, none⟩ (.int .i64 0)).setCell ⟨w.heap.size + 1 + 1 + 1, 0, none⟩ (.int .i64 16)).heap[w.heap.size + 1 + 1]? = some (.cells #[.int .i64 0] 3 (0, 0)) := (heap_setCell_other _ ⟨w.heap.size + 1 + 1 + 1, 0, none⟩ _ _ (by simp)).trans g2
        have hD2 : ((W.setCell ⟨w.heap.size + 1 + 1, 0, none⟩ (.int .i64 0)).setCell ⟨w.heap.size + 1 + 1 + 1, 0, none⟩ (.int .i64 16)).heap[D]? = some (.deferred (some [])) := (heap_setCell_other _ ⟨w.heap.size + 1 + 1 + 1, 0, none⟩ _ _ (by simp; omega)).trans ((heap_setCell_other W ⟨w.heap.size + 1 + 1, 0, none⟩ _ _ (by simp; omega)).trans HK.out)
        refine leaves_marks (base := w.heap.size) [D] _ (by simp) (fun D' hD' => by
          have : D' = D := by simpa using hD'
          subst this
          exact ⟨by omega, hD2⟩) fun w' hB' hc' => ⟨.tuple #[.int .i64 0, .int .i64 16], results_ii rfl _ _ (w.heap.size + 1 + 1) (w.heap.size + 1 + 1 + 1) _ _ rfl rfl (by simp [World.cell?, hc' _ _ _ _ g5]) (by simp [World.cell?, hc' _ _ _ _ g4]), ?_⟩
        exact Ret.of (by rw [HY2.out]; rfl) ((B_set (B_set (hBe.trans (hBW.mono (by omega))) (by simp; omega) _) (by simp; omega) _).trans hB')
      case stop =>
        rintro D cc pre W hD hpre ⟨⟨x, rfl, hf, g2, g3⟩, hBW⟩ hK
        have hz := hBe.size
        have HY2 : Hid (Y = (x, 0)) := by
          show _ = _
          obtain ⟨r', hr'⟩ := hpre
          rw [HY.out, firstL, ← hr', List.find?_append, hf]
          rfl
        have HK := Lib.hid hK
        have G2 := Lib.hid g2
        have G3 := Lib.hid g3
        clear hK g2 g3 hf
        gi_wp2
        refine leaves_marks (base := w.heap.size) [D] _ (by simp) (fun D' hD' => by
          have : D' = D := by simpa using hD'
          subst this
          exact ⟨by omega, HK.out⟩) fun w' hB' hc' => ⟨.tuple #[.int .i64 x, .int .i64 0], results_ii rfl _ _ (w.heap.size + 1 + 1) (w.heap.size + 1 + 1 + 1) _ _ rfl rfl (by simp [World.cell?, hc' _ _ _ _ G2.out]) (by simp [World.cell?, hc' _ _ _ _ G3.out]), ?_⟩
        exact Ret.of (by rw [HY2.out]; rfl) (hBW.trans hB')
  · clear hrm hsm
    have HQ := Lib.hid hq
    have HY : Hid (firstFreeR p u ss nm lv co day = (0, wsErr p ss nm)) := by
      show _ = _
      unfold firstFreeR
      rw [if_pos hq]
    generalize firstFreeR p u ss nm lv co day = Y at *
    gi_wp2_with (refine ⟨trivial, ?_⟩; gi_at_call 70; refine (callsIn_wide.2 (HW _ (hy.keep (by repeat (first | exact B_refl | exact Below.refl _ _ | assumption | with_reducible refine B_alloc ?_ _ | with_reducible refine B_ext ?_ _ | with_reducible refine B_drew ?_ | with_reducible refine B_drewN ?_ _ | with_reducible refine B_set ?_ (by simp; omega) _))) (hev.keep (by repeat (first | exact B_refl | exact Below.refl _ _ | assumption | with_reducible refine B_alloc ?_ _ | with_reducible refine B_ext ?_ _ | with_reducible refine B_drew ?_ | with_reducible refine B_drewN ?_ _ | with_reducible refine B_set ?_ (by simp; omega) _))))).mono ?_; intro e wq hpq; obtain ⟨rfl, zq, rfl⟩ := hpq.bad HQ.out; clear hpq; unfold Site.v zeroSite)
    refine leaves_none (.tuple #[.int .i64 0, .int .i64 (wsErr p ss nm)]) (results_ii rfl _ _ (w.heap.size + 1 + 1) (w.heap.size + 1 + 1 + 1) _ _ rfl rfl (by simp [go_sem]) (by simp [go_sem])) ?_
    exact Ret.of (by rw [HY.out]; rfl) (by repeat (first | exact B_refl | exact Below.refl _ _ | assumption | with_reducible refine B_alloc ?_ _ | with_reducible refine B_ext ?_ _ | with_reducible refine B_drew ?_ | with_reducible refine B_drewN ?_ _ | with_reducible refine B_set ?_ (by simp; omega) _))
theorem gFirst_any (ss : List Site) (rs : List Rest) (A R : Option Addr) (n c rn rc : Nat) (c0 c1 c2 : Int) (es : List Event) (L : Option Addr) (ln lc : Nat) (nm : ByteArray) (lv co day : Int) (w : World) (hy : YardIn w ss rs A n c R rn rc) (hev : EventsIn w es L ln) :
    Calls Try.prog 35 #[.agg #[.slice A n c, .slice R rn rc, .int .i64 c0, .int .i64 c1, .int .i64 c2], .slice L ln lc, .agg #[.string nm, .int .i64 lv], .int .i64 co, .int .i64 day] w (Ret w (ret2 (firstFreeR (readP ss rs (bk0 A n c R rn rc c0 c1 c2) es) (upToP ss rs day (bk0 A n c R rn rc c0 c1 c2) es) ss nm lv co day))) :=
  callsIn_wide.1 (gFirst_in ss rs A R n c rn rc c0 c1 c2 es L ln lc nm lv co day w hy hev)
end Go.Proofs.Ytmiobhlgpjjbgaa
namespace Go.Proofs.Ytmiobhlgpjjbgaa
open Go.RowKit Go.Shelf
attribute [local go_sem] World.cell?_alloc_mark ext_size ext_cell ext_frozen lt_add_r lt_add_r2 lt_add_r3 lt_add_r4 lt_add_r5 lt_add_r6 lt_add_r7 lt_add_r8
attribute [local go_sem] Oper.semAt_some

set_option maxRecDepth 100000 in
set_option maxHeartbeats 2000000 in
theorem gFree_bad (ss : List Site) (rs : List Rest) (A R : Option Addr) (n c rn rc : Nat) (c0 c1 c2 : Int) (es : List Event) (L : Option Addr) (ln lc : Nat) (co day : Int) (w : World) (hy : YardIn w ss rs A n c R rn rc) (hev : EventsIn w es L ln) (hbad : (((readP ss rs (bk0 A n c R rn rc c0 c1 c2) es)).2 != 0) = true) :
    CallsIn Fence.wide 9 Try.prog 33 #[.agg #[.slice A n c, .slice R rn rc, .int .i64 c0, .int .i64 c1, .int .i64 c2], .slice L ln lc, .int .i64 co, .int .i64 day] w (ListPost w 54 2
      (((freeR (upToP ss rs day (bk0 A n c R rn rc c0 c1 c2) es) ss (readP ss rs (bk0 A n c R rn rc c0 c1 c2) es) co day).1.flatMap Berth.cells), (freeR (upToP ss rs day (bk0 A n c R rn rc c0 c1 c2) es) ss (readP ss rs (bk0 A n c R rn rc c0 c1 c2) es) co day).1.length)
      (freeR (upToP ss rs day (bk0 A n c R rn rc c0 c1 c2) es) ss (readP ss rs (bk0 A n c R rn rc c0 c1 c2) es) co day).2) := by
  have HR := fun W h1 h2 => read_any ss rs A R n c rn rc c0 c1 c2 es L ln lc W h1 h2
  have hln := hev.hn
  subst hln
  generalize (readP ss rs (bk0 A n c R rn rc c0 c1 c2) es) = p at *
  generalize upToP ss rs day (bk0 A n c R rn rc c0 c1 c2) es = u at *
  obtain ⟨k, er⟩ := p
  refine callsIn_of_wp_marks Try.func33 rfl trivial ?_ rfl
  simp only [Try.ntmps33, List.size_toArray, List.length_cons, List.length_nil, Nat.reduceAdd, Nat.reduceSub, Array.replicate_succ, Array.replicate_zero, List.push_toArray, List.append_toArray, List.nil_append, List.cons_append]
  have hq : (er != 0) = true := hbad
  have HQ := Lib.hid hq
  clear hbad
  have hX : freeR u ss (k, er) co day = ([], er) := by rw [freeR, if_pos HQ.out]
  rw [hX]
  clear hX
  gi_wp2_with (refine ⟨trivial, ?_⟩; gi_at_call 61; refine (callsIn_wide.2 (HR _ (hy.keep (by repeat (first | exact B_refl | exact Below.refl _ _ | assumption | with_reducible refine B_alloc ?_ _ | with_reducible refine B_ext ?_ _ | with_reducible refine B_drew ?_ | with_reducible refine B_drewN ?_ _ | with_reducible refine B_set ?_ (by simp; omega) _))) (hev.keep (by repeat (first | exact B_refl | exact Below.refl _ _ | assumption | with_reducible refine B_alloc ?_ _ | with_reducible refine B_ext ?_ _ | with_reducible refine B_drew ?_ | with_reducible refine B_drewN ?_ _ | with_reducible refine B_set ?_ (by simp; omega) _))))).mono ?_; intro e wq hpq; obtain ⟨rfl, zq, rfl⟩ := hpq.bad HQ.out; clear hpq)
  refine leaves_none (.tuple #[.slice none 0 0, .int .i64 er]) (by simp [results, Try.f33]) ?_
  exact ListPost.none (by repeat (first | exact B_refl | exact Below.refl _ _ | assumption | with_reducible refine B_alloc ?_ _ | with_reducible refine B_ext ?_ _ | with_reducible refine B_drew ?_ | with_reducible refine B_drewN ?_ _ | with_reducible refine B_set ?_ (by simp; omega) _))
theorem gFree_any (ss : List Site) (rs : List Rest) (A R : Option Addr) (n c rn rc : Nat) (c0 c1 c2 : Int) (es : List Event) (L : Option Addr) (ln lc : Nat) (co day : Int) (w : World) (hy : YardIn w ss rs A n c R rn rc) (hev : EventsIn w es L ln) :
    Calls Try.prog 33 #[.agg #[.slice A n c, .slice R rn rc, .int .i64 c0, .int .i64 c1, .int .i64 c2], .slice L ln lc, .int .i64 co, .int .i64 day] w (ListPost w 54 2
      (((freeR (upToP ss rs day (bk0 A n c R rn rc c0 c1 c2) es) ss (readP ss rs (bk0 A n c R rn rc c0 c1 c2) es) co day).1.flatMap Berth.cells), (freeR (upToP ss rs day (bk0 A n c R rn rc c0 c1 c2) es) ss (readP ss rs (bk0 A n c R rn rc c0 c1 c2) es) co day).1.length)
      (freeR (upToP ss rs day (bk0 A n c R rn rc c0 c1 c2) es) ss (readP ss rs (bk0 A n c R rn rc c0 c1 c2) es) co day).2) := by
  cases h : (((readP ss rs (bk0 A n c R rn rc c0 c1 c2) es)).2 != 0)
  · exact callsIn_wide.1 (gFree_in ss rs A R n c rn rc c0 c1 c2 es L ln lc co day w hy hev fun s hs => by have := (readP_rooms (by simpa using h) s hs).2; omega)
  · exact callsIn_wide.1 (gFree_bad ss rs A R n c rn rc c0 c1 c2 es L ln lc co day w hy hev h)
end Go.Proofs.Ytmiobhlgpjjbgaa

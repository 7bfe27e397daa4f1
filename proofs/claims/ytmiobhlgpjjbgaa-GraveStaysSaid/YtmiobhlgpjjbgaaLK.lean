/- Words for rows of stays: a block of slices, each with a row of its own. -/
/- Walk: a yard behind all events, and a site. -/
/- Walk: the stays at each level of a site. -/
/- Walk of the reference: all stays of a remain. -/
/- Walk of the reference: the stays at each level of a site. -/
import Derived.Test.YtmiobhlgpjjbgaaF4
import Derived.Test.YtmiobhlgpjjbgaaX2
import Derived.Laws.MakeOwn
import Derived.Test.YtmiobhlgpjjbgaaR2
import Derived.Test.YtmiobhlgpjjbgaaL9
import Derived.Test.YtmiobhlgpjjbgaaX3
import Derived.Test.YtmiobhlgpjjbgaaQB
import Derived.Test.YtmiobhlgpjjbgaaL3
namespace Go.Proofs.Ytmiobhlgpjjbgaa
open Go.RowKit

structure RowsAt (w : World) (base g : Nat) (vs : List Value) (xss : List (List Stay)) : Prop where
  blk : w.heap[g]? = some (.cells vs.toArray 43 (0, 0))
  gb : base ≤ g
  len : vs.length = xss.length
  rows : ∀ (i : Nat) (v : Value) (xs : List Stay), vs[i]? = some v → xss[i]? = some xs → w.ownsRow base 51 7 v xs.length (xs.flatMap Stay.cells)
  apart : ∀ (i j : Nat) (v u : Value), i ≠ j → vs[i]? = some v → vs[j]? = some u → v.ownBlock = none ∨ v.ownBlock ≠ u.ownBlock
theorem RowsAt.keep {w W : World} {base g : Nat} {vs : List Value} {xss : List (List Stay)} (h : RowsAt w base g vs xss) {n : Nat} (hb : Below n w W) (hn : w.heap.size ≤ n := by first | exact Nat.le_refl _ | omega) : RowsAt W base g vs xss :=
  ⟨(hb.block g (Nat.lt_of_lt_of_le (blk_lt h.blk) hn)).trans h.blk, h.gb, h.len, fun i v xs h1 h2 => own_keep (h.rows i v xs h1 h2) hb hn, h.apart⟩
theorem RowsAt.cell {w : World} {base g : Nat} {vs : List Value} {xss : List (List Stay)} (h : RowsAt w base g vs xss) {i : Nat} {v : Value} (hv : vs[i]? = some v) : w.cell? ⟨g, i, none⟩ = some v := by
  simp [World.cell?, h.blk, hv]
theorem RowsAt.free {w : World} {base g : Nat} {vs : List Value} {xss : List (List Stay)} (h : RowsAt w base g vs xss) (i : Nat) : w.frozen? ⟨g, i, none⟩ = false := by
  simp [World.frozen?, h.blk]
theorem RowsAt.at {w : World} {base g : Nat} {vs : List Value} {xss : List (List Stay)} (h : RowsAt w base g vs xss) {i : Nat} (hi : i < xss.length) : ∃ A c, vs[i]? = some (.slice A xss[i].length c) ∧ w.cell? ⟨g, i, none⟩ = some (.slice A xss[i].length c) ∧ Sl w 7 Stay.cells A xss[i] := by
  have hi2 : i < vs.length := by rw [h.len]; exact hi
  have h1 := h.rows i vs[i] xss[i] (List.getElem?_eq_getElem hi2) (List.getElem?_eq_getElem hi)
  obtain ⟨A, c, hv, hS, _⟩ := own_sl stay_len h1
  have hv2 : vs[i]? = some (.slice A xss[i].length c) := by rw [List.getElem?_eq_getElem hi2, hv]
  exact ⟨A, c, hv2, h.cell hv2, hS⟩
theorem made_rows (n : Nat) : madeCells #[.slice none 0 0] n = (List.replicate n (.slice none 0 0)).toArray := by
  apply Array.ext
  · simp [madeCells]
  · intro i h1 h2
    simp [madeCells, Nat.mod_one]
theorem repl_some {α : Type} {n i : Nat} {a x : α} (h : (List.replicate n a)[i]? = some x) : x = a := by
  rw [List.getElem?_replicate] at h
  split at h
  · simp only [Option.some.injEq] at h; exact h.symm
  · cases h
theorem rows_made (w : World) (n base : Nat) (hb : base ≤ w.heap.size) : RowsAt (w.alloc (.cells (madeCells #[.slice none 0 0] n) 43)) base w.heap.size (List.replicate n (.slice none 0 0)) (List.replicate n []) where
  blk := by rw [heap_alloc_new, made_rows]
  gb := hb
  len := by simp
  rows := fun i v xs h1 h2 => by
    obtain rfl := repl_some h1
    obtain rfl := repl_some h2
    exact World.ownsRow_nil _ _ _ _
  apart := fun i j v u _ h1 _ => by
    obtain rfl := repl_some h1
    exact .inl rfl
/-- A stay is put behind the row number lv. -/
theorem RowsAt.put {W w2 : World} {base g lv : Nat} {vs : List Value} {xss : List (List Stay)} {v v' : Value} {xs : List Stay} {x : Stay} (h : RowsAt W base g vs xss) (hv : vs[lv]? = some v) (hx : xss[lv]? = some xs)
    (hown : w2.ownsRow base 51 7 v' (xs ++ [x]).length ((xs ++ [x]).flatMap Stay.cells)) (hg : W.grownBy w2 v.ownBlock) (ho : v'.ownBlock = v.ownBlock ∨ v'.ownBlock = some W.heap.size) :
    RowsAt (w2.setCell ⟨g, lv, none⟩ v') base g (vs.set lv v') (xss.set lv (xs ++ [x])) := by
  have h0 := h.rows lv v xs hv hx
  have hne : some g ≠ v.ownBlock := own_ne h0 h.blk (by decide)
  have hb2 := (hg.block g (blk_lt h.blk) hne).trans h.blk
  have hne2 : some g ≠ v'.ownBlock := own_ne hown hb2 (by decide)
  have hset := grown_set w2 g lv v'
  have hlv := (List.getElem?_eq_some_iff.1 hv).1
  have hget : ∀ (i : Nat) (u : Value), (vs.set lv v')[i]? = some u → (i = lv ∧ u = v') ∨ (i ≠ lv ∧ vs[i]? = some u) := fun i u hu => by
    rw [List.getElem?_set] at hu
    split at hu
    · rename_i e
      simp only [Option.some.injEq] at hu
      exact .inl ⟨e.symm, hu.symm⟩
    · rename_i e
      exact .inr ⟨fun e' => e e'.symm, hu⟩
  have hlt : ∀ (i : Nat) (u : Value), vs[i]? = some u → u.ownBlock ≠ some W.heap.size := fun i u hu e => by
    have hi := (List.getElem?_eq_some_iff.1 hu).1
    have hi2 : i < xss.length := by rw [← h.len]; exact hi
    have := ((h.rows i u xss[i] hu (List.getElem?_eq_getElem hi2)).lt _ e).2
    omega
  refine ⟨?_, h.gb, by simp [h.len], fun i u ys h1 h2 => ?_, fun i j u u' hij h1 h2 => ?_⟩
  · rw [Joins.block_setCell hb2]
    simp
  · rcases hget i u h1 with ⟨rfl, rfl⟩ | ⟨hi, h1⟩
    · have hxl := (List.getElem?_eq_some_iff.1 hx).1
      rw [List.getElem?_set_self hxl] at h2
      simp only [Option.some.injEq] at h2
      subst h2
      exact hown.kept hset (.inr (Ne.symm hne2))
    · rw [List.getElem?_set, if_neg (fun e => hi e.symm)] at h2
      have h3 := h.rows i u ys h1 h2
      have h4 := h3.kept hg (h.apart i lv u v hi h1 hv)
      exact h4.kept hset (.inr (Ne.symm (own_ne h3 h.blk (by decide))))
  · rcases hget i u h1 with ⟨rfl, rfl⟩ | ⟨hi, h1'⟩
    · rcases hget j u' h2 with ⟨rfl, rfl⟩ | ⟨hj, h2'⟩
      · exact absurd rfl hij
      · rcases ho with e | e
        · rw [e]
          exact h.apart i j v u' hij hv h2'
        · rw [e]
          exact .inr (Ne.symm (hlt j u' h2'))
    · rcases hget j u' h2 with ⟨rfl, rfl⟩ | ⟨hj, h2'⟩
      · rcases ho with e | e
        · rw [e]
          exact h.apart i j u v hij h1' hv
        · rw [e]
          exact .inr (hlt i u h1')
      · exact h.apart i j u u' hij h1' h2'
end Go.Proofs.Ytmiobhlgpjjbgaa
namespace Go.Proofs.Ytmiobhlgpjjbgaa
open Go.RowKit
attribute [local go_sem] World.cell?_alloc_mark ext_size ext_cell ext_frozen lt_add_r lt_add_r2 lt_add_r3 lt_add_r4 lt_add_r5 lt_add_r6 lt_add_r7 lt_add_r8
attribute [local go_sem] ext_setCell alloc_setCell_lt

def Site.v (s : Site) : Value := .agg #[.string s.name, .int .i64 s.kind, .int .i64 s.soil, .int .i64 s.depth, .int .i64 s.step, .int .i64 s.room]
def wsErr (p : Bk × Int) (ss : List Site) (nm : ByteArray) : Int := if p.2 != 0 then p.2 else if (findSite nm ss).isSome then 0 else 6
def WsPost (w : World) (ss : List Site) (rs : List Rest) (p : Bk × Int) (nm : ByteArray) (e : Ending) (w' : World) : Prop :=
  (wsErr p ss nm ≠ 0 ∧ Ret w (.tuple #[.pointer none, zeroSite.v, .int .i64 (wsErr p ss nm)]) e w') ∨
  (wsErr p ss nm = 0 ∧ ∃ s bb, findSite nm ss = some s ∧ e = .returned (.tuple #[.pointer (some ⟨bb, 0, none⟩), s.v, .int .i64 0]) ∧ Env w' w.heap.size bb p.1 ss rs ∧ ∃ z, w' = w.ext z)
theorem WsPost.bad {w w' : World} {ss : List Site} {rs : List Rest} {p : Bk × Int} {nm : ByteArray} {e : Ending} (h : WsPost w ss rs p nm e w') (h0 : (wsErr p ss nm != 0) = true) : e = .returned (.tuple #[.pointer none, zeroSite.v, .int .i64 (wsErr p ss nm)]) ∧ ∃ z, w' = w.ext z := by
  rcases h with ⟨_, h⟩ | ⟨h, _⟩
  · exact h
  · simp [h] at h0
theorem WsPost.ok {w w' : World} {ss : List Site} {rs : List Rest} {p : Bk × Int} {nm : ByteArray} {e : Ending} {s : Site} (h : WsPost w ss rs p nm e w') (h0 : (wsErr p ss nm != 0) = false) (hs : findSite nm ss = some s) :
    ∃ base bb, e = .returned (.tuple #[.pointer (some ⟨bb, 0, none⟩), s.v, .int .i64 0]) ∧ Hid (w.heap.size ≤ base) ∧ Env w' base bb p.1 ss rs ∧ ∃ z, w' = w.ext z := by
  rcases h with ⟨h, _⟩ | ⟨_, h⟩
  · simp at h0; exact absurd h0 h
  · obtain ⟨s', bb, h1, h2, h3, h4⟩ := h
    rw [hs] at h1
    cases h1
    exact ⟨_, bb, h2, Nat.le_refl _, h3, h4⟩
theorem results_tct {fn : Func} {p q u : Tmp} {ty : TypeId} (h : fn.results = #[.tmp p, .cell q ty, .tmp u]) (tmps : Array Value) (P : Program) (w : World) :
    (results fn tmps).run P w = ((asAddr (tmps.getD q undef)).run P w).andThen fun a w₁ => ((loadVar ty a).run P w₁).andThen fun v w₂ => .ok (.tuple #[tmps.getD p undef, v, tmps.getD u undef]) w₂ := by
  simp only [results, h]
  simp [Sem.run_bind, Result.andThen]
theorem results_ws {fn : Func} {p q u : Tmp} (h : fn.results = #[.tmp p, .cell q 32, .tmp u]) (tmps : Array Value) (w : World) (B : Nat) (s : Site) (x y : Value) (hp : tmps.getD p undef = x) (hq : tmps.getD q undef = .pointer (some ⟨B, 0, none⟩)) (hu : tmps.getD u undef = y)
    (h0 : w.cell? ⟨B, 0, none⟩ = some (.string s.name)) (h1 : w.cell? ⟨B, 1, none⟩ = some (.int .i64 s.kind)) (h2 : w.cell? ⟨B, 2, none⟩ = some (.int .i64 s.soil)) (h3 : w.cell? ⟨B, 3, none⟩ = some (.int .i64 s.depth))
    (h4 : w.cell? ⟨B, 4, none⟩ = some (.int .i64 s.step)) (h5 : w.cell? ⟨B, 5, none⟩ = some (.int .i64 s.room)) : (results fn tmps).run Try.prog w = .ok (.tuple #[x, s.v, y]) w := by
  rw [results_tct h, hq, hp, hu]
  unfold Site.v
  go_simp
theorem adds_yard {ss : List Site} {rs : List Rest} : ∀ (es : List Event) (k : Bk), (addsP ss rs k es).1.A = k.A ∧ (addsP ss rs k es).1.R = k.R
  | [], _ => ⟨rfl, rfl⟩
  | e :: l, k => by
    unfold addsP
    split
    · exact ⟨rfl, rfl⟩
    · exact adds_yard l _
theorem readP_yard (ss : List Site) (rs : List Rest) (A R : Option Addr) (n c rn rc : Nat) (c0 c1 c2 : Int) (es : List Event) : (readP ss rs (bk0 A n c R rn rc c0 c1 c2) es).1.A = A ∧ (readP ss rs (bk0 A n c R rn rc c0 c1 c2) es).1.R = R := by
  unfold readP
  split
  · exact ⟨rfl, rfl⟩
  split
  · exact ⟨rfl, rfl⟩
  · exact adds_yard es _
theorem upTo_yard {ss : List Site} {rs : List Rest} {day : Int} : ∀ (es : List Event) (k : Bk), (upToP ss rs day k es).A = k.A ∧ (upToP ss rs day k es).R = k.R
  | [], _ => ⟨rfl, rfl⟩
  | e :: l, k => by
    unfold upToP
    split
    · split
      · exact upTo_yard l _
      · exact upTo_yard l _
    · exact upTo_yard l _
/-- A book stays when a block below its own memory is turned. -/
theorem BookAt.turned {w W : World} {base bb g : Nat} {k : Bk} (h : BookAt w base bb k) (hg : w.grownBy W (some g)) (hgb : g < base) : BookAt W base bb k := by
  obtain ⟨v, bm, h1, h2, h3, h4, h5⟩ := h
  have hne : ∀ b, base ≤ b → some b ≠ some g := fun b hb e => by
    have : b = g := by simpa using e
    omega
  refine ⟨v, bm, (hg.block bb (blk_lt h1) (hne bb h4)).trans h1, h2.kept hg ?_, h3.keep (hg.block bm h3.lt (hne bm h5)), h4, h5⟩
  refine .inr ?_
  intro e
  have h6 := own_ge h2 g (by first | exact e | exact e.symm)
  omega
theorem Env.turned {w W W' : World} {base bb g n c rn rc : Nat} {k : Bk} {ss : List Site} {rs : List Rest} {A R : Option Addr} (h : Env W base bb k ss rs) (hg : W.grownBy W' (some g)) (hgb : g < base) (hA : k.A = A) (hR : k.R = R) (hy : YardIn w ss rs A n c R rn rc) (hB : Below w.heap.size w W') : Env W' base bb k ss rs :=
  ⟨h.bk.turned hg hgb, by rw [hA]; exact hy.sl.keep hB, by rw [hR]; exact hy.sr.keep hB, h.hn, h.hrn, h.cap, h.l1, h.l2, h.l3, h.good, h.short, h.lies⟩
theorem alloc_swap (w : World) (o o' : Obj) (z : Ez) : ((w.alloc o).ext z).grownBy ((w.alloc o').ext z) (some w.heap.size) := by
  refine ⟨rfl, rfl, rfl, by simp [ext_size], fun i hi hne => ?_⟩
  have hne' : i ≠ w.heap.size := fun e => hne (by rw [e])
  simp only [World.ext, Array.getElem?_append, World.size_alloc, alloc_get]
  split
  · simp [hne']
  · rfl
set_option maxRecDepth 100000 in
set_option maxHeartbeats 2000000 in
theorem withSite_any (ss : List Site) (rs : List Rest) (A R : Option Addr) (n c rn rc : Nat) (c0 c1 c2 : Int) (es : List Event) (L : Option Addr) (ln lc : Nat) (nm : ByteArray) (w : World) (hy : YardIn w ss rs A n c R rn rc) (hev : EventsIn w es L ln) :
    Calls Try.prog 70 #[.agg #[.slice A n c, .slice R rn rc, .int .i64 c0, .int .i64 c1, .int .i64 c2], .slice L ln lc, .string nm] w (WsPost w ss rs (readP ss rs (bk0 A n c R rn rc c0 c1 c2) es) nm) := by
  have HR := fun W h1 h2 => read_any ss rs A R n c rn rc c0 c1 c2 es L ln lc W h1 h2
  obtain ⟨hkA, hkR⟩ := readP_yard ss rs A R n c rn rc c0 c1 c2 es
  generalize readP ss rs (bk0 A n c R rn rc c0 c1 c2) es = p at *
  obtain ⟨k, er⟩ := p
  dsimp only at hkA hkR
  have HKA := Lib.hid hkA
  have HKR := Lib.hid hkR
  clear hkA hkR
  have hres := site_res hy.sl nm
  have hln := hy.hn
  subst hln
  have hl1 := hy.l1
  go_enter Try.func70, Try.ntmps70
  cases hq : (er != 0)
  · have HQ := Lib.hid hq
    clear hq
    cases hf : findSite nm ss with
    | none =>
      rw [hf] at hres
      have hp : sitePtr A nm ss = none := hres
      have HX : Hid (wsErr (k, er) ss nm = 6) := by show _ = _; unfold wsErr; dsimp only; rw [HQ.out, hf]; rfl
      clear hres hf
      go_wp2_with (first
        | (go_at_call 61; refine (HR _ (hy.keep (by repeat (first | exact B_refl | exact Below.refl _ _ | assumption | with_reducible refine B_alloc ?_ _ | with_reducible refine B_ext ?_ _ | with_reducible refine B_drew ?_ | with_reducible refine B_drewN ?_ _ | with_reducible refine B_set ?_ (by simp; omega) _))) (hev.keep (by repeat (first | exact B_refl | exact Below.refl _ _ | assumption | with_reducible refine B_alloc ?_ _ | with_reducible refine B_ext ?_ _ | with_reducible refine B_drew ?_ | with_reducible refine B_drewN ?_ _ | with_reducible refine B_set ?_ (by simp; omega) _)))).mono ?_; intro e wq hpq; obtain ⟨base, bb, rfl, hbs, henv, zq, rfl⟩ := hpq.ok HQ.out; clear hpq)
        | (go_at_call 59; refine (siteOf_any ss _ _ _ _ _ _ _ _ _ _ _ hy.hn (hy.sl.keep (n := w.heap.size) (by repeat (first | exact B_refl | exact Below.refl _ _ | assumption | with_reducible refine B_alloc ?_ _ | with_reducible refine B_ext ?_ _ | with_reducible refine B_drew ?_ | with_reducible refine B_drewN ?_ _ | with_reducible refine B_set ?_ (by simp; omega) _))) (by omega)).mono ?_; rintro e wq ⟨rfl, zs, rfl⟩))
      refine bodyPost_ret (v := .tuple #[.pointer none, zeroSite.v, .int .i64 6]) (results_ws rfl _ _ (w.heap.size + 1) zeroSite _ _ rfl rfl rfl (by simp [go_sem, zeroSite]) (by simp [go_sem, zeroSite]) (by simp [go_sem, zeroSite]) (by simp [go_sem, zeroSite]) (by simp [go_sem, zeroSite]) (by simp [go_sem, zeroSite])) rfl ?_
      exact .inl ⟨by rw [HX.out]; decide, Ret.of (by rw [HX.out]) (by repeat (first | exact B_refl | exact Below.refl _ _ | assumption | with_reducible refine B_alloc ?_ _ | with_reducible refine B_ext ?_ _ | with_reducible refine B_drew ?_ | with_reducible refine B_drewN ?_ _ | with_reducible refine B_set ?_ (by simp; omega) _))⟩
    | some s =>
      have HF := Lib.hid hf
      have HX : Hid (wsErr (k, er) ss nm = 0) := by show _ = _; unfold wsErr; dsimp only; rw [HQ.out, hf]; rfl
      rw [hf] at hres
      obtain ⟨b, off, hp, hb, hcs⟩ := hres
      have x0 : w.cell? ⟨b, off, none⟩ = some (.string s.name) := hcs 0 _ rfl
      have x1 : w.cell? ⟨b, off + 1, none⟩ = some (.int .i64 s.kind) := hcs 1 _ rfl
      have x2 : w.cell? ⟨b, off + 2, none⟩ = some (.int .i64 s.soil) := hcs 2 _ rfl
      have x3 : w.cell? ⟨b, off + 3, none⟩ = some (.int .i64 s.depth) := hcs 3 _ rfl
      have x4 : w.cell? ⟨b, off + 4, none⟩ = some (.int .i64 s.step) := hcs 4 _ rfl
      have x5 : w.cell? ⟨b, off + 5, none⟩ = some (.int .i64 s.room) := hcs 5 _ rfl
      clear hcs hf
      obtain ⟨a, kd, so, d, st, r⟩ := s
      dsimp only at x0 x1 x2 x3 x4 x5
      go_wp2_with (first
        | (go_at_call 61; refine (HR _ (hy.keep (by repeat (first | exact B_refl | exact Below.refl _ _ | assumption | with_reducible refine B_alloc ?_ _ | with_reducible refine B_ext ?_ _ | with_reducible refine B_drew ?_ | with_reducible refine B_drewN ?_ _ | with_reducible refine B_set ?_ (by simp; omega) _))) (hev.keep (by repeat (first | exact B_refl | exact Below.refl _ _ | assumption | with_reducible refine B_alloc ?_ _ | with_reducible refine B_ext ?_ _ | with_reducible refine B_drew ?_ | with_reducible refine B_drewN ?_ _ | with_reducible refine B_set ?_ (by simp; omega) _)))).mono ?_; intro e wq hpq; obtain ⟨base, bb, rfl, hbs, henv, zq, rfl⟩ := hpq.ok HQ.out; clear hpq)
        | (go_at_call 59; refine (siteOf_any ss _ _ _ _ _ _ _ _ _ _ _ hy.hn (hy.sl.keep (n := w.heap.size) (by repeat (first | exact B_refl | exact Below.refl _ _ | assumption | with_reducible refine B_alloc ?_ _ | with_reducible refine B_ext ?_ _ | with_reducible refine B_drew ?_ | with_reducible refine B_drewN ?_ _ | with_reducible refine B_set ?_ (by simp; omega) _))) (by omega)).mono ?_; rintro e wq ⟨rfl, zs, rfl⟩))
      go_region
      all_goals go_wp2_with fail
      all_goals refine bodyPost_ret (v := .tuple #[.pointer (some ⟨bb, 0, none⟩), Site.v ⟨a, kd, so, d, st, r⟩, .int .i64 0]) (results_ws rfl _ _ (w.heap.size + 1) ⟨a, kd, so, d, st, r⟩ _ _ rfl rfl rfl (by simp [go_sem, zeroSite]) (by simp [go_sem, zeroSite]) (by simp [go_sem, zeroSite]) (by simp [go_sem, zeroSite]) (by simp [go_sem, zeroSite]) (by simp [go_sem, zeroSite])) rfl ?_
      all_goals exact .inr ⟨HX.out, _, bb, HF.out, rfl, ((henv.turned (alloc_swap _ _ (.cells #[.string a, .int .i64 kd, .int .i64 so, .int .i64 d, .int .i64 st, .int .i64 r] 32) _) (by have := hbs.out; simp at this ⊢; omega) HKA.out HKR.out hy (by repeat (first | exact B_refl | exact Below.refl _ _ | assumption | with_reducible refine B_alloc ?_ _ | with_reducible refine B_ext ?_ _ | with_reducible refine B_drew ?_ | with_reducible refine B_drewN ?_ _ | with_reducible refine B_set ?_ (by simp; omega) _))).keep (n := (World.ext ((w.alloc (.cells #[.slice A ss.length c, .slice R rn rc, .int .i64 c0, .int .i64 c1, .int .i64 c2] 26)).alloc (.cells #[.string a, .int .i64 kd, .int .i64 so, .int .i64 d, .int .i64 st, .int .i64 r] 32)) zq).heap.size) (by repeat (first | exact B_refl | exact Below.refl _ _ | assumption | with_reducible refine B_alloc ?_ _ | with_reducible refine B_ext ?_ _ | with_reducible refine B_drew ?_ | with_reducible refine B_drewN ?_ _ | with_reducible refine B_set ?_ (by simp; omega) _))).mono (by have := hbs.out; simp at this; omega), ext_below (by repeat (first | exact B_refl | exact Below.refl _ _ | assumption | with_reducible refine B_alloc ?_ _ | with_reducible refine B_ext ?_ _ | with_reducible refine B_drew ?_ | with_reducible refine B_drewN ?_ _ | with_reducible refine B_set ?_ (by simp; omega) _))⟩
  · have HQ := Lib.hid hq
    have HX : Hid (wsErr (k, er) ss nm = er) := by show _ = _; unfold wsErr; dsimp only; rw [HQ.out]; rfl
    go_wp2_with (go_at_call 61; refine (HR _ (hy.keep (by repeat (first | exact B_refl | exact Below.refl _ _ | assumption | with_reducible refine B_alloc ?_ _ | with_reducible refine B_ext ?_ _ | with_reducible refine B_drew ?_ | with_reducible refine B_drewN ?_ _ | with_reducible refine B_set ?_ (by simp; omega) _))) (hev.keep (by repeat (first | exact B_refl | exact Below.refl _ _ | assumption | with_reducible refine B_alloc ?_ _ | with_reducible refine B_ext ?_ _ | with_reducible refine B_drew ?_ | with_reducible refine B_drewN ?_ _ | with_reducible refine B_set ?_ (by simp; omega) _)))).mono ?_; intro e wq hpq; obtain ⟨rfl, zq, rfl⟩ := hpq.bad HQ.out; clear hpq)
    refine bodyPost_ret (v := .tuple #[.pointer none, zeroSite.v, .int .i64 er]) (results_ws rfl _ _ (w.heap.size + 1) zeroSite _ _ rfl rfl rfl (by simp [go_sem, zeroSite]) (by simp [go_sem, zeroSite]) (by simp [go_sem, zeroSite]) (by simp [go_sem, zeroSite]) (by simp [go_sem, zeroSite]) (by simp [go_sem, zeroSite])) rfl ?_
    exact .inl ⟨by rw [HX.out]; simpa using HQ.out, Ret.of (by rw [HX.out]) (by repeat (first | exact B_refl | exact Below.refl _ _ | assumption | with_reducible refine B_alloc ?_ _ | with_reducible refine B_ext ?_ _ | with_reducible refine B_drew ?_ | with_reducible refine B_drewN ?_ _ | with_reducible refine B_set ?_ (by simp; omega) _))⟩
end Go.Proofs.Ytmiobhlgpjjbgaa
namespace Go.Proofs.Ytmiobhlgpjjbgaa
open Go.RowKit
attribute [local go_sem] World.cell?_alloc_mark ext_size ext_cell ext_frozen lt_add_r lt_add_r2 lt_add_r3 lt_add_r4 lt_add_r5 lt_add_r6 lt_add_r7 lt_add_r8

def hereP (l : Lot) (nm : ByteArray) : Bool := (l.state == 1 || l.state == 3) && l.site.toList == nm.toList
theorem cell_of {w : World} {g i : Nat} {cs : Array Value} {t : TypeId} {fr : Nat × Nat} {v : Value} (h : w.heap[g]? = some (.cells cs t fr)) (hv : cs[i]? = some v) : w.cell? ⟨g, i, none⟩ = some v := by
  simp only [World.cell?, h]
  exact hv
theorem G_setO {w : World} {g k i : Nat} {u : Value} {x : Obj} (h : ¬ k = g) (hx : w.heap[k]? = some x) : (w.setCell ⟨g, i, none⟩ u).heap[k]? = some x := (heap_setCell_other w ⟨g, i, none⟩ k u h).trans hx
set_option maxRecDepth 100000 in
set_option maxHeartbeats 2000000 in
theorem here_any (rm : ByteArray) (st : Int) (si : ByteArray) (lv co sc : Int) (nm : ByteArray) (w : World) :
    Calls Try.prog 77 #[.agg #[.string rm, .int .i64 st, .string si, .int .i64 lv, .int .i64 co, .int .i64 sc], .string nm] w (Ret w (.bool (hereP ⟨rm, st, si, lv, co, sc⟩ nm))) := by
  go_enter Try.func77, Try.ntmps77
  cases h1 : (st == 1) <;> cases h2 : (st == 3) <;> cases h3 : (si.toList == nm.toList) <;> (go_wp2_with fail; go_ret; exact Ret.of (by simp [hereP, h1, h2, h3]) (by repeat (first | exact B_refl | exact Below.refl _ _ | assumption | with_reducible refine B_alloc ?_ _ | with_reducible refine B_ext ?_ _ | with_reducible refine B_drew ?_ | with_reducible refine B_drewN ?_ _ | with_reducible refine B_set ?_ (by simp; omega) _)))
theorem here_false {ss : List Site} {l : Lot} {nm : ByteArray} (hp : PlacedS ss l) (hn : nm ≠ ⟨#[]⟩) (h : hereP l nm = false) : (l.site.toList == nm.toList) = false := by
  unfold hereP at h
  cases hq : (l.site.toList == nm.toList)
  · rfl
  · rw [hq, Bool.and_true, Bool.or_eq_false_iff] at h
    rcases hp with ⟨h1, _⟩ | ⟨h1, _⟩
    · exfalso
      apply hn
      rw [← bytes_ext (eq_of_beq hq), h1]
    · exfalso
      rcases h1 with h1 | h1
      · rw [h1] at h; simp at h
      · rw [h1] at h; simp at h
theorem here_true {ss : List Site} {l : Lot} {nm : ByteArray} {s : Site} (hp : PlacedS ss l) (hs : findSite nm ss = some s) (h : hereP l nm = true) : (l.site.toList == nm.toList) = true ∧ 0 ≤ l.level ∧ l.level < s.room := by
  unfold hereP at h
  simp only [Bool.and_eq_true, Bool.or_eq_true, beq_iff_eq] at h
  obtain ⟨h1, h2⟩ := h
  refine ⟨by simpa using h2, ?_⟩
  rcases hp with ⟨_, h3, h4⟩ | ⟨_, s', h3, h4, h5⟩
  · rcases h1 with h1 | h1
    · exact absurd h1 h3
    · exact absurd h1 h4
  · rw [bytes_ext h2, hs] at h3
    cases h3
    exact ⟨h4, h5⟩

/-- The stays at each level. -/
def LevOk (w : World) (xss : List (List Stay)) (n : Nat) (e : Ending) (w' : World) : Prop :=
  ∃ g vs, e = .returned (.tuple #[.slice (some ⟨g, 0, none⟩) n n, .int .i64 0]) ∧ RowsAt w' w.heap.size g vs xss ∧ ∃ z, w' = w.ext z
theorem run_rows (n : Nat) (h : n ≤ 1000) (W : World) : (Instr.makeSlice 83 (.int .i64 (n : Int)) (.int .i64 (n : Int))).run Try.prog W = .ok (.slice (some ⟨W.heap.size, 0, none⟩) n n) (W.alloc (.cells (madeCells #[.slice none 0 0] n) 43)) := by
  obtain ⟨i, h1, h2, h3, h4⟩ := info_parts (show (Try.prog.info? 43).map (fun i => (i.zero, i.size, i.bytes)) = some (some (.slice none 0 0), 1, 24) by kernel_rfl)
  have hu : Try.prog.underlying 83 = some (.slice 43) := by kernel_rfl
  have := run_make (P := Try.prog) W 83 43 i _ hu h1 h2 .i64 .i64 n n (by omega) (Int.le_refl _) (by rw [h4]; omega) (by omega)
  rw [h3] at this
  simpa [Value.cells] using this
set_option maxRecDepth 100000 in
set_option maxHeartbeats 2000000 in
theorem gLevels_bad (ss : List Site) (rs : List Rest) (A R : Option Addr) (n c rn rc : Nat) (c0 c1 c2 : Int) (es : List Event) (L : Option Addr) (ln lc : Nat) (nm : ByteArray) (w : World) (hy : YardIn w ss rs A n c R rn rc) (hev : EventsIn w es L ln) (hq : (wsErr (readP ss rs (bk0 A n c R rn rc c0 c1 c2) es) ss nm != 0) = true) :
    Calls Try.prog 42 #[.agg #[.slice A n c, .slice R rn rc, .int .i64 c0, .int .i64 c1, .int .i64 c2], .slice L ln lc, .string nm] w (Ret w (.tuple #[.slice none 0 0, .int .i64 (wsErr (readP ss rs (bk0 A n c R rn rc c0 c1 c2) es) ss nm)])) := by
  have HWS := fun W h1 h2 => withSite_any ss rs A R n c rn rc c0 c1 c2 es L ln lc nm W h1 h2
  have HQ := Lib.hid hq
  generalize readP ss rs (bk0 A n c R rn rc c0 c1 c2) es = p at *
  go_enter Try.func42, Try.ntmps42
  go_wp2_with (go_at_call 70; refine (HWS _ (hy.keep (by repeat (first | exact B_refl | exact Below.refl _ _ | assumption | with_reducible refine B_alloc ?_ _ | with_reducible refine B_ext ?_ _ | with_reducible refine B_drew ?_ | with_reducible refine B_drewN ?_ _ | with_reducible refine B_set ?_ (by simp; omega) _))) (hev.keep (by repeat (first | exact B_refl | exact Below.refl _ _ | assumption | with_reducible refine B_alloc ?_ _ | with_reducible refine B_ext ?_ _ | with_reducible refine B_drew ?_ | with_reducible refine B_drewN ?_ _ | with_reducible refine B_set ?_ (by simp; omega) _)))).mono ?_; intro e wq hpq; obtain ⟨rfl, zq, rfl⟩ := hpq.bad HQ.out; clear hpq; unfold Site.v zeroSite)
  go_ret2
  exact Ret.of rfl (by repeat (first | exact B_refl | exact Below.refl _ _ | assumption | with_reducible refine B_alloc ?_ _ | with_reducible refine B_ext ?_ _ | with_reducible refine B_drew ?_ | with_reducible refine B_drewN ?_ _ | with_reducible refine B_set ?_ (by simp; omega) _))
set_option maxRecDepth 100000 in
set_option maxHeartbeats 2000000 in
theorem gLevels_ok (ss : List Site) (rs : List Rest) (A R : Option Addr) (n c rn rc : Nat) (c0 c1 c2 : Int) (es : List Event) (L : Option Addr) (ln lc : Nat) (nm : ByteArray) (a : ByteArray) (kd so d st : Int) (N : Nat) (w : World) (hy : YardIn w ss rs A n c R rn rc) (hev : EventsIn w es L ln)
    (hq : (wsErr (readP ss rs (bk0 A n c R rn rc c0 c1 c2) es) ss nm != 0) = false) (hs : findSite nm ss = some ⟨a, kd, so, d, st, (N : Int)⟩) (hN : N ≤ 12) (hnm : nm ≠ ⟨#[]⟩)
    (hpl : ∀ x ∈ (readP ss rs (bk0 A n c R rn rc c0 c1 c2) es).1.st, PlacedS ss x.lot) :
    Calls Try.prog 42 #[.agg #[.slice A n c, .slice R rn rc, .int .i64 c0, .int .i64 c1, .int .i64 c2], .slice L ln lc, .string nm] w (LevOk w (levelsP nm N (readP ss rs (bk0 A n c R rn rc c0 c1 c2) es).1.st) N) := by
  have HWS := fun W h1 h2 => withSite_any ss rs A R n c rn rc c0 c1 c2 es L ln lc nm W h1 h2
  have HQ := Lib.hid hq
  have HS := Lib.hid hs
  have HNM := Lib.hid hnm
  have HPL := Lib.hid hpl
  clear hq hs hnm hpl
  generalize readP ss rs (bk0 A n c R rn rc c0 c1 c2) es = p at *
  obtain ⟨k, er⟩ := p
  dsimp only at HPL ⊢
  have hmk := run_rows N (by omega)
  go_enter Try.func42, Try.ntmps42
  go_wp2_with (go_at_call 70
               refine (HWS _ (hy.keep (by repeat (first | exact B_refl | exact Below.refl _ _ | assumption | with_reducible refine B_alloc ?_ _ | with_reducible refine B_ext ?_ _ | with_reducible refine B_drew ?_ | with_reducible refine B_drewN ?_ _ | with_reducible refine B_set ?_ (by simp; omega) _))) (hev.keep (by repeat (first | exact B_refl | exact Below.refl _ _ | assumption | with_reducible refine B_alloc ?_ _ | with_reducible refine B_ext ?_ _ | with_reducible refine B_drew ?_ | with_reducible refine B_drewN ?_ _ | with_reducible refine B_set ?_ (by simp; omega) _)))).mono ?_
               intro e wq hpq
               obtain ⟨base, bb, rfl, hbs, henv, zq, rfl⟩ := hpq.ok HQ.out HS.out
               clear hpq
               unfold Site.v
               obtain ⟨vv, bm, hblk, hown, hm, hbb, hbm⟩ := henv.bk
               obtain ⟨A', c', rfl, hS, hcap⟩ := own_sl stay_len hown
               have hlt : bb < (World.ext (w.alloc (.cells #[.slice A n c, .slice R rn rc, .int .i64 c0, .int .i64 c1, .int .i64 c2] 26)) zq).heap.size := blk_lt hblk
               have g5 : (World.ext (w.alloc (.cells #[.slice A n c, .slice R rn rc, .int .i64 c0, .int .i64 c1, .int .i64 c2] 26)) zq).cell? ⟨bb, 5, none⟩ = some (.slice A' k.st.length c') := by simp only [World.cell?, hblk]; rfl
               have hlt2 : bb < w.heap.size + 1 + zq.os.size := by simpa [ext_size] using hlt
               have hlt3 : bb < w.heap.size + 1 + zq.os.size + 1 := by omega
               have HL3 := Lib.hid henv.l3
               clear hblk hown hm hcap)
  obtain ⟨G, hG⟩ : ∃ G, G = w.heap.size + 1 + zq.os.size + 1 := ⟨_, rfl⟩
  generalize hW1 : World.alloc (World.ext (w.alloc (.cells #[.slice A n c, .slice R rn rc, .int .i64 c0, .int .i64 c1, .int .i64 c2] 26)) zq) (.cells #[.string a, .int .i64 kd, .int .i64 so, .int .i64 d, .int .i64 st, .int .i64 (N : Int)] 32) = W1
  have hB1 : Below w.heap.size w W1 := by rw [← hW1]; repeat (first | exact B_refl | exact Below.refl _ _ | assumption | with_reducible refine B_alloc ?_ _ | with_reducible refine B_ext ?_ _ | with_reducible refine B_drew ?_ | with_reducible refine B_drewN ?_ _ | with_reducible refine B_set ?_ (by simp; omega) _)
  have hW1s : W1.heap.size = G := by rw [← hW1, hG]; simp [ext_size]
  have hBW : Below (World.ext (w.alloc (.cells #[.slice A n c, .slice R rn rc, .int .i64 c0, .int .i64 c1, .int .i64 c2] 26)) zq).heap.size (World.ext (w.alloc (.cells #[.slice A n c, .slice R rn rc, .int .i64 c0, .int .i64 c1, .int .i64 c2] 26)) zq) W1 := by rw [← hW1]; repeat (first | exact B_refl | exact Below.refl _ _ | assumption | with_reducible refine B_alloc ?_ _ | with_reducible refine B_ext ?_ _ | with_reducible refine B_drew ?_ | with_reducible refine B_drewN ?_ _ | with_reducible refine B_set ?_ (by simp; omega) _)
  have hS1 := hS.keep hBW
  have hRA := rows_made W1 N G (by omega)
  rw [hW1s] at hRA
  rw [← levels_nil nm N] at hRA
  generalize hW0 : World.alloc W1 (.cells (madeCells #[.slice none 0 0] N) 43) = W0 at *
  have hB0 : Below G W1 W0 := by rw [← hW0, ← hW1s]; repeat (first | exact B_refl | exact Below.refl _ _ | assumption | with_reducible refine B_alloc ?_ _ | with_reducible refine B_ext ?_ _ | with_reducible refine B_drew ?_ | with_reducible refine B_drewN ?_ _ | with_reducible refine B_set ?_ (by simp; omega) _)
  have hS0 := hS1.keep hB0
  have hz : w.heap.size ≤ G := by omega
  have hl3 := HL3.out
  rw [← hG]
  clear hW0 hW1 hBW hS hG hlt hlt2 hlt3
  go_loopw [13, 33] (fun _ i wr => ∃ (j : Nat) (vs : List Value), j ≤ k.st.length ∧ i = .int .i64 j ∧ RowsAt wr G G vs (levelsP nm N (k.st.take j)) ∧ Below G W1 wr) (fun _ i _ => k.st.length - (intOf i).toNat)
  case atStart => exact ⟨0, _, Nat.zero_le _, rfl, hRA, hB0⟩
  case round =>
    obtain ⟨j, vs, hj, rfl, hR, hBr⟩ := hrel
    have hGr := blk_lt hR.blk
    by_cases hjl : j < k.st.length
    · obtain ⟨b, off, rfl, hb, hc0⟩ := hS1.at hjl
      have hc : ∀ i u, (k.st[j].cells)[i]? = some u → wr.cell? ⟨b, off + j * 7 + i, none⟩ = some u := fun i u hu => (hBr.cell (p := ⟨b, off + j * 7 + i, none⟩) (by rw [← hW1s]; exact hb)).trans (hc0 i u hu)
      have x0 : wr.cell? ⟨b, off + j * 7, none⟩ = some (.string k.st[j].lot.remain) := hc 0 _ rfl
      have x1 : wr.cell? ⟨b, off + j * 7 + 1, none⟩ = some (.int .i64 k.st[j].lot.state) := hc 1 _ rfl
      have x2 : wr.cell? ⟨b, off + j * 7 + 2, none⟩ = some (.string k.st[j].lot.site) := hc 2 _ rfl
      have x3 : wr.cell? ⟨b, off + j * 7 + 3, none⟩ = some (.int .i64 k.st[j].lot.level) := hc 3 _ rfl
      have x4 : wr.cell? ⟨b, off + j * 7 + 4, none⟩ = some (.int .i64 k.st[j].lot.container) := hc 4 _ rfl
      have x5 : wr.cell? ⟨b, off + j * 7 + 5, none⟩ = some (.int .i64 k.st[j].lot.since) := hc 5 _ rfl
      have x6 : wr.cell? ⟨b, off + j * 7 + 6, none⟩ = some (.int .i64 k.st[j].till) := hc 6 _ rfl
      have ht1 : k.st.take (j + 1) = k.st.take j ++ [k.st[j]] := List.take_succ_eq_append_getElem hjl
      have hpj := HPL.out _ (List.getElem_mem hjl)
      have HT := Lib.hid ht1
      have HPJ := Lib.hid hpj
      have hlt2 : (j : Int) < (k.st.length : Int) := by omega
      clear hc hc0 ht1 hpj
      generalize k.st[j] = s at *
      obtain ⟨⟨a0, a1, a2, a3, a4, a5⟩, a6⟩ := s
      dsimp only at x0 x1 x2 x3 x4 x5 x6 HPJ
      generalize hsj : k.st.take j = sj at *
      have hsl : sj.length ≤ 1000 := by rw [← hsj]; simp; omega
      clear hsj
      cases hh : hereP ⟨a0, a1, a2, a3, a4, a5⟩ nm
      · have hf := here_false HPJ.out HNM.out hh
        have HF := Lib.hid hf
        have HH := Lib.hid hh
        clear hf hh
        go_wp2_with (go_at_call 77; refine (here_any _ _ _ _ _ _ _ _).mono ?_; rintro e wq ⟨rfl, zq, rfl⟩; rw [HH.out])
        go_roundw
        case rel => exact ⟨j + 1, vs, by omega, by go_num, by rw [HT.out, levels_snoc_other HF.out]; exact hR.keep (by repeat (first | exact B_refl | exact Below.refl _ _ | assumption | with_reducible refine B_alloc ?_ _ | with_reducible refine B_ext ?_ _ | with_reducible refine B_drew ?_ | with_reducible refine B_drewN ?_ _ | with_reducible refine B_set ?_ (by simp; omega) _)), hBr.trans ((by repeat (first | exact B_refl | exact Below.refl _ _ | assumption | with_reducible refine B_alloc ?_ _ | with_reducible refine B_ext ?_ _ | with_reducible refine B_drew ?_ | with_reducible refine B_drewN ?_ _ | with_reducible refine B_set ?_ (by simp; omega) _) : Below wr.heap.size wr _).mono (by omega))⟩
        case measure => simp [intOf]; omega
      · obtain ⟨hf1, hf2, hf3⟩ := here_true HPJ.out HS.out hh
        dsimp only at hf1 hf2 hf3
        obtain ⟨lv, rfl⟩ : ∃ lv : Nat, a3 = (lv : Int) := ⟨a3.toNat, by omega⟩
        have hlN : lv < N := by omega
        have HH := Lib.hid hh
        have HF1 := Lib.hid hf1
        have hll : lv < (levelsP nm N sj).length := by rw [levels_len]; exact hlN
        obtain ⟨vb, vc, hv, hvc, hvS⟩ := hR.at hll
        have hx : (levelsP nm N sj)[lv]? = some (sj.filter fun s => s.lot.site.toList == nm.toList && s.lot.level == (lv : Int)) := levels_at hlN
        have hrow := hR.rows lv _ _ hv hx
        have hge := (List.getElem?_eq_some_iff.1 hx).2
        rw [hge] at hv hvc hvS hrow
        have hxl : (sj.filter fun s => s.lot.site.toList == nm.toList && s.lot.level == (lv : Int)).length ≤ 1000 := Nat.le_trans (List.length_filter_le _ _) hsl
        have HV := Lib.hid hv
        have HX := Lib.hid hx
        have HLS : Hid (levelsP nm N (sj ++ [⟨⟨a0, a1, a2, (lv : Int), a4, a5⟩, a6⟩]) = (levelsP nm N sj).set lv ((sj.filter fun s => s.lot.site.toList == nm.toList && s.lot.level == (lv : Int)) ++ [⟨⟨a0, a1, a2, (lv : Int), a4, a5⟩, a6⟩])) := levels_snoc HF1.out rfl hlN
        clear hv hx hge hll hh hf1 hf2 hf3 hvS
        generalize (sj.filter fun s => s.lot.site.toList == nm.toList && s.lot.level == (lv : Int)) = us at *
        have hlN2 : (lv : Int) < (N : Int) := by omega
        have hlv0 : (0 : Int) ≤ (lv : Int) := by omega
        go_wp2_with (go_at_call 77; refine (here_any _ _ _ _ _ _ _ _).mono ?_; rintro e wq ⟨rfl, zq, rfl⟩; rw [HH.out])
        have hneG : some G ≠ (Value.slice vb us.length vc).ownBlock := own_ne hrow hR.blk (by decide)
        have hneX : some wr.heap.size ≠ (Value.slice vb us.length vc).ownBlock := fun e => by
          have := (hrow.lt _ e.symm).2
          omega
        have hGx : ¬ wr.heap.size = G := by omega
        have hGx2 : ¬ G = wr.heap.size := by omega
        refine wp_region_held_drew (S := (fun w' => w'.cell? ⟨wr.heap.size, 0, none⟩ = some (.string a0) ∧ w'.cell? ⟨wr.heap.size, 1, none⟩ = some (.int .i64 a1) ∧ w'.cell? ⟨wr.heap.size, 2, none⟩ = some (.string a2) ∧ w'.cell? ⟨wr.heap.size, 3, none⟩ = some (.int .i64 (lv : Int)) ∧ w'.cell? ⟨wr.heap.size, 4, none⟩ = some (.int .i64 a4) ∧ w'.cell? ⟨wr.heap.size, 5, none⟩ = some (.int .i64 a5) ∧ w'.cell? ⟨wr.heap.size, 6, none⟩ = some (.int .i64 a6))) (by kernel_rfl) ?hS ?hrest
        case hS => ((try dsimp only); ((refine ⟨cell_of (cs := #[.string a0, .int .i64 a1, .string a2, .int .i64 (lv : Int), .int .i64 a4, .int .i64 a5, .int .i64 a6]) (t := 51) (fr := (0, 0)) ?_ rfl, cell_of (cs := #[.string a0, .int .i64 a1, .string a2, .int .i64 (lv : Int), .int .i64 a4, .int .i64 a5, .int .i64 a6]) (t := 51) (fr := (0, 0)) ?_ rfl, cell_of (cs := #[.string a0, .int .i64 a1, .string a2, .int .i64 (lv : Int), .int .i64 a4, .int .i64 a5, .int .i64 a6]) (t := 51) (fr := (0, 0)) ?_ rfl, cell_of (cs := #[.string a0, .int .i64 a1, .string a2, .int .i64 (lv : Int), .int .i64 a4, .int .i64 a5, .int .i64 a6]) (t := 51) (fr := (0, 0)) ?_ rfl, cell_of (cs := #[.string a0, .int .i64 a1, .string a2, .int .i64 (lv : Int), .int .i64 a4, .int .i64 a5, .int .i64 a6]) (t := 51) (fr := (0, 0)) ?_ rfl, cell_of (cs := #[.string a0, .int .i64 a1, .string a2, .int .i64 (lv : Int), .int .i64 a4, .int .i64 a5, .int .i64 a6]) (t := 51) (fr := (0, 0)) ?_ rfl, cell_of (cs := #[.string a0, .int .i64 a1, .string a2, .int .i64 (lv : Int), .int .i64 a4, .int .i64 a5, .int .i64 a6]) (t := 51) (fr := (0, 0)) ?_ rfl⟩ <;> ((repeat (first | with_reducible exact hx2 | with_reducible exact G_new _ _ _ (by simp) | with_reducible refine G_drew ?_ | with_reducible refine G_ext ?_ | with_reducible refine G_alloc ?_ | with_reducible refine G_setO hGx ?_)); done))))
        case hrest =>
          intro hHeld
          refine wpAnyH_take (i := 0) (v := ?_) (List.getElem?_toArray.trans rfl) (by kernel_rfl) (by kernel_rfl) (by kernel_rfl) (fun _ _ _ h => h) (Or.inl ⟨by rfl, ?_⟩) (by assumption) ?_
          rotate_left 1
          focus (intro w hSw; (try dsimp only at hSw); go_simp; first | done | with_reducible rfl)
          try simp only [Act.put, List.setIfInBounds_toArray, List.set_cons_zero, List.set_cons_succ]
          refine wpAnyH_take (i := 1) (v := ?_) (List.getElem?_toArray.trans rfl) (by kernel_rfl) (by kernel_rfl) (by kernel_rfl) (fun _ _ _ h => h) (Or.inl ⟨by rfl, ?_⟩) (by assumption) ?_
          rotate_left 1
          focus (intro w hSw; (try dsimp only at hSw); go_simp; first | done | with_reducible rfl)
          try simp only [Act.put, List.setIfInBounds_toArray, List.set_cons_zero, List.set_cons_succ]
          refine wpAnyH_take (i := 2) (v := ?_) (List.getElem?_toArray.trans rfl) (by kernel_rfl) (by kernel_rfl) (by kernel_rfl) (fun _ _ _ h => h) (Or.inl ⟨by rfl, ?_⟩) (by assumption) ?_
          rotate_left 1
          focus (intro w hSw; (try dsimp only at hSw); go_simp; first | done | with_reducible rfl)
          try simp only [Act.put, List.setIfInBounds_toArray, List.set_cons_zero, List.set_cons_succ]
          refine wpAnyH_take (i := 3) (v := ?_) (List.getElem?_toArray.trans rfl) (by kernel_rfl) (by kernel_rfl) (by kernel_rfl) (fun _ _ _ h => h) (Or.inl ⟨by rfl, ?_⟩) (by assumption) ?_
          rotate_left 1
          focus (intro w hSw; (try dsimp only at hSw); go_simp; first | done | with_reducible rfl)
          try simp only [Act.put, List.setIfInBounds_toArray, List.set_cons_zero, List.set_cons_succ]
          refine wpAnyH_take (i := 4) (v := ?_) (List.getElem?_toArray.trans rfl) (by kernel_rfl) (by kernel_rfl) (by kernel_rfl) (fun _ _ _ h => h) (Or.inl ⟨by rfl, ?_⟩) (by assumption) ?_
          rotate_left 1
          focus (intro w hSw; (try dsimp only at hSw); go_simp; first | done | with_reducible rfl)
          try simp only [Act.put, List.setIfInBounds_toArray, List.set_cons_zero, List.set_cons_succ]
          refine wpAnyH_take (i := 5) (v := ?_) (List.getElem?_toArray.trans rfl) (by kernel_rfl) (by kernel_rfl) (by kernel_rfl) (fun _ _ _ h => h) (Or.inl ⟨by rfl, ?_⟩) (by assumption) ?_
          rotate_left 1
          focus (intro w hSw; (try dsimp only at hSw); go_simp; first | done | with_reducible rfl)
          try simp only [Act.put, List.setIfInBounds_toArray, List.set_cons_zero, List.set_cons_succ]
          refine wpAnyH_take (i := 6) (v := ?_) (List.getElem?_toArray.trans rfl) (by kernel_rfl) (by kernel_rfl) (by kernel_rfl) (fun _ _ _ h => h) (Or.inl ⟨by rfl, ?_⟩) (by assumption) ?_
          rotate_left 1
          focus (intro w hSw; (try dsimp only at hSw); go_simp; first | done | with_reducible rfl)
          try simp only [Act.put, List.setIfInBounds_toArray, List.set_cons_zero, List.set_cons_succ]
          refine wpAnyH_take (i := 7) (v := ?_) (List.getElem?_toArray.trans rfl) (by kernel_rfl) (by kernel_rfl) (by kernel_rfl) (fun _ _ _ h => h) (Or.inl ⟨by rfl, ?_⟩) (by assumption) ?_
          rotate_left 1
          focus (intro w hSw; (try dsimp only at hSw); go_simp; first | done | with_reducible rfl)
          try simp only [Act.put, List.setIfInBounds_toArray, List.set_cons_zero, List.set_cons_succ]
          refine wpAnyH_take (i := 8) (v := ?_) (List.getElem?_toArray.trans rfl) (by kernel_rfl) (by kernel_rfl) (by kernel_rfl) (fun _ _ _ h => h) (Or.inl ⟨by rfl, ?_⟩) (by assumption) ?_
          rotate_left 1
          focus (intro w hSw; (try dsimp only at hSw); go_simp; first | done | with_reducible rfl)
          try simp only [Act.put, List.setIfInBounds_toArray, List.set_cons_zero, List.set_cons_succ]
          refine wpAnyH_take (i := 10) (v := ?_) (List.getElem?_toArray.trans rfl) (by kernel_rfl) (by kernel_rfl) (by kernel_rfl) (fun _ _ _ h => h) (Or.inl ⟨by rfl, ?_⟩) (by assumption) ?_
          rotate_left 1
          focus (intro w hSw; (try dsimp only at hSw); go_simp; first | done | with_reducible rfl)
          try simp only [Act.put, List.setIfInBounds_toArray, List.set_cons_zero, List.set_cons_succ]
          refine wpAnyH_ready (rs := [9, 11]) (by kernel_rfl) (by simp) (AllReadyH.cons (List.getElem?_toArray.trans rfl) (fun K hK => ?_) (AllReadyH.cons (List.getElem?_toArray.trans rfl) (fun K hK => ?_) AllReadyH.nil))
          · go_simp
            refine hK.out _ _ ?_ (fun hHeld => ?_)
            focus ((try dsimp only); ((refine ⟨cell_of (cs := #[.string a0, .int .i64 a1, .string a2, .int .i64 (lv : Int), .int .i64 a4, .int .i64 a5, .int .i64 a6]) (t := 51) (fr := (0, 0)) ?_ rfl, cell_of (cs := #[.string a0, .int .i64 a1, .string a2, .int .i64 (lv : Int), .int .i64 a4, .int .i64 a5, .int .i64 a6]) (t := 51) (fr := (0, 0)) ?_ rfl, cell_of (cs := #[.string a0, .int .i64 a1, .string a2, .int .i64 (lv : Int), .int .i64 a4, .int .i64 a5, .int .i64 a6]) (t := 51) (fr := (0, 0)) ?_ rfl, cell_of (cs := #[.string a0, .int .i64 a1, .string a2, .int .i64 (lv : Int), .int .i64 a4, .int .i64 a5, .int .i64 a6]) (t := 51) (fr := (0, 0)) ?_ rfl, cell_of (cs := #[.string a0, .int .i64 a1, .string a2, .int .i64 (lv : Int), .int .i64 a4, .int .i64 a5, .int .i64 a6]) (t := 51) (fr := (0, 0)) ?_ rfl, cell_of (cs := #[.string a0, .int .i64 a1, .string a2, .int .i64 (lv : Int), .int .i64 a4, .int .i64 a5, .int .i64 a6]) (t := 51) (fr := (0, 0)) ?_ rfl, cell_of (cs := #[.string a0, .int .i64 a1, .string a2, .int .i64 (lv : Int), .int .i64 a4, .int .i64 a5, .int .i64 a6]) (t := 51) (fr := (0, 0)) ?_ rfl⟩ <;> ((repeat (first | with_reducible exact hx2 | with_reducible exact G_new _ _ _ (by simp) | with_reducible refine G_drew ?_ | with_reducible refine G_ext ?_ | with_reducible refine G_alloc ?_ | with_reducible refine G_setO hGx ?_)); done))))
            clear hK K
            try simp only [Act.put, List.setIfInBounds_toArray, List.set_cons_zero, List.set_cons_succ]
            refine wpAnyH_ready (rs := [11]) (by kernel_rfl) (by simp) (AllReadyH.cons (List.getElem?_toArray.trans rfl) (fun K hK => ?_) AllReadyH.nil)
            go_simp
            refine hK.out _ _ ?_ (fun hHeld => ?_)
            focus ((try dsimp only); ((refine ⟨cell_of (cs := #[.string a0, .int .i64 a1, .string a2, .int .i64 (lv : Int), .int .i64 a4, .int .i64 a5, .int .i64 a6]) (t := 51) (fr := (0, 0)) ?_ rfl, cell_of (cs := #[.string a0, .int .i64 a1, .string a2, .int .i64 (lv : Int), .int .i64 a4, .int .i64 a5, .int .i64 a6]) (t := 51) (fr := (0, 0)) ?_ rfl, cell_of (cs := #[.string a0, .int .i64 a1, .string a2, .int .i64 (lv : Int), .int .i64 a4, .int .i64 a5, .int .i64 a6]) (t := 51) (fr := (0, 0)) ?_ rfl, cell_of (cs := #[.string a0, .int .i64 a1, .string a2, .int .i64 (lv : Int), .int .i64 a4, .int .i64 a5, .int .i64 a6]) (t := 51) (fr := (0, 0)) ?_ rfl, cell_of (cs := #[.string a0, .int .i64 a1, .string a2, .int .i64 (lv : Int), .int .i64 a4, .int .i64 a5, .int .i64 a6]) (t := 51) (fr := (0, 0)) ?_ rfl, cell_of (cs := #[.string a0, .int .i64 a1, .string a2, .int .i64 (lv : Int), .int .i64 a4, .int .i64 a5, .int .i64 a6]) (t := 51) (fr := (0, 0)) ?_ rfl, cell_of (cs := #[.string a0, .int .i64 a1, .string a2, .int .i64 (lv : Int), .int .i64 a4, .int .i64 a5, .int .i64 a6]) (t := 51) (fr := (0, 0)) ?_ rfl⟩ <;> ((repeat (first | with_reducible exact hx2 | with_reducible exact G_new _ _ _ (by simp) | with_reducible refine G_drew ?_ | with_reducible refine G_ext ?_ | with_reducible refine G_alloc ?_ | with_reducible refine G_setO hGx ?_)); done))))
            clear hK K
            try simp only [Act.put, List.setIfInBounds_toArray, List.set_cons_zero, List.set_cons_succ]
            refine wpAnyH_ready (rs := [12]) (by kernel_rfl) (by simp) (AllReadyH.cons (List.getElem?_toArray.trans rfl) (fun K hK => ?_) AllReadyH.nil)
            (refine step_append_sl rfl _ _ rfl elStay stay_len stay_one rfl (base := G) (n := us.length) (m := 1) (v := .slice vb us.length vc) (xs := us.flatMap Stay.cells) ?q1 rfl (ys := [⟨⟨a0, a1, a2, (lv : Int), a4, a5⟩, a6⟩]) rfl ?q2 ?q3 ?q4 ?q5 ?_
             case q1 => repeat (first | with_reducible exact hrow | with_reducible refine own_ext ?_ _ | with_reducible refine own_alloc ?_ _ | with_reducible refine own_drew ?_)
             case q2 => (refine sl_stay (t := 51) (fr := (0, 0)) (x := ⟨⟨a0, a1, a2, (lv : Int), a4, a5⟩, a6⟩) ?_; (repeat (first | with_reducible exact G_new _ _ _ (by simp) | with_reducible exact G_new _ _ _ (by simp [ext_size]) | with_reducible refine G_drew ?_ | with_reducible refine G_ext ?_ | with_reducible refine G_alloc ?_)))
             case q3 => simp [maxLen]; omega
             case q4 => omega
             case q5 => (first | omega | (simp; done) | (simp; omega) | (simp [ext_size]; done) | (simp [ext_size]; omega))
             intro v2 w2 h2 g2 o2
             have h3 : w2.ownsRow G 51 7 v2 (us ++ [(⟨⟨a0, a1, a2, (lv : Int), a4, a5⟩, a6⟩ : Stay)]).length ((us ++ [(⟨⟨a0, a1, a2, (lv : Int), a4, a5⟩, a6⟩ : Stay)]).flatMap Stay.cells) := by simpa using h2
             obtain ⟨V2, c2', rfl, _, _⟩ := own_sl stay_len h3
             clear h2
             have hb2 := (g2.block G (by (first | omega | (simp; done) | (simp; omega) | (simp [ext_size]; done) | (simp [ext_size]; omega))) hneG).trans (by repeat (first | with_reducible exact hR.blk | with_reducible refine G_drew ?_ | with_reducible refine G_ext ?_ | with_reducible refine G_alloc ?_) : _ = some (.cells vs.toArray 43 (0, 0)))
             have hf2 : w2.frozen? ⟨G, lv, none⟩ = false := by simp [World.frozen?, hb2]
             have hx2 : w2.heap[wr.heap.size]? = some (.cells #[.string a0, .int .i64 a1, .string a2, .int .i64 (lv : Int), .int .i64 a4, .int .i64 a5, .int .i64 a6] 51 (0, 0)) := by
               refine (g2.block wr.heap.size (by (first | omega | (simp; done) | (simp; omega) | (simp [ext_size]; done) | (simp [ext_size]; omega))) hneX).trans ?_
               repeat (first | with_reducible exact G_new _ _ _ rfl | with_reducible refine G_drew ?_ | with_reducible refine G_ext ?_ | with_reducible refine G_alloc ?_)
             have y3 : w2.cell? ⟨wr.heap.size, 3, none⟩ = some (.int .i64 (lv : Int)) := by simp [World.cell?, hx2]
             have hcc : w2.cell? ⟨G, lv, none⟩ = some (.slice vb us.length vc) := by simp [World.cell?, hb2, HV.out])
            refine hK.out _ _ ?_ (fun hHeld => ?_)
            focus ((try dsimp only); ((refine ⟨cell_of (cs := #[.string a0, .int .i64 a1, .string a2, .int .i64 (lv : Int), .int .i64 a4, .int .i64 a5, .int .i64 a6]) (t := 51) (fr := (0, 0)) ?_ rfl, cell_of (cs := #[.string a0, .int .i64 a1, .string a2, .int .i64 (lv : Int), .int .i64 a4, .int .i64 a5, .int .i64 a6]) (t := 51) (fr := (0, 0)) ?_ rfl, cell_of (cs := #[.string a0, .int .i64 a1, .string a2, .int .i64 (lv : Int), .int .i64 a4, .int .i64 a5, .int .i64 a6]) (t := 51) (fr := (0, 0)) ?_ rfl, cell_of (cs := #[.string a0, .int .i64 a1, .string a2, .int .i64 (lv : Int), .int .i64 a4, .int .i64 a5, .int .i64 a6]) (t := 51) (fr := (0, 0)) ?_ rfl, cell_of (cs := #[.string a0, .int .i64 a1, .string a2, .int .i64 (lv : Int), .int .i64 a4, .int .i64 a5, .int .i64 a6]) (t := 51) (fr := (0, 0)) ?_ rfl, cell_of (cs := #[.string a0, .int .i64 a1, .string a2, .int .i64 (lv : Int), .int .i64 a4, .int .i64 a5, .int .i64 a6]) (t := 51) (fr := (0, 0)) ?_ rfl, cell_of (cs := #[.string a0, .int .i64 a1, .string a2, .int .i64 (lv : Int), .int .i64 a4, .int .i64 a5, .int .i64 a6]) (t := 51) (fr := (0, 0)) ?_ rfl⟩ <;> ((repeat (first | with_reducible exact hx2 | with_reducible exact G_new _ _ _ (by simp) | with_reducible refine G_drew ?_ | with_reducible refine G_ext ?_ | with_reducible refine G_alloc ?_ | with_reducible refine G_setO hGx ?_)); done))))
            clear hK K
            try simp only [Act.put, List.setIfInBounds_toArray, List.set_cons_zero, List.set_cons_succ]
            refine wpAnyH_take (i := 13) (v := ?_) (List.getElem?_toArray.trans rfl) (by kernel_rfl) (by kernel_rfl) (by kernel_rfl) (fun _ _ _ h => h) (Or.inl ⟨by rfl, ?_⟩) (by assumption) ?_
            rotate_left 1
            focus (intro w hSw; (try dsimp only at hSw); go_simp; first | done | with_reducible rfl)
            try simp only [Act.put, List.setIfInBounds_toArray, List.set_cons_zero, List.set_cons_succ]
            refine wpAnyH_ready (rs := [14]) (by kernel_rfl) (by simp) (AllReadyH.cons (List.getElem?_toArray.trans rfl) (fun K hK => ?_) AllReadyH.nil)
            go_simp
            refine hK.out _ _ ?_ (fun hHeld => ?_)
            focus ((try dsimp only); ((refine ⟨cell_of (cs := #[.string a0, .int .i64 a1, .string a2, .int .i64 (lv : Int), .int .i64 a4, .int .i64 a5, .int .i64 a6]) (t := 51) (fr := (0, 0)) ?_ rfl, cell_of (cs := #[.string a0, .int .i64 a1, .string a2, .int .i64 (lv : Int), .int .i64 a4, .int .i64 a5, .int .i64 a6]) (t := 51) (fr := (0, 0)) ?_ rfl, cell_of (cs := #[.string a0, .int .i64 a1, .string a2, .int .i64 (lv : Int), .int .i64 a4, .int .i64 a5, .int .i64 a6]) (t := 51) (fr := (0, 0)) ?_ rfl, cell_of (cs := #[.string a0, .int .i64 a1, .string a2, .int .i64 (lv : Int), .int .i64 a4, .int .i64 a5, .int .i64 a6]) (t := 51) (fr := (0, 0)) ?_ rfl, cell_of (cs := #[.string a0, .int .i64 a1, .string a2, .int .i64 (lv : Int), .int .i64 a4, .int .i64 a5, .int .i64 a6]) (t := 51) (fr := (0, 0)) ?_ rfl, cell_of (cs := #[.string a0, .int .i64 a1, .string a2, .int .i64 (lv : Int), .int .i64 a4, .int .i64 a5, .int .i64 a6]) (t := 51) (fr := (0, 0)) ?_ rfl, cell_of (cs := #[.string a0, .int .i64 a1, .string a2, .int .i64 (lv : Int), .int .i64 a4, .int .i64 a5, .int .i64 a6]) (t := 51) (fr := (0, 0)) ?_ rfl⟩ <;> ((repeat (first | with_reducible exact hx2 | with_reducible exact G_new _ _ _ (by simp) | with_reducible refine G_drew ?_ | with_reducible refine G_ext ?_ | with_reducible refine G_alloc ?_ | with_reducible refine G_setO hGx ?_)); done))))
            clear hK K
            try simp only [Act.put, List.setIfInBounds_toArray, List.set_cons_zero, List.set_cons_succ]
            refine wpAnyH_done (by kernel_rfl) ?_ _
            have hB2 : Below G W1 w2 := Below.grown (by repeat (first | exact B_refl | exact Below.refl _ _ | assumption | with_reducible refine B_alloc ?_ _ | with_reducible refine B_ext ?_ _ | with_reducible refine B_drew ?_ | with_reducible refine B_drewN ?_ _ | with_reducible refine B_set ?_ (by simp; omega) _)) g2 (by (first | omega | (simp; done) | (simp; omega) | (simp [ext_size]; done) | (simp [ext_size]; omega))) (fun g hg => (hrow.lt g hg).1)
            have hR2 := RowsAt.put (hR.keep (n := wr.heap.size) (by repeat (first | exact B_refl | exact Below.refl _ _ | assumption | with_reducible refine B_alloc ?_ _ | with_reducible refine B_ext ?_ _ | with_reducible refine B_drew ?_ | with_reducible refine B_drewN ?_ _ | with_reducible refine B_set ?_ (by simp; omega) _))) HV.out HX.out h3 g2 o2
            rw [← HLS.out, ← HT.out] at hR2
            simp only [List.length_append, List.length_cons, List.length_nil, Nat.zero_add] at hR2
            have hz2 := blk_lt hb2
            go_wp2_with fail
            go_roundw
            case rel => exact ⟨j + 1, _, by omega, by go_num, hR2, B_set hB2 (Nat.le_refl _) _⟩
            case measure => simp [intOf]; omega
          · go_simp
            refine hK.out _ _ ?_ (fun hHeld => ?_)
            focus ((try dsimp only); ((refine ⟨cell_of (cs := #[.string a0, .int .i64 a1, .string a2, .int .i64 (lv : Int), .int .i64 a4, .int .i64 a5, .int .i64 a6]) (t := 51) (fr := (0, 0)) ?_ rfl, cell_of (cs := #[.string a0, .int .i64 a1, .string a2, .int .i64 (lv : Int), .int .i64 a4, .int .i64 a5, .int .i64 a6]) (t := 51) (fr := (0, 0)) ?_ rfl, cell_of (cs := #[.string a0, .int .i64 a1, .string a2, .int .i64 (lv : Int), .int .i64 a4, .int .i64 a5, .int .i64 a6]) (t := 51) (fr := (0, 0)) ?_ rfl, cell_of (cs := #[.string a0, .int .i64 a1, .string a2, .int .i64 (lv : Int), .int .i64 a4, .int .i64 a5, .int .i64 a6]) (t := 51) (fr := (0, 0)) ?_ rfl, cell_of (cs := #[.string a0, .int .i64 a1, .string a2, .int .i64 (lv : Int), .int .i64 a4, .int .i64 a5, .int .i64 a6]) (t := 51) (fr := (0, 0)) ?_ rfl, cell_of (cs := #[.string a0, .int .i64 a1, .string a2, .int .i64 (lv : Int), .int .i64 a4, .int .i64 a5, .int .i64 a6]) (t := 51) (fr := (0, 0)) ?_ rfl, cell_of (cs := #[.string a0, .int .i64 a1, .string a2, .int .i64 (lv : Int), .int .i64 a4, .int .i64 a5, .int .i64 a6]) (t := 51) (fr := (0, 0)) ?_ rfl⟩ <;> ((repeat (first | with_reducible exact hx2 | with_reducible exact G_new _ _ _ (by simp) | with_reducible refine G_drew ?_ | with_reducible refine G_ext ?_ | with_reducible refine G_alloc ?_ | with_reducible refine G_setO hGx ?_)); done))))
            clear hK K
            try simp only [Act.put, List.setIfInBounds_toArray, List.set_cons_zero, List.set_cons_succ]
            refine wpAnyH_ready (rs := [9]) (by kernel_rfl) (by simp) (AllReadyH.cons (List.getElem?_toArray.trans rfl) (fun K hK => ?_) AllReadyH.nil)
            go_simp
            refine hK.out _ _ ?_ (fun hHeld => ?_)
            focus ((try dsimp only); ((refine ⟨cell_of (cs := #[.string a0, .int .i64 a1, .string a2, .int .i64 (lv : Int), .int .i64 a4, .int .i64 a5, .int .i64 a6]) (t := 51) (fr := (0, 0)) ?_ rfl, cell_of (cs := #[.string a0, .int .i64 a1, .string a2, .int .i64 (lv : Int), .int .i64 a4, .int .i64 a5, .int .i64 a6]) (t := 51) (fr := (0, 0)) ?_ rfl, cell_of (cs := #[.string a0, .int .i64 a1, .string a2, .int .i64 (lv : Int), .int .i64 a4, .int .i64 a5, .int .i64 a6]) (t := 51) (fr := (0, 0)) ?_ rfl, cell_of (cs := #[.string a0, .int .i64 a1, .string a2, .int .i64 (lv : Int), .int .i64 a4, .int .i64 a5, .int .i64 a6]) (t := 51) (fr := (0, 0)) ?_ rfl, cell_of (cs := #[.string a0, .int .i64 a1, .string a2, .int .i64 (lv : Int), .int .i64 a4, .int .i64 a5, .int .i64 a6]) (t := 51) (fr := (0, 0)) ?_ rfl, cell_of (cs := #[.string a0, .int .i64 a1, .string a2, .int .i64 (lv : Int), .int .i64 a4, .int .i64 a5, .int .i64 a6]) (t := 51) (fr := (0, 0)) ?_ rfl, cell_of (cs := #[.string a0, .int .i64 a1, .string a2, .int .i64 (lv : Int), .int .i64 a4, .int .i64 a5, .int .i64 a6]) (t := 51) (fr := (0, 0)) ?_ rfl⟩ <;> ((repeat (first | with_reducible exact hx2 | with_reducible exact G_new _ _ _ (by simp) | with_reducible refine G_drew ?_ | with_reducible refine G_ext ?_ | with_reducible refine G_alloc ?_ | with_reducible refine G_setO hGx ?_)); done))))
            clear hK K
            try simp only [Act.put, List.setIfInBounds_toArray, List.set_cons_zero, List.set_cons_succ]
            refine wpAnyH_ready (rs := [12]) (by kernel_rfl) (by simp) (AllReadyH.cons (List.getElem?_toArray.trans rfl) (fun K hK => ?_) AllReadyH.nil)
            (refine step_append_sl rfl _ _ rfl elStay stay_len stay_one rfl (base := G) (n := us.length) (m := 1) (v := .slice vb us.length vc) (xs := us.flatMap Stay.cells) ?q1 rfl (ys := [⟨⟨a0, a1, a2, (lv : Int), a4, a5⟩, a6⟩]) rfl ?q2 ?q3 ?q4 ?q5 ?_
             case q1 => repeat (first | with_reducible exact hrow | with_reducible refine own_ext ?_ _ | with_reducible refine own_alloc ?_ _ | with_reducible refine own_drew ?_)
             case q2 => (refine sl_stay (t := 51) (fr := (0, 0)) (x := ⟨⟨a0, a1, a2, (lv : Int), a4, a5⟩, a6⟩) ?_; (repeat (first | with_reducible exact G_new _ _ _ (by simp) | with_reducible exact G_new _ _ _ (by simp [ext_size]) | with_reducible refine G_drew ?_ | with_reducible refine G_ext ?_ | with_reducible refine G_alloc ?_)))
             case q3 => simp [maxLen]; omega
             case q4 => omega
             case q5 => (first | omega | (simp; done) | (simp; omega) | (simp [ext_size]; done) | (simp [ext_size]; omega))
             intro v2 w2 h2 g2 o2
             have h3 : w2.ownsRow G 51 7 v2 (us ++ [(⟨⟨a0, a1, a2, (lv : Int), a4, a5⟩, a6⟩ : Stay)]).length ((us ++ [(⟨⟨a0, a1, a2, (lv : Int), a4, a5⟩, a6⟩ : Stay)]).flatMap Stay.cells) := by simpa using h2
             obtain ⟨V2, c2', rfl, _, _⟩ := own_sl stay_len h3
             clear h2
             have hb2 := (g2.block G (by (first | omega | (simp; done) | (simp; omega) | (simp [ext_size]; done) | (simp [ext_size]; omega))) hneG).trans (by repeat (first | with_reducible exact hR.blk | with_reducible refine G_drew ?_ | with_reducible refine G_ext ?_ | with_reducible refine G_alloc ?_) : _ = some (.cells vs.toArray 43 (0, 0)))
             have hf2 : w2.frozen? ⟨G, lv, none⟩ = false := by simp [World.frozen?, hb2]
             have hx2 : w2.heap[wr.heap.size]? = some (.cells #[.string a0, .int .i64 a1, .string a2, .int .i64 (lv : Int), .int .i64 a4, .int .i64 a5, .int .i64 a6] 51 (0, 0)) := by
               refine (g2.block wr.heap.size (by (first | omega | (simp; done) | (simp; omega) | (simp [ext_size]; done) | (simp [ext_size]; omega))) hneX).trans ?_
               repeat (first | with_reducible exact G_new _ _ _ rfl | with_reducible refine G_drew ?_ | with_reducible refine G_ext ?_ | with_reducible refine G_alloc ?_)
             have y3 : w2.cell? ⟨wr.heap.size, 3, none⟩ = some (.int .i64 (lv : Int)) := by simp [World.cell?, hx2]
             have hcc : w2.cell? ⟨G, lv, none⟩ = some (.slice vb us.length vc) := by simp [World.cell?, hb2, HV.out])
            refine hK.out _ _ ?_ (fun hHeld => ?_)
            focus ((try dsimp only); ((refine ⟨cell_of (cs := #[.string a0, .int .i64 a1, .string a2, .int .i64 (lv : Int), .int .i64 a4, .int .i64 a5, .int .i64 a6]) (t := 51) (fr := (0, 0)) ?_ rfl, cell_of (cs := #[.string a0, .int .i64 a1, .string a2, .int .i64 (lv : Int), .int .i64 a4, .int .i64 a5, .int .i64 a6]) (t := 51) (fr := (0, 0)) ?_ rfl, cell_of (cs := #[.string a0, .int .i64 a1, .string a2, .int .i64 (lv : Int), .int .i64 a4, .int .i64 a5, .int .i64 a6]) (t := 51) (fr := (0, 0)) ?_ rfl, cell_of (cs := #[.string a0, .int .i64 a1, .string a2, .int .i64 (lv : Int), .int .i64 a4, .int .i64 a5, .int .i64 a6]) (t := 51) (fr := (0, 0)) ?_ rfl, cell_of (cs := #[.string a0, .int .i64 a1, .string a2, .int .i64 (lv : Int), .int .i64 a4, .int .i64 a5, .int .i64 a6]) (t := 51) (fr := (0, 0)) ?_ rfl, cell_of (cs := #[.string a0, .int .i64 a1, .string a2, .int .i64 (lv : Int), .int .i64 a4, .int .i64 a5, .int .i64 a6]) (t := 51) (fr := (0, 0)) ?_ rfl, cell_of (cs := #[.string a0, .int .i64 a1, .string a2, .int .i64 (lv : Int), .int .i64 a4, .int .i64 a5, .int .i64 a6]) (t := 51) (fr := (0, 0)) ?_ rfl⟩ <;> ((repeat (first | with_reducible exact hx2 | with_reducible exact G_new _ _ _ (by simp) | with_reducible refine G_drew ?_ | with_reducible refine G_ext ?_ | with_reducible refine G_alloc ?_ | with_reducible refine G_setO hGx ?_)); done))))
            clear hK K
            try simp only [Act.put, List.setIfInBounds_toArray, List.set_cons_zero, List.set_cons_succ]
            refine wpAnyH_take (i := 13) (v := ?_) (List.getElem?_toArray.trans rfl) (by kernel_rfl) (by kernel_rfl) (by kernel_rfl) (fun _ _ _ h => h) (Or.inl ⟨by rfl, ?_⟩) (by assumption) ?_
            rotate_left 1
            focus (intro w hSw; (try dsimp only at hSw); go_simp; first | done | with_reducible rfl)
            try simp only [Act.put, List.setIfInBounds_toArray, List.set_cons_zero, List.set_cons_succ]
            refine wpAnyH_ready (rs := [14]) (by kernel_rfl) (by simp) (AllReadyH.cons (List.getElem?_toArray.trans rfl) (fun K hK => ?_) AllReadyH.nil)
            go_simp
            refine hK.out _ _ ?_ (fun hHeld => ?_)
            focus ((try dsimp only); ((refine ⟨cell_of (cs := #[.string a0, .int .i64 a1, .string a2, .int .i64 (lv : Int), .int .i64 a4, .int .i64 a5, .int .i64 a6]) (t := 51) (fr := (0, 0)) ?_ rfl, cell_of (cs := #[.string a0, .int .i64 a1, .string a2, .int .i64 (lv : Int), .int .i64 a4, .int .i64 a5, .int .i64 a6]) (t := 51) (fr := (0, 0)) ?_ rfl, cell_of (cs := #[.string a0, .int .i64 a1, .string a2, .int .i64 (lv : Int), .int .i64 a4, .int .i64 a5, .int .i64 a6]) (t := 51) (fr := (0, 0)) ?_ rfl, cell_of (cs := #[.string a0, .int .i64 a1, .string a2, .int .i64 (lv : Int), .int .i64 a4, .int .i64 a5, .int .i64 a6]) (t := 51) (fr := (0, 0)) ?_ rfl, cell_of (cs := #[.string a0, .int .i64 a1, .string a2, .int .i64 (lv : Int), .int .i64 a4, .int .i64 a5, .int .i64 a6]) (t := 51) (fr := (0, 0)) ?_ rfl, cell_of (cs := #[.string a0, .int .i64 a1, .string a2, .int .i64 (lv : Int), .int .i64 a4, .int .i64 a5, .int .i64 a6]) (t := 51) (fr := (0, 0)) ?_ rfl, cell_of (cs := #[.string a0, .int .i64 a1, .string a2, .int .i64 (lv : Int), .int .i64 a4, .int .i64 a5, .int .i64 a6]) (t := 51) (fr := (0, 0)) ?_ rfl⟩ <;> ((repeat (first | with_reducible exact hx2 | with_reducible exact G_new _ _ _ (by simp) | with_reducible refine G_drew ?_ | with_reducible refine G_ext ?_ | with_reducible refine G_alloc ?_ | with_reducible refine G_setO hGx ?_)); done))))
            clear hK K
            try simp only [Act.put, List.setIfInBounds_toArray, List.set_cons_zero, List.set_cons_succ]
            refine wpAnyH_done (by kernel_rfl) ?_ _
            have hB2 : Below G W1 w2 := Below.grown (by repeat (first | exact B_refl | exact Below.refl _ _ | assumption | with_reducible refine B_alloc ?_ _ | with_reducible refine B_ext ?_ _ | with_reducible refine B_drew ?_ | with_reducible refine B_drewN ?_ _ | with_reducible refine B_set ?_ (by simp; omega) _)) g2 (by (first | omega | (simp; done) | (simp; omega) | (simp [ext_size]; done) | (simp [ext_size]; omega))) (fun g hg => (hrow.lt g hg).1)
            have hR2 := RowsAt.put (hR.keep (n := wr.heap.size) (by repeat (first | exact B_refl | exact Below.refl _ _ | assumption | with_reducible refine B_alloc ?_ _ | with_reducible refine B_ext ?_ _ | with_reducible refine B_drew ?_ | with_reducible refine B_drewN ?_ _ | with_reducible refine B_set ?_ (by simp; omega) _))) HV.out HX.out h3 g2 o2
            rw [← HLS.out, ← HT.out] at hR2
            simp only [List.length_append, List.length_cons, List.length_nil, Nat.zero_add] at hR2
            have hz2 := blk_lt hb2
            go_wp2_with fail
            go_roundw
            case rel => exact ⟨j + 1, _, by omega, by go_num, hR2, B_set hB2 (Nat.le_refl _) _⟩
            case measure => simp [intOf]; omega
    · go_wp2_with fail
      have hje : j = k.st.length := by omega
      subst hje
      rw [List.take_length] at hR
      go_ret2
      exact ⟨G, vs, rfl, ⟨hR.blk, by omega, hR.len, fun i v xs h1 h2 => own_mono' (hR.rows i v xs h1 h2) (by omega), hR.apart⟩, ext_below (hB1.trans (hBr.mono (by omega)))⟩
end Go.Proofs.Ytmiobhlgpjjbgaa
namespace Go.Proofs.Ytmiobhlgpjjbgaa
open Go.RowKit
attribute [local go_sem] World.cell?_alloc_mark ext_size ext_cell ext_frozen lt_add_r lt_add_r2 lt_add_r3 lt_add_r4 lt_add_r5 lt_add_r6 lt_add_r7 lt_add_r8

theorem take_in2 {w : World} {es : List Event} {A : Option Addr} {n : Nat} (h : EventsIn w es A n) (i : Nat) (hi : i ≤ es.length) : EventsIn w (es.take i) A i := by
  refine ⟨by simp; omega, fun hl => ?_, by have := h.l1; simp; omega, fun e he => h.sh e (List.mem_of_mem_take he)⟩
  obtain ⟨b, off, hA, hb, hc⟩ := h.sl (by simp at hl; omega)
  refine ⟨b, off, hA, hb, fun k x hx j u hu => hc k x ?_ j u hu⟩
  rw [List.getElem?_take] at hx
  split at hx
  · exact hx
  · cases hx
theorem flat_close (d : Int) (xs : List Stay) (h : 0 < xs.length) : (xs.flatMap Stay.cells).set ((xs.length - 1) * 7 + 6) (.int .i64 d) = (closeLast d xs).flatMap Stay.cells := flat_set d xs (xs.length - 1) (by omega)
theorem close_len (d : Int) (xs : List Stay) : (closeLast d xs).length = xs.length := by simp [closeLast]
theorem stGo_len (c0 c1 c2 : Int) (ss : List Site) (rs : List Rest) (es : List Event) (rm : ByteArray) : ∀ i, (rStGo c0 c1 c2 ss rs es rm i).length ≤ i
  | 0 => Nat.le_refl _
  | i + 1 => by
    have ih := stGo_len c0 c1 c2 ss rs es rm i
    unfold rStGo
    split
    · omega
    · split
      · simp [close_len]; omega
      · omega
theorem stGo_at {c0 c1 c2 : Int} {ss : List Site} {rs : List Rest} {es : List Event} {rm : ByteArray} {i : Nat} {e : Event} (h : es[i]? = some e) :
    rStGo c0 c1 c2 ss rs es rm (i + 1) = if e.remain.toList == rm.toList then closeLast e.day (rStGo c0 c1 c2 ss rs es rm i) ++ [⟨(findLot rm (rReplayP c0 c1 c2 ss rs (es.take (i + 1))).1).getD zeroLot, -1⟩] else rStGo c0 c1 c2 ss rs es rm i := by
  conv => lhs; unfold rStGo
  rw [h]
set_option maxRecDepth 100000 in
set_option maxHeartbeats 2000000 in
theorem rStays_any (ss : List Site) (rs : List Rest) (A R : Option Addr) (n c rn rc : Nat) (c0 c1 c2 : Int) (es : List Event) (E : Option Addr) (en ec : Nat) (rm : ByteArray) (w : World) (hy : YardIn w ss rs A n c R rn rc) (hev : EventsIn w es E en) (hcap : es.length ≤ ec) (hX : rCheckP c0 c1 c2 ss rs es = 0) :
    Calls Try.prog 43 #[.agg #[.slice A n c, .slice R rn rc, .int .i64 c0, .int .i64 c1, .int .i64 c2], .slice E en ec, .string rm] w fun e w' => ∃ v, e = .returned v ∧ w'.ownsRow w.heap.size 51 7 v (rStGo c0 c1 c2 ss rs es rm es.length).length ((rStGo c0 c1 c2 ss rs es rm es.length).flatMap Stay.cells) ∧ ∃ z, w' = w.ext z := by
  have hen := hev.hn
  subst hen
  obtain ⟨_, _, _, _, h5, hes⟩ := (read_check ss rs A R n c rn rc c0 c1 c2 es).2 hX
  have hroom := yard_rooms h5
  have HRP := fun es E en ec W h1 h2 => rReplay_any ss rs A R n c rn rc c0 c1 c2 es E en ec W h1 h2 hroom
  have HX := Lib.hid hX
  clear hX h5
  go_enter Try.func43, Try.ntmps43
  go_wp2_with fail
  obtain ⟨W0, hW0⟩ : ∃ W0, W0 = w.alloc (.cells #[.slice A n c, .slice R rn rc, .int .i64 c0, .int .i64 c1, .int .i64 c2] 26) := ⟨_, rfl⟩
  rw [← hW0]
  have hB : Below w.heap.size w W0 := by rw [hW0]; repeat (first | exact B_refl | exact Below.refl _ _ | assumption | with_reducible refine B_alloc ?_ _ | with_reducible refine B_ext ?_ _ | with_reducible refine B_drew ?_ | with_reducible refine B_drewN ?_ _ | with_reducible refine B_set ?_ (by simp; omega) _)
  have hblk : W0.heap[w.heap.size]? = some (.cells #[.slice A n c, .slice R rn rc, .int .i64 c0, .int .i64 c1, .int .i64 c2] 26) := by rw [hW0]; exact heap_alloc_new _ _
  have hz := blk_lt hblk
  have g0 : W0.cell? ⟨w.heap.size, 0, none⟩ = some (.slice A n c) := by simp [World.cell?, hblk]
  have g1 : W0.cell? ⟨w.heap.size, 1, none⟩ = some (.slice R rn rc) := by simp [World.cell?, hblk]
  have g2 : W0.cell? ⟨w.heap.size, 2, none⟩ = some (.int .i64 c0) := by simp [World.cell?, hblk]
  have g3 : W0.cell? ⟨w.heap.size, 3, none⟩ = some (.int .i64 c1) := by simp [World.cell?, hblk]
  have g4 : W0.cell? ⟨w.heap.size, 4, none⟩ = some (.int .i64 c2) := by simp [World.cell?, hblk]
  clear hW0 hblk
  obtain ⟨N, hN⟩ : ∃ N, N = W0.heap.size := ⟨_, rfl⟩
  have HN := Lib.hid hN
  clear hN
  have hNW : N ≤ W0.heap.size := Nat.le_of_eq HN.out
  have hzN : w.heap.size < N := by rw [HN.out]; exact hz
  go_loopw [7, 8, 9, 10, 11, 12] (fun v i _ _ _ _ wr => ∃ j : Nat, j ≤ es.length ∧ i = .int .i64 j ∧ wr.ownsRow N 51 7 v (rStGo c0 c1 c2 ss rs es rm j).length ((rStGo c0 c1 c2 ss rs es rm j).flatMap Stay.cells) ∧ Below N W0 wr) (fun _ i _ _ _ _ _ => es.length - (intOf i).toNat)
  case atStart => exact ⟨0, Nat.zero_le _, rfl, World.ownsRow_nil _ _ _ _, Below.refl _ _⟩
  case round =>
    obtain ⟨j, hj, rfl, hown, hBr⟩ := hrel
    have hBw : Below w.heap.size w wr := hB.trans (hBr.mono (by omega))
    have hB0 : Below W0.heap.size W0 wr := by rw [← HN.out]; exact hBr
    have hNr : N ≤ wr.heap.size := by have := hBr.size; rw [HN.out]; exact this
    have hul := stGo_len c0 c1 c2 ss rs es rm j
    by_cases hlt : j < es.length
    · obtain ⟨b, off, rfl, hb, hc⟩ := (hev.sl.keep hBw).at hlt
      have hg : es[j]? = some es[j] := List.getElem?_eq_getElem hlt
      have hat := stGo_at (c0 := c0) (c1 := c1) (c2 := c2) (ss := ss) (rs := rs) (rm := rm) hg
      obtain ⟨_, _, hfl⟩ := book_step HX.out A R n c rn rc hg
      have x0 : wr.cell? ⟨b, off + j * 7, none⟩ = some (.int .i64 es[j].day) := hc 0 _ rfl
      have x4 : wr.cell? ⟨b, off + j * 7 + 4, none⟩ = some (.string es[j].remain) := hc 4 _ rfl
      have hlt2 : (j : Int) < (es.length : Int) := by omega
      have hj0 : (0 : Int) ≤ (j : Int) := by omega
      clear hc hg
      generalize es[j] = e at *
      generalize (errorP (addsP ss rs (bk0 A n c R rn rc c0 c1 c2) (es.take j)).1 ss rs e).1 = l at *
      have HAT := Lib.hid hat
      have HFL := Lib.hid hfl
      clear hat hfl
      generalize rStGo c0 c1 c2 ss rs es rm j = us at *
      cases hq : (e.remain.toList == rm.toList)
      · have hq2 : (e.remain.toList != rm.toList) = true := by simpa [bne] using hq
        have HQ := Lib.hid hq
        go_wp2_with fail
        go_roundw
        case rel => exact ⟨j + 1, by omega, by go_num, by rw [HAT.out, HQ.out, if_neg Bool.false_ne_true]; exact hown, hBr⟩
        case measure => simp [intOf]; omega
      · have hq2 : (e.remain.toList != rm.toList) = false := by simpa [bne] using hq
        have hrm : e.remain = rm := bytes_ext (eq_of_beq hq)
        have HQ := Lib.hid hq
        rw [hrm] at HFL
        clear hrm
        have k0 := cell_kept hz g0 hB0
        have k1 := cell_kept hz g1 hB0
        have k2 := cell_kept hz g2 hB0
        have k3 := cell_kept hz g3 hB0
        have k4 := cell_kept hz g4 hB0
        have iz : w.heap.size < wr.heap.size := by omega
        obtain ⟨ls, hls⟩ : ∃ ls, (rReplayP c0 c1 c2 ss rs (es.take (j + 1))).1 = ls := ⟨_, rfl⟩
        have HLS := Lib.hid hls
        rw [hls] at HFL HAT
        rw [HFL.out] at HAT
        clear hls
        have hj1 : ((j : Int) + 1) ≤ (ec : Int) := by omega
        obtain ⟨ki, hki, hkg⟩ := lotIdx_some HFL.out
        have hfr : rFindR rm ls = (ki : Int) := by rw [rFindR, hki]
        obtain ⟨hkl, hke⟩ := List.getElem?_eq_some_iff.1 hkg
        have hlsl : ls.length ≤ 100000 := by
          have h7 : (rReplayP c0 c1 c2 ss rs (es.take (j + 1))).1.length ≤ es.length := by
            unfold rReplayP
            split
            · exact Nat.zero_le _
            · have := goP_len (c0 := c0) (c1 := c1) (c2 := c2) (ss := ss) (rs := rs) (es.take (j + 1)) [] 0 0
              simp at this ⊢
              omega
          rw [HLS.out] at h7
          omega
        have hkl2 : (ki : Int) < (ls.length : Int) := by omega
        have hki0 : (0 : Int) ≤ (ki : Int) := by omega
        have HKE := Lib.hid hke
        clear hki hkg hke
        have hul2 : us.length ≤ 1000 := by omega
        have hw1 : IntKind.i64.wrap ((j : Int) + 1) = (j : Int) + 1 := by rw [IntKind.wrap_i64]; omega
        obtain ⟨U, uc, rfl, hSU, _⟩ := own_sl stay_len hown
        have hj10 : (0 : Int) ≤ (j : Int) + 1 := by omega
        have hjn : ((j : Int) + 1).toNat = j + 1 := by omega
        go_wp2_with fail
        go_region_held3 (fun w' => w'.cell? ⟨w.heap.size, 0, none⟩ = some (.slice A n c) ∧ w'.cell? ⟨w.heap.size, 1, none⟩ = some (.slice R rn rc) ∧ w'.cell? ⟨w.heap.size, 2, none⟩ = some (.int .i64 c0) ∧ w'.cell? ⟨w.heap.size, 3, none⟩ = some (.int .i64 c1) ∧ w'.cell? ⟨w.heap.size, 4, none⟩ = some (.int .i64 c2))
                          ((refine ⟨cell_kept iz k0 ?_, cell_kept iz k1 ?_, cell_kept iz k2 ?_, cell_kept iz k3 ?_, cell_kept iz k4 ?_⟩ <;> ((repeat (first | exact B_refl | exact Below.refl _ _ | assumption | with_reducible refine B_alloc ?_ _ | with_reducible refine B_ext ?_ _ | with_reducible refine B_drew ?_ | with_reducible refine B_drewN ?_ _ | with_reducible refine B_set ?_ (by simp; omega) _)); done)))
          (first
            | (go_at_call 47; refine (HRP (es.take (j + 1)) (some ⟨b, off, none⟩) (j + 1) ec _ (hy.keep (m := w.heap.size) ?q1) ((take_in2 hev (j + 1) (by omega)).keep (m := w.heap.size) ?q2)).mono ?_
               case q1 => repeat (first | exact B_refl | exact Below.refl _ _ | assumption | with_reducible refine B_alloc ?_ _ | with_reducible refine B_ext ?_ _ | with_reducible refine B_drew ?_ | with_reducible refine B_drewN ?_ _ | with_reducible refine B_set ?_ (by simp; omega) _)
               case q2 => repeat (first | exact B_refl | exact Below.refl _ _ | assumption | with_reducible refine B_alloc ?_ _ | with_reducible refine B_ext ?_ _ | with_reducible refine B_drew ?_ | with_reducible refine B_drewN ?_ _ | with_reducible refine B_set ?_ (by simp; omega) _)
               rintro e wq ⟨v3, rfl, hown3, zt, rfl⟩
               rw [HLS.out] at hown3
               obtain ⟨F2, fc2, rfl, hSF2, _⟩ := own_sl lot_len hown3))
        have hown8 := own_ext (own_drew hown) zt
        have hBr9 : Below N W0 (World.ext (World.drew wr) zt) := B_ext (B_drew hBr) zt hNW
        have z0 := cell_kept hb x0 (by repeat (first | exact B_refl | exact Below.refl _ _ | assumption | with_reducible refine B_alloc ?_ _ | with_reducible refine B_ext ?_ _ | with_reducible refine B_drew ?_ | with_reducible refine B_drewN ?_ _ | with_reducible refine B_set ?_ (by simp; omega) _) : Below wr.heap.size wr (World.ext (World.drew wr) zt))
        have hwr9 : wr.heap.size ≤ (World.ext (World.drew wr) zt).heap.size := by rw [ext_size]; exact Nat.le_add_right _ _
        have hbN : ∀ k, (Value.slice F2 ls.length fc2).ownBlock = some k → wr.heap.size ≤ k := fun k hk => (hown3.lt k hk).1
        generalize World.ext (World.drew wr) zt = W9 at *
        generalize (rReplayP c0 c1 c2 ss rs (List.take (j + 1) es)).2.1 = cn at *
        generalize (rReplayP c0 c1 c2 ss rs (List.take (j + 1) es)).2.2 = ce at *
        have hN9 : N ≤ W9.heap.size := by omega
        by_cases hu0 : us.length = 0
        · have hus : us = [] := List.eq_nil_of_length_eq_zero hu0
          subst hus
          clear hu0 hul hul2
          have hSF := hSF2
          have hown9 : W9.ownsRow N 51 7 (.slice U 0 uc) 0 [] := hown8
          obtain ⟨fb, foff, rfl, hfb, hfc⟩ := hSF.at hkl
          rw [HKE.out] at hfc
          have y0 : W9.cell? ⟨fb, foff + ki * 6, none⟩ = some (.string l.remain) := hfc 0 _ rfl
          have y1 : W9.cell? ⟨fb, foff + ki * 6 + 1, none⟩ = some (.int .i64 l.state) := hfc 1 _ rfl
          have y2 : W9.cell? ⟨fb, foff + ki * 6 + 2, none⟩ = some (.string l.site) := hfc 2 _ rfl
          have y3 : W9.cell? ⟨fb, foff + ki * 6 + 3, none⟩ = some (.int .i64 l.level) := hfc 3 _ rfl
          have y4 : W9.cell? ⟨fb, foff + ki * 6 + 4, none⟩ = some (.int .i64 l.container) := hfc 4 _ rfl
          have y5 : W9.cell? ⟨fb, foff + ki * 6 + 5, none⟩ = some (.int .i64 l.since) := hfc 5 _ rfl
          go_wp2_with (first
                        | (go_at_call 78; refine (rFind_any ls _ _ _ _ _ ⟨rfl, hSF.keep (n := W9.heap.size) (by repeat (first | exact B_refl | exact Below.refl _ _ | assumption | with_reducible refine B_alloc ?_ _ | with_reducible refine B_ext ?_ _ | with_reducible refine B_drew ?_ | with_reducible refine B_drewN ?_ _ | with_reducible refine B_set ?_ (by simp; omega) _)), hlsl⟩).mono ?_; rintro e wq ⟨rfl, zf, rfl⟩; rw [hfr])
                        | (at_builtin; refine wpList_append_sl rfl _ _ rfl elStay stay_len stay_one (base := N) (n := 0) (m := 1) (v := .slice U 0 uc) rfl ((own_ext hown9 _).alloc _) rfl (ys := [⟨l, -1⟩]) rfl (sl_stay (t := 51) (fr := (0, 0)) (x := ⟨l, -1⟩) (G_new _ _ _ (by simp [ext_size]))) (by first | (simp [maxLen]; done) | (simp [maxLen]; omega)) (by omega) (by simp [ext_size]; omega) ?_; intro v' w1 h1 h2 h3))
          have hB2 : Below N W0 w1 := below_own (B_alloc (B_ext hBr9 _ hNW) _) ((own_ext hown9 _).alloc _) h2
          go_wp2_with fail
          go_roundw
          case rel => exact ⟨j + 1, by omega, by go_num, by rw [HAT.out, if_pos HQ.out]; simpa [closeLast] using h1, hB2⟩
          case measure => simp [intOf]; omega
        · obtain ⟨g, cap, hv, hbg, hglt⟩ := hown8.form (by omega)
          simp only [Value.slice.injEq, true_and] at hv
          obtain ⟨rfl, rfl⟩ := hv
          have hu1 : decide (0 < us.length) = true := by simp; omega
          have hu2 : (0 : Int) ≤ (us.length : Int) - 1 := by omega
          have hu3 : (us.length : Int) - 1 < (us.length : Int) := by omega
          have hu4 : ((us.length : Int) - 1).toNat = us.length - 1 := by omega
          have hul1 : us.length - 1 < us.length := by omega
          have hsc := (hown8.cellAt ((us.length - 1) * 7 + 6) (by omega)).trans (flat_at Stay.cells 7 stay_len us (us.length - 1) _ (List.getElem?_eq_getElem hul1) 6 _ rfl)
          have hsf := hown8.frozenAt ((us.length - 1) * 7 + 6)
          obtain ⟨hst1, hst2⟩ := hown8.stored ((us.length - 1) * 7 + 6) (.int .i64 e.day)
          rw [flat_close e.day us (by omega)] at hst1
          have hBr10 : Below N W0 (W9.setCell ⟨g, (us.length - 1) * 7 + 6, none⟩ (.int .i64 e.day)) := Below.grown hBr9 hst2 hN9 (fun k hk => by cases hk; exact hbg)
          have hown7 : (W9.setCell ⟨g, (us.length - 1) * 7 + 6, none⟩ (.int .i64 e.day)).ownsRow (World.drew wr).heap.size 47 6 (.slice F2 ls.length fc2) ls.length (ls.flatMap Lot.cells) := hown3.kept hst2 (.inr fun hk => by
            have h8 := hbN _ hk
            have h9 := (hown.lt g rfl).2
            omega)
          have hg10 : wr.heap.size ≤ (W9.setCell ⟨g, (us.length - 1) * 7 + 6, none⟩ (.int .i64 e.day)).heap.size := by simpa using hwr9
          go_wp2_with fail
          generalize W9.setCell ⟨g, (us.length - 1) * 7 + 6, none⟩ (.int .i64 e.day) = W9 at *
          have hSF : Sl W9 6 Lot.cells F2 ls := by
            obtain ⟨F3, fc3, hv3, hS3, _⟩ := own_sl lot_len hown7
            simp only [Value.slice.injEq, true_and] at hv3
            obtain ⟨rfl, rfl⟩ := hv3
            exact hS3
          have hown9 : W9.ownsRow N 51 7 (.slice (some ⟨g, 0, none⟩) us.length uc) us.length ((closeLast e.day us).flatMap Stay.cells) := hst1
          have hN10 : N ≤ W9.heap.size := by omega
          obtain ⟨fb, foff, rfl, hfb, hfc⟩ := hSF.at hkl
          rw [HKE.out] at hfc
          have y0 : W9.cell? ⟨fb, foff + ki * 6, none⟩ = some (.string l.remain) := hfc 0 _ rfl
          have y1 : W9.cell? ⟨fb, foff + ki * 6 + 1, none⟩ = some (.int .i64 l.state) := hfc 1 _ rfl
          have y2 : W9.cell? ⟨fb, foff + ki * 6 + 2, none⟩ = some (.string l.site) := hfc 2 _ rfl
          have y3 : W9.cell? ⟨fb, foff + ki * 6 + 3, none⟩ = some (.int .i64 l.level) := hfc 3 _ rfl
          have y4 : W9.cell? ⟨fb, foff + ki * 6 + 4, none⟩ = some (.int .i64 l.container) := hfc 4 _ rfl
          have y5 : W9.cell? ⟨fb, foff + ki * 6 + 5, none⟩ = some (.int .i64 l.since) := hfc 5 _ rfl
          go_wp2_with (first
                        | (go_at_call 78; refine (rFind_any ls _ _ _ _ _ ⟨rfl, hSF.keep (n := W9.heap.size) (by repeat (first | exact B_refl | exact Below.refl _ _ | assumption | with_reducible refine B_alloc ?_ _ | with_reducible refine B_ext ?_ _ | with_reducible refine B_drew ?_ | with_reducible refine B_drewN ?_ _ | with_reducible refine B_set ?_ (by simp; omega) _)), hlsl⟩).mono ?_; rintro e wq ⟨rfl, zf, rfl⟩; rw [hfr])
                        | (at_builtin; refine wpList_append_sl rfl _ _ rfl elStay stay_len stay_one (base := N) (n := us.length) (m := 1) (v := .slice (some ⟨g, 0, none⟩) us.length uc) rfl ((own_ext hown9 _).alloc _) rfl (ys := [⟨l, -1⟩]) rfl (sl_stay (t := 51) (fr := (0, 0)) (x := ⟨l, -1⟩) (G_new _ _ _ (by simp [ext_size]))) (by first | (simp [maxLen]; done) | (simp [maxLen]; omega)) (by omega) (by simp [ext_size]; omega) ?_; intro v' w1 h1 h2 h3))
          have hB2 : Below N W0 w1 := below_own (B_alloc (B_ext hBr10 _ hNW) _) ((own_ext hown9 _).alloc _) h2
          go_wp2_with fail
          go_roundw
          case rel => exact ⟨j + 1, by omega, by go_num, by rw [HAT.out, if_pos HQ.out]; simpa [close_len] using h1, hB2⟩
          case measure => simp [intOf]; omega
    · have hje : j = es.length := by omega
      subst hje
      go_wp2_with fail
      go_ret
      exact ⟨_, rfl, own_mono' hown (by omega), ext_below (hB.trans (hBr.mono (by omega)))⟩
end Go.Proofs.Ytmiobhlgpjjbgaa
namespace Go.Proofs.Ytmiobhlgpjjbgaa
open Go.RowKit
attribute [local go_sem] World.cell?_alloc_mark ext_size ext_cell ext_frozen lt_add_r lt_add_r2 lt_add_r3 lt_add_r4 lt_add_r5 lt_add_r6 lt_add_r7 lt_add_r8

theorem st_full {c0 c1 c2 : Int} {ss : List Site} {rs : List Rest} {es : List Event} (h : rCheckP c0 c1 c2 ss rs es = 0) (A R : Option Addr) (n c rn rc : Nat) :
    (addsP ss rs (bk0 A n c R rn rc c0 c1 c2) es).1.st.map (·.lot.remain) = es.map (·.remain) ∧ (∀ s ∈ (addsP ss rs (bk0 A n c R rn rc c0 c1 c2) es).1.st, PlacedS ss s.lot) ∧
    ∀ rm, rStGo c0 c1 c2 ss rs es rm es.length = staysP rm (addsP ss rs (bk0 A n c R rn rc c0 c1 c2) es).1.st := by
  have h1 := st_remains h A R n c rn rc es.length (Nat.le_refl _)
  have h2 := st_placed h A R n c rn rc es.length (Nat.le_refl _)
  have h3 := fun rm => stGo_book h A R n c rn rc rm es.length (Nat.le_refl _)
  rw [List.take_length] at h1 h2
  simp only [List.take_length] at h3
  exact ⟨h1, h2, h3⟩
theorem count_map {es : List Event} {st : List Stay} (h : st.map (·.lot.remain) = es.map (·.remain)) (rm : ByteArray) (i : Nat) :
    (st.take i).countP (fun s => s.lot.remain.toList == rm.toList) = (es.take i).countP (fun e => e.remain.toList == rm.toList) := by
  have h1 : (st.take i).map (·.lot.remain) = (es.take i).map (·.remain) := by rw [List.map_take, List.map_take, h]
  have h2 := congrArg (List.countP fun b : ByteArray => b.toList == rm.toList) h1
  rw [List.countP_map, List.countP_map] at h2
  exact h2
/-- The stay that an event begins is the one of its number among its remain's. -/
theorem stay_nth {es : List Event} {st : List Stay} (h : st.map (·.lot.remain) = es.map (·.remain)) {i : Nat} (hi : i < es.length) :
    ∃ x, st[i]? = some x ∧ (staysP es[i].remain st)[(es.take i).countP (fun e => e.remain.toList == es[i].remain.toList)]? = some x := by
  have hl : st.length = es.length := by simpa using congrArg List.length h
  have hi2 : i < st.length := by omega
  have hr : st[i].lot.remain = es[i].remain := by
    have := congrArg (fun l => l[i]?) h
    simp only [List.getElem?_map, List.getElem?_eq_getElem hi, List.getElem?_eq_getElem hi2, Option.map_some, Option.some.injEq] at this
    exact this
  refine ⟨st[i], List.getElem?_eq_getElem hi2, ?_⟩
  rw [← count_map h]
  unfold staysP
  exact nth_filter (p := fun s : Stay => s.lot.remain.toList == es[i].remain.toList) (List.getElem?_eq_getElem hi2) (by simp [hr])
def RLevOk (w : World) (xss : List (List Stay)) (n : Nat) (e : Ending) (w' : World) : Prop :=
  ∃ g vs, e = .returned (.slice (some ⟨g, 0, none⟩) n n) ∧ RowsAt w' w.heap.size g vs xss ∧ ∃ z, w' = w.ext z
theorem G_set7 {w : World} {g : Nat} {z0 z1 z2 z3 z4 z5 z6 a b c d e f h : Value} {t : TypeId} {fr : Nat × Nat} (hb : w.heap[g]? = some (.cells #[z0, z1, z2, z3, z4, z5, z6] t fr)) :
    (((((((w.setCell ⟨g, 0, none⟩ a).setCell ⟨g, 1, none⟩ b).setCell ⟨g, 2, none⟩ c).setCell ⟨g, 3, none⟩ d).setCell ⟨g, 4, none⟩ e).setCell ⟨g, 5, none⟩ f).setCell ⟨g, 6, none⟩ h).heap[g]? = some (.cells #[a, b, c, d, e, f, h] t fr) := by
  have := Joins.block_setCell (i := 6) (Joins.block_setCell (i := 5) (Joins.block_setCell (i := 4) (Joins.block_setCell (i := 3) (Joins.block_setCell (i := 2) (Joins.block_setCell (i := 1) (Joins.block_setCell (i := 0) hb a) b) c) d) e) f) h
  simpa using this
set_option maxRecDepth 100000 in
set_option maxHeartbeats 2000000 in
theorem rLevels_any (ss : List Site) (rs : List Rest) (A R : Option Addr) (n c rn rc : Nat) (c0 c1 c2 : Int) (es : List Event) (E : Option Addr) (en ec : Nat) (nm : ByteArray) (a : ByteArray) (kd so d st : Int) (N : Nat) (w : World) (hy : YardIn w ss rs A n c R rn rc) (hev : EventsIn w es E en) (hcap : es.length ≤ ec)
    (hX : rCheckP c0 c1 c2 ss rs es = 0) (hs : findSite nm ss = some ⟨a, kd, so, d, st, (N : Int)⟩) (hN : N ≤ 12) (hnm : nm ≠ ⟨#[]⟩) :
    Calls Try.prog 45 #[.agg #[.slice A n c, .slice R rn rc, .int .i64 c0, .int .i64 c1, .int .i64 c2], .slice E en ec, .string nm] w (RLevOk w (levelsP nm N (addsP ss rs (bk0 A n c R rn rc c0 c1 c2) es).1.st) N) := by
  have hen := hev.hn
  have hn := hy.hn
  subst hen hn
  have HRS := fun rm W h1 h2 => rStays_any ss rs A R ss.length c rn rc c0 c1 c2 es E es.length ec rm W h1 h2 hcap hX
  obtain ⟨hm1, hm2, hm3⟩ := st_full hX A R ss.length c rn rc
  simp only [hm3] at HRS
  obtain ⟨si, hik, hgk⟩ := siteIdx_some hs
  have hsi : rSiteR nm ss = (si : Int) := by rw [rSiteR, hik]
  obtain ⟨hsl, hse⟩ := List.getElem?_eq_some_iff.1 hgk
  have HS := Lib.hid hs
  have HM1 := Lib.hid hm1
  have HM2 := Lib.hid hm2
  have HNM := Lib.hid hnm
  obtain ⟨_, _, _, _, _, hes⟩ := (read_check ss rs A R ss.length c rn rc c0 c1 c2 es).2 hX
  clear hm3 hik hgk hs hm1 hm2 hnm hX
  generalize (addsP ss rs (bk0 A ss.length c R rn rc c0 c1 c2) es).1.st = ST at *
  have hmk := run_rows N (by omega)
  have hsl2 : (si : Int) < (ss.length : Int) := by omega
  have hsi0 : (0 : Int) ≤ (si : Int) := by omega
  go_enter Try.func45, Try.ntmps45
  go_wp2_with fail
  generalize hW0 : w.alloc (.cells #[.slice A ss.length c, .slice R rn rc, .int .i64 c0, .int .i64 c1, .int .i64 c2] 26) = W0
  have hB : Below w.heap.size w W0 := by rw [← hW0]; repeat (first | exact B_refl | exact Below.refl _ _ | assumption | with_reducible refine B_alloc ?_ _ | with_reducible refine B_ext ?_ _ | with_reducible refine B_drew ?_ | with_reducible refine B_drewN ?_ _ | with_reducible refine B_set ?_ (by simp; omega) _)
  have hblk : W0.heap[w.heap.size]? = some (.cells #[.slice A ss.length c, .slice R rn rc, .int .i64 c0, .int .i64 c1, .int .i64 c2] 26) := by rw [← hW0]; exact heap_alloc_new _ _
  have hz := blk_lt hblk
  obtain ⟨sb, soff, rfl, hsb, hsc⟩ := (hy.sl.keep hB).at hsl
  rw [hse] at hsc
  have hsb0 : sb < W0.heap.size := hsb
  have g0 : W0.cell? ⟨w.heap.size, 0, none⟩ = some (.slice (some ⟨sb, soff, none⟩) ss.length c) := by simp [World.cell?, hblk]
  have g1 : W0.cell? ⟨w.heap.size, 1, none⟩ = some (.slice R rn rc) := by simp [World.cell?, hblk]
  have g2 : W0.cell? ⟨w.heap.size, 2, none⟩ = some (.int .i64 c0) := by simp [World.cell?, hblk]
  have g3 : W0.cell? ⟨w.heap.size, 3, none⟩ = some (.int .i64 c1) := by simp [World.cell?, hblk]
  have g4 : W0.cell? ⟨w.heap.size, 4, none⟩ = some (.int .i64 c2) := by simp [World.cell?, hblk]
  have g5 : W0.cell? ⟨sb, soff + si * 6 + 5, none⟩ = some (.int .i64 (N : Int)) := hsc 5 _ rfl
  clear hW0 hblk hsc hse
  go_region_held3 (fun w' => w'.cell? ⟨w.heap.size, 0, none⟩ = some (.slice (some ⟨sb, soff, none⟩) ss.length c) ∧ w'.cell? ⟨w.heap.size, 1, none⟩ = some (.slice R rn rc) ∧ w'.cell? ⟨w.heap.size, 2, none⟩ = some (.int .i64 c0) ∧ w'.cell? ⟨w.heap.size, 3, none⟩ = some (.int .i64 c1) ∧ w'.cell? ⟨w.heap.size, 4, none⟩ = some (.int .i64 c2) ∧ w'.cell? ⟨sb, soff + si * 6 + 5, none⟩ = some (.int .i64 (N : Int)))
                    ((refine ⟨cell_kept hz g0 ?_, cell_kept hz g1 ?_, cell_kept hz g2 ?_, cell_kept hz g3 ?_, cell_kept hz g4 ?_, cell_kept hsb0 g5 ?_⟩ <;> ((repeat (first | exact B_refl | exact Below.refl _ _ | assumption | with_reducible refine B_alloc ?_ _ | with_reducible refine B_ext ?_ _ | with_reducible refine B_drew ?_ | with_reducible refine B_drewN ?_ _ | with_reducible refine B_set ?_ (by simp; omega) _)); done)))
    (first
      | (go_at_call 27; refine (rSite_any ss rs _ _ _ _ _ _ _ _ _ _ _ (hy.keep (m := w.heap.size) ?q1)).mono ?_
         case q1 => repeat (first | exact B_refl | exact Below.refl _ _ | assumption | with_reducible refine B_alloc ?_ _ | with_reducible refine B_ext ?_ _ | with_reducible refine B_drew ?_ | with_reducible refine B_drewN ?_ _ | with_reducible refine B_set ?_ (by simp; omega) _)
         rintro e wq ⟨rfl, zt, rfl⟩
         rw [hsi]))
  have hbw1 : Below W0.heap.size W0 (World.ext (World.drew W0) zt) := by repeat (first | exact B_refl | exact Below.refl _ _ | assumption | with_reducible refine B_alloc ?_ _ | with_reducible refine B_ext ?_ _ | with_reducible refine B_drew ?_ | with_reducible refine B_drewN ?_ _ | with_reducible refine B_set ?_ (by simp; omega) _)
  have hW1s : (World.ext (World.drew W0) zt).heap.size = W0.heap.size + zt.os.size := by simp [ext_size]
  generalize hGd : W0.heap.size + zt.os.size = G at *
  have hG0 : W0.heap.size ≤ G := by omega
  clear hGd
  generalize World.ext (World.drew W0) zt = W1 at *
  have HW1 := Lib.hid hW1s
  have hRA := rows_made W1 N G (Nat.le_of_eq hW1s.symm)
  rw [← levels_nil nm N, hW1s] at hRA
  have hGW : G ≤ W1.heap.size := Nat.le_of_eq hW1s.symm
  have hGW2 : W1.heap.size ≤ G := Nat.le_of_eq hW1s
  have hB0 : Below G W1 (W1.alloc (.cells (madeCells #[.slice none 0 0] N) 43)) := by rw [← hW1s]; repeat (first | exact B_refl | exact Below.refl _ _ | assumption | with_reducible refine B_alloc ?_ _ | with_reducible refine B_ext ?_ _ | with_reducible refine B_drew ?_ | with_reducible refine B_drewN ?_ _ | with_reducible refine B_set ?_ (by simp; omega) _)
  clear hW1s
  go_wp2_with fail
  go_loopw [8, 9, 10, 11] (fun i _ _ _ wr => ∃ (j : Nat) (vs : List Value), j ≤ es.length ∧ i = .int .i64 j ∧ RowsAt wr G G vs (levelsP nm N (ST.take j)) ∧ Below G W1 wr) (fun i _ _ _ _ => es.length - (intOf i).toNat)
  case atStart => exact ⟨0, _, Nat.zero_le _, rfl, hRA, hB0⟩
  case round =>
    obtain ⟨j, vs, hj, rfl, hR, hBr⟩ := hrel
    have hGr := blk_lt hR.blk
    have hBw0 : Below W0.heap.size W0 wr := hbw1.trans (hBr.mono hG0)
    have hBw : Below w.heap.size w wr := hB.trans (hBw0.mono hB.size)
    by_cases hlt : j < es.length
    · obtain ⟨b, off, rfl, hb, hc⟩ := (hev.sl.keep hBw).at hlt
      obtain ⟨x, hx, hxn⟩ := stay_nth HM1.out hlt
      have x4 : wr.cell? ⟨b, off + j * 7 + 4, none⟩ = some (.string es[j].remain) := hc 4 _ rfl
      have hlt2 : (j : Int) < (es.length : Int) := by omega
      have hj0 : (0 : Int) ≤ (j : Int) := by omega
      have HXN := Lib.hid hxn
      have HSX := Lib.hid hx
      clear hc hx hxn
      have hbb : b < wr.heap.size := hb
      generalize es[j].remain = rm at *
      go_wp2_with fail
      go_loopw [9, 10] (fun h k wr2 => ∃ i : Nat, i ≤ j ∧ k = .int .i64 i ∧ h = .int .i64 ((es.take i).countP fun e => e.remain.toList == rm.toList) ∧ ∃ z, wr2 = wr.ext z) (fun _ k _ => j - (intOf k).toNat)
      case atStart => exact ⟨0, Nat.zero_le _, rfl, rfl, ext_below (by repeat (first | exact B_refl | exact Below.refl _ _ | assumption | with_reducible refine B_alloc ?_ _ | with_reducible refine B_ext ?_ _ | with_reducible refine B_drew ?_ | with_reducible refine B_drewN ?_ _ | with_reducible refine B_set ?_ (by simp; omega) _))⟩
      case round =>
        obtain ⟨i, hi, rfl, rfl, zi, rfl⟩ := hrel
        by_cases hij : i < j
        · have hil : i < es.length := by omega
          obtain ⟨b', off', hbb', _, hc'⟩ := (hev.sl.keep hBw).at hil
          simp only [Option.some.injEq, Addr.mk.injEq, and_true] at hbb'
          obtain ⟨rfl, rfl⟩ := hbb'
          have y4 : wr.cell? ⟨b, off + i * 7 + 4, none⟩ = some (.string es[i].remain) := hc' 4 _ rfl
          have hct : (es.take (i + 1)).countP (fun e => e.remain.toList == rm.toList) = (es.take i).countP (fun e => e.remain.toList == rm.toList) + if (es[i].remain.toList == rm.toList) = true then 1 else 0 := by
            rw [List.take_succ_eq_append_getElem hil, List.countP_append, List.countP_singleton]
          have hcl : (es.take i).countP (fun e => e.remain.toList == rm.toList) ≤ 1000 := by
            have := List.countP_le_length (p := fun e : Event => e.remain.toList == rm.toList) (l := es.take i)
            simp at this
            omega
          have HCT := Lib.hid hct
          have hij2 : (i : Int) < (j : Int) := by omega
          have hi2 : (i : Int) < (es.length : Int) := by omega
          have hi0 : (0 : Int) ≤ (i : Int) := by omega
          clear hc' hct
          generalize (es.take i).countP (fun e => e.remain.toList == rm.toList) = cn at *
          generalize es[i] = y at *
          cases hq : (y.remain.toList == rm.toList)
          · go_wp2_with fail
            (refine wp_region_ext_lit (by kernel_rfl) (by kernel_rfl) ?_
             repeat (first | go_big_quiet_skip | (go_big_quiet_want; go_big_quiet_op; first | go_big_quiet_on | (apply Exists.intro; refine ⟨fun _ => ?_, ?_⟩; (fail); go_big_quiet_on)))
             refine wpQuiet_nil ?_
             rintro _ ⟨zq, rfl⟩)
            go_wp2_with fail
            go_roundw
            case rel => exact ⟨i + 1, by omega, by go_num, by rw [HCT.out, hq]; rfl, ext_below (by repeat (first | exact B_refl | exact Below.refl _ _ | assumption | with_reducible refine B_alloc ?_ _ | with_reducible refine B_ext ?_ _ | with_reducible refine B_drew ?_ | with_reducible refine B_drewN ?_ _ | with_reducible refine B_set ?_ (by simp; omega) _))⟩
            case measure => simp [intOf]; omega
          · go_wp2_with fail
            (refine wp_region_ext_lit (by kernel_rfl) (by kernel_rfl) ?_
             repeat (first | go_big_quiet_skip | (go_big_quiet_want; go_big_quiet_op; first | go_big_quiet_on | (apply Exists.intro; refine ⟨fun _ => ?_, ?_⟩; (fail); go_big_quiet_on)))
             refine wpQuiet_nil ?_
             rintro _ ⟨zq, rfl⟩)
            go_wp2_with fail
            go_roundw
            case rel => exact ⟨i + 1, by omega, by go_num, by rw [HCT.out, hq, if_pos rfl]; go_num, ext_below (by repeat (first | exact B_refl | exact Below.refl _ _ | assumption | with_reducible refine B_alloc ?_ _ | with_reducible refine B_ext ?_ _ | with_reducible refine B_drew ?_ | with_reducible refine B_drewN ?_ _ | with_reducible refine B_set ?_ (by simp; omega) _))⟩
            case measure => simp [intOf]; omega
        · have hij2 : i = j := by omega
          subst hij2
          go_wp2_with fail
          have hcnl := (List.getElem?_eq_some_iff.1 HXN.out).1
          have HXE := Lib.hid (List.getElem?_eq_some_iff.1 HXN.out).2
          have hcl2 : (es.take i).countP (fun e => e.remain.toList == rm.toList) ≤ 1000 := by
            have := List.countP_le_length (p := fun e : Event => e.remain.toList == rm.toList) (l := es.take i)
            simp at this
            omega
          generalize hcnd : (es.take i).countP (fun e => e.remain.toList == rm.toList) = cn at *
          clear hcnd
          have hcn2 : (cn : Int) < ((staysP rm ST).length : Int) := by omega
          have hcn0 : (0 : Int) ≤ (cn : Int) := by omega
          have hR3 := hR.keep (n := wr.heap.size) (by repeat (first | exact B_refl | exact Below.refl _ _ | assumption | with_reducible refine B_alloc ?_ _ | with_reducible refine B_ext ?_ _ | with_reducible refine B_drew ?_ | with_reducible refine B_drewN ?_ _ | with_reducible refine B_set ?_ (by simp; omega) _) : Below wr.heap.size wr (World.ext wr zi))
          have hB3 : Below G W1 (World.ext wr zi) := B_ext hBr _ hGW
          have hB03 : Below W0.heap.size W0 (World.ext wr zi) := B_ext hBw0 _ (Nat.le_refl _)
          have hBw3 : Below w.heap.size w (World.ext wr zi) := B_ext hBw _ (Nat.le_refl _)
          have hx4 := cell_kept hbb x4 (by repeat (first | exact B_refl | exact Below.refl _ _ | assumption | with_reducible refine B_alloc ?_ _ | with_reducible refine B_ext ?_ _ | with_reducible refine B_drew ?_ | with_reducible refine B_drewN ?_ _ | with_reducible refine B_set ?_ (by simp; omega) _) : Below wr.heap.size wr (World.ext wr zi))
          have hs3 : wr.heap.size ≤ (World.ext wr zi).heap.size := by rw [ext_size]; exact Nat.le_add_right _ _
          generalize World.ext wr zi = W3 at *
          clear x4
          have x4 := hx4
          have hbb3 : b < W3.heap.size := by omega
          have jz : w.heap.size < W3.heap.size := by have := hB03.size; omega
          have k0 := cell_kept hz g0 hB03
          have k1 := cell_kept hz g1 hB03
          have k2 := cell_kept hz g2 hB03
          have k3 := cell_kept hz g3 hB03
          have k4 := cell_kept hz g4 hB03
          obtain ⟨⟨a0, a1, a2, a3, a4, a5⟩, a6⟩ := x
          refine wp_region_held_drew (S := (fun w' => w'.cell? ⟨w.heap.size, 0, none⟩ = some (.slice (some ⟨sb, soff, none⟩) ss.length c) ∧ w'.cell? ⟨w.heap.size, 1, none⟩ = some (.slice R rn rc) ∧ w'.cell? ⟨w.heap.size, 2, none⟩ = some (.int .i64 c0) ∧ w'.cell? ⟨w.heap.size, 3, none⟩ = some (.int .i64 c1) ∧ w'.cell? ⟨w.heap.size, 4, none⟩ = some (.int .i64 c2) ∧ w'.cell? ⟨b, off + i * 7 + 4, none⟩ = some (.string rm))) (by kernel_rfl) ?hS ?hrest
          case hS => ((try dsimp only); ((refine ⟨cell_kept jz k0 ?_, cell_kept jz k1 ?_, cell_kept jz k2 ?_, cell_kept jz k3 ?_, cell_kept jz k4 ?_, cell_kept hbb3 x4 ?_⟩ <;> ((repeat (first | exact B_refl | exact Below.refl _ _ | assumption | with_reducible refine B_alloc ?_ _ | with_reducible refine B_ext ?_ _ | with_reducible refine B_drew ?_ | with_reducible refine B_drewN ?_ _ | with_reducible refine B_set ?_ (by simp; omega) _)); done))))
          case hrest =>
            intro hHeld
            refine wpAnyH_take (i := 0) (v := ?_) (List.getElem?_toArray.trans rfl) (by kernel_rfl) (by kernel_rfl) (by kernel_rfl) (fun _ _ _ h => h) (Or.inl ⟨by rfl, ?_⟩) (by assumption) ?_
            rotate_left 1
            focus (intro w hSw; (try dsimp only at hSw); go_simp; first | done | with_reducible rfl)
            try simp only [Act.put, List.setIfInBounds_toArray, List.set_cons_zero, List.set_cons_succ]
            refine wpAnyH_take (i := 1) (v := ?_) (List.getElem?_toArray.trans rfl) (by kernel_rfl) (by kernel_rfl) (by kernel_rfl) (fun _ _ _ h => h) (Or.inl ⟨by rfl, ?_⟩) (by assumption) ?_
            rotate_left 1
            focus (intro w hSw; (try dsimp only at hSw); go_simp; first | done | with_reducible rfl)
            try simp only [Act.put, List.setIfInBounds_toArray, List.set_cons_zero, List.set_cons_succ]
            refine wpAnyH_take (i := 2) (v := ?_) (List.getElem?_toArray.trans rfl) (by kernel_rfl) (by kernel_rfl) (by kernel_rfl) (fun _ _ _ h => h) (Or.inl ⟨by rfl, ?_⟩) (by assumption) ?_
            rotate_left 1
            focus (intro w hSw; (try dsimp only at hSw); go_simp; first | done | with_reducible rfl)
            try simp only [Act.put, List.setIfInBounds_toArray, List.set_cons_zero, List.set_cons_succ]
            refine wpAnyH_take (i := 3) (v := ?_) (List.getElem?_toArray.trans rfl) (by kernel_rfl) (by kernel_rfl) (by kernel_rfl) (fun _ _ _ h => h) (Or.inl ⟨by rfl, ?_⟩) (by assumption) ?_
            rotate_left 1
            focus (intro w hSw; (try dsimp only at hSw); go_simp; first | done | with_reducible rfl)
            try simp only [Act.put, List.setIfInBounds_toArray, List.set_cons_zero, List.set_cons_succ]
            refine wpAnyH_take (i := 4) (v := ?_) (List.getElem?_toArray.trans rfl) (by kernel_rfl) (by kernel_rfl) (by kernel_rfl) (fun _ _ _ h => h) (Or.inl ⟨by rfl, ?_⟩) (by assumption) ?_
            rotate_left 1
            focus (intro w hSw; (try dsimp only at hSw); go_simp; first | done | with_reducible rfl)
            try simp only [Act.put, List.setIfInBounds_toArray, List.set_cons_zero, List.set_cons_succ]
            refine wpAnyH_take (i := 5) (v := ?_) (List.getElem?_toArray.trans rfl) (by kernel_rfl) (by kernel_rfl) (by kernel_rfl) (fun _ _ _ h => h) (Or.inl ⟨by rfl, ?_⟩) (by assumption) ?_
            rotate_left 1
            focus (intro w hSw; (try dsimp only at hSw); go_simp; first | done | with_reducible rfl)
            try simp only [Act.put, List.setIfInBounds_toArray, List.set_cons_zero, List.set_cons_succ]
            refine wpAnyH_take (i := 6) (v := ?_) (List.getElem?_toArray.trans rfl) (by kernel_rfl) (by kernel_rfl) (by kernel_rfl) (fun _ _ _ h => h) (Or.inl ⟨by rfl, ?_⟩) (by assumption) ?_
            rotate_left 1
            focus (intro w hSw; (try dsimp only at hSw); go_simp; first | done | with_reducible rfl)
            try simp only [Act.put, List.setIfInBounds_toArray, List.set_cons_zero, List.set_cons_succ]
            refine wpAnyH_take (i := 8) (v := ?_) (List.getElem?_toArray.trans rfl) (by kernel_rfl) (by kernel_rfl) (by kernel_rfl) (fun _ _ _ h => h) (Or.inl ⟨by rfl, ?_⟩) (by assumption) ?_
            rotate_left 1
            focus (intro w hSw; (try dsimp only at hSw); go_simp; first | done | with_reducible rfl)
            try simp only [Act.put, List.setIfInBounds_toArray, List.set_cons_zero, List.set_cons_succ]
            refine wpAnyH_ready (rs := [7, 11]) (by kernel_rfl) (by simp) (AllReadyH.cons (List.getElem?_toArray.trans rfl) (fun K hK => ?_) (AllReadyH.cons (List.getElem?_toArray.trans rfl) (fun K hK => ?_) AllReadyH.nil))
            · go_simp
              (go_at_call 43; refine (HRS rm _ (hy.keep (m := w.heap.size) ?q1) (hev.keep (m := w.heap.size) ?q2)).mono ?_
               case q1 => repeat (first | exact B_refl | exact Below.refl _ _ | assumption | with_reducible refine B_alloc ?_ _ | with_reducible refine B_ext ?_ _ | with_reducible refine B_drew ?_ | with_reducible refine B_drewN ?_ _ | with_reducible refine B_set ?_ (by simp; omega) _)
               case q2 => repeat (first | exact B_refl | exact Below.refl _ _ | assumption | with_reducible refine B_alloc ?_ _ | with_reducible refine B_ext ?_ _ | with_reducible refine B_drew ?_ | with_reducible refine B_drewN ?_ _ | with_reducible refine B_set ?_ (by simp; omega) _)
               rintro e wq ⟨v, rfl, hownS, zs, hwq⟩
               have hB34 : Below W3.heap.size W3 wq := by rw [hwq]; repeat (first | exact B_refl | exact Below.refl _ _ | assumption | with_reducible refine B_alloc ?_ _ | with_reducible refine B_ext ?_ _ | with_reducible refine B_drew ?_ | with_reducible refine B_drewN ?_ _ | with_reducible refine B_set ?_ (by simp; omega) _)
               skip
               clear hwq
               obtain ⟨V, vc, rfl, hSV, _⟩ := own_sl stay_len hownS
               obtain ⟨vb, voff, rfl, hvb, hvc⟩ := hSV.at hcnl
               rw [HXE.out] at hvc
               have p0 : wq.cell? ⟨vb, voff + cn * 7, none⟩ = some (.string a0) := hvc 0 _ rfl
               have p1 : wq.cell? ⟨vb, voff + cn * 7 + 1, none⟩ = some (.int .i64 a1) := hvc 1 _ rfl
               have p2 : wq.cell? ⟨vb, voff + cn * 7 + 2, none⟩ = some (.string a2) := hvc 2 _ rfl
               have p3 : wq.cell? ⟨vb, voff + cn * 7 + 3, none⟩ = some (.int .i64 a3) := hvc 3 _ rfl
               have p4 : wq.cell? ⟨vb, voff + cn * 7 + 4, none⟩ = some (.int .i64 a4) := hvc 4 _ rfl
               have p5 : wq.cell? ⟨vb, voff + cn * 7 + 5, none⟩ = some (.int .i64 a5) := hvc 5 _ rfl
               have p6 : wq.cell? ⟨vb, voff + cn * 7 + 6, none⟩ = some (.int .i64 a6) := hvc 6 _ rfl
               clear hvc hSV hownS)
              refine hK.out _ _ ?_ (fun hHeld => ?_)
              focus ((try dsimp only); ((refine ⟨cell_kept jz k0 ?_, cell_kept jz k1 ?_, cell_kept jz k2 ?_, cell_kept jz k3 ?_, cell_kept jz k4 ?_, cell_kept hbb3 x4 ?_⟩ <;> ((repeat (first | exact B_refl | exact Below.refl _ _ | assumption | with_reducible refine B_alloc ?_ _ | with_reducible refine B_ext ?_ _ | with_reducible refine B_drew ?_ | with_reducible refine B_drewN ?_ _ | with_reducible refine B_set ?_ (by simp; omega) _)); done))))
              clear hK K
              try simp only [Act.put, List.setIfInBounds_toArray, List.set_cons_zero, List.set_cons_succ]
              refine wpAnyH_take (i := 9) (v := ?_) (List.getElem?_toArray.trans rfl) (by kernel_rfl) (by kernel_rfl) (by kernel_rfl) (fun _ _ _ h => h) (Or.inl ⟨by rfl, ?_⟩) (by assumption) ?_
              rotate_left 1
              focus (intro w hSw; (try dsimp only at hSw); go_simp; first | done | with_reducible rfl)
              try simp only [Act.put, List.setIfInBounds_toArray, List.set_cons_zero, List.set_cons_succ]
              refine wpAnyH_ready (rs := [10, 11]) (by kernel_rfl) (by simp) (AllReadyH.cons (List.getElem?_toArray.trans rfl) (fun K hK => ?_) (AllReadyH.cons (List.getElem?_toArray.trans rfl) (fun K hK => ?_) AllReadyH.nil))
              · go_simp
                refine hK.out _ _ ?_ (fun hHeld => ?_)
                focus ((try dsimp only); ((refine ⟨cell_kept jz k0 ?_, cell_kept jz k1 ?_, cell_kept jz k2 ?_, cell_kept jz k3 ?_, cell_kept jz k4 ?_, cell_kept hbb3 x4 ?_⟩ <;> ((repeat (first | exact B_refl | exact Below.refl _ _ | assumption | with_reducible refine B_alloc ?_ _ | with_reducible refine B_ext ?_ _ | with_reducible refine B_drew ?_ | with_reducible refine B_drewN ?_ _ | with_reducible refine B_set ?_ (by simp; omega) _)); done))))
                clear hK K
                try simp only [Act.put, List.setIfInBounds_toArray, List.set_cons_zero, List.set_cons_succ]
                refine wpAnyH_ready (rs := [11]) (by kernel_rfl) (by simp) (AllReadyH.cons (List.getElem?_toArray.trans rfl) (fun K hK => ?_) AllReadyH.nil)
                go_simp
                refine hK.out _ _ ?_ (fun hHeld => ?_)
                focus ((try dsimp only); ((refine ⟨cell_kept jz k0 ?_, cell_kept jz k1 ?_, cell_kept jz k2 ?_, cell_kept jz k3 ?_, cell_kept jz k4 ?_, cell_kept hbb3 x4 ?_⟩ <;> ((repeat (first | exact B_refl | exact Below.refl _ _ | assumption | with_reducible refine B_alloc ?_ _ | with_reducible refine B_ext ?_ _ | with_reducible refine B_drew ?_ | with_reducible refine B_drewN ?_ _ | with_reducible refine B_set ?_ (by simp; omega) _)); done))))
                clear hK K
                try simp only [Act.put, List.setIfInBounds_toArray, List.set_cons_zero, List.set_cons_succ]
                refine wpAnyH_ready (rs := [12]) (by kernel_rfl) (by simp) (AllReadyH.cons (List.getElem?_toArray.trans rfl) (fun K hK => ?_) AllReadyH.nil)
                go_simp
                refine hK.out _ _ ?_ (fun hHeld => ?_)
                focus ((try dsimp only); ((refine ⟨cell_kept jz k0 ?_, cell_kept jz k1 ?_, cell_kept jz k2 ?_, cell_kept jz k3 ?_, cell_kept jz k4 ?_, cell_kept hbb3 x4 ?_⟩ <;> ((repeat (first | exact B_refl | exact Below.refl _ _ | assumption | with_reducible refine B_alloc ?_ _ | with_reducible refine B_ext ?_ _ | with_reducible refine B_drew ?_ | with_reducible refine B_drewN ?_ _ | with_reducible refine B_set ?_ (by simp; omega) _)); done))))
                clear hK K
                try simp only [Act.put, List.setIfInBounds_toArray, List.set_cons_zero, List.set_cons_succ]
                refine wpAnyH_done (by kernel_rfl) ?_ _
                have hx5 : (World.alloc wq (.cells #[.string a0, .int .i64 a1, .string a2, .int .i64 a3, .int .i64 a4, .int .i64 a5, .int .i64 a6] 51)).heap[wq.heap.size]? = some (.cells #[.string a0, .int .i64 a1, .string a2, .int .i64 a3, .int .i64 a4, .int .i64 a5, .int .i64 a6] 51 (0, 0)) := heap_alloc_new _ _
                have hB35 : Below W3.heap.size W3 (World.alloc wq (.cells #[.string a0, .int .i64 a1, .string a2, .int .i64 a3, .int .i64 a4, .int .i64 a5, .int .i64 a6] 51)) := by repeat (first | exact B_refl | exact Below.refl _ _ | assumption | with_reducible refine B_alloc ?_ _ | with_reducible refine B_ext ?_ _ | with_reducible refine B_drew ?_ | with_reducible refine B_drewN ?_ _ | with_reducible refine B_set ?_ (by simp; omega) _)
                have hs34 := hB34.size
                clear hHeld
                generalize World.alloc wq (.cells #[.string a0, .int .i64 a1, .string a2, .int .i64 a3, .int .i64 a4, .int .i64 a5, .int .i64 a6] 51) = W5 at *
                generalize wq.heap.size = B at *
                have hGx : ¬ B = G := by have := blk_lt hR3.blk; omega
                have hGx2 : ¬ G = B := by have := blk_lt hR3.blk; omega
                have hB3B : W3.heap.size ≤ B := hs34
                have hB5 : Below G W1 W5 := hB3.trans (hB35.mono (by have := blk_lt hR3.blk; omega))
                have hR5 := hR3.keep (n := W3.heap.size) hB35
                have hGr5 := blk_lt hR5.blk
                have hbz := blk_lt hx5
                have y2 : W5.cell? ⟨B, 2, none⟩ = some (.string a2) := by simp [World.cell?, hx5]
                have hxl := (List.getElem?_eq_some_iff.1 HSX.out).1
                have HT := Lib.hid (show ST.take (i + 1) = ST.take i ++ [⟨⟨a0, a1, a2, a3, a4, a5⟩, a6⟩] by rw [List.take_succ_eq_append_getElem hxl, (List.getElem?_eq_some_iff.1 HSX.out).2])
                have hpj := HM2.out _ (List.mem_of_getElem? HSX.out)
                have HPJ := Lib.hid hpj
                have hsl9 : (ST.take i).length ≤ 1000 := by
                  have := List.length_take_le i ST
                  omega
                clear hpj hxl
                generalize hsjd : ST.take i = sj at *
                clear hsjd
                cases hh : (a2.toList == nm.toList)
                · have HF := Lib.hid hh
                  go_wp2_with fail
                  go_roundw
                  case rel => exact ⟨i + 1, vs, by omega, by go_num, by rw [HT.out, levels_snoc_other HF.out]; exact hR5, hB5⟩
                  case measure => simp [intOf]; omega
                · have hpl : 0 ≤ a3 ∧ a3 < (N : Int) := by
                    rcases HPJ.out with ⟨h1, _⟩ | ⟨_, s', h3, h4, h5⟩
                    · exact absurd ((bytes_ext (eq_of_beq hh)).symm.trans h1) HNM.out
                    · have h6 : a2 = nm := bytes_ext (eq_of_beq hh)
                      rw [h6, HS.out] at h3
                      cases h3
                      exact ⟨h4, h5⟩
                  obtain ⟨hf2', hf3⟩ := hpl
                  obtain ⟨lv, rfl⟩ : ∃ lv : Nat, a3 = (lv : Int) := ⟨a3.toNat, by omega⟩
                  have hlN : lv < N := by omega
                  have HF1 := Lib.hid hh
                  have hll : lv < (levelsP nm N sj).length := by rw [levels_len]; exact hlN
                  obtain ⟨ub, uc2, hv, hvc, hvS⟩ := hR5.at hll
                  have hx : (levelsP nm N sj)[lv]? = some (sj.filter fun s => s.lot.site.toList == nm.toList && s.lot.level == (lv : Int)) := levels_at hlN
                  have hrow := hR5.rows lv _ _ hv hx
                  have hge := (List.getElem?_eq_some_iff.1 hx).2
                  rw [hge] at hv hvc hvS hrow
                  have hxl : (sj.filter fun s => s.lot.site.toList == nm.toList && s.lot.level == (lv : Int)).length ≤ 1000 := Nat.le_trans (List.length_filter_le _ _) hsl9
                  have HV := Lib.hid hv
                  have HX := Lib.hid hx
                  have HLS : Hid (levelsP nm N (sj ++ [⟨⟨a0, a1, a2, (lv : Int), a4, a5⟩, a6⟩]) = (levelsP nm N sj).set lv ((sj.filter fun s => s.lot.site.toList == nm.toList && s.lot.level == (lv : Int)) ++ [⟨⟨a0, a1, a2, (lv : Int), a4, a5⟩, a6⟩])) := levels_snoc HF1.out rfl hlN
                  clear hv hx hge hll hvS hf2' hf3
                  generalize (sj.filter fun s => s.lot.site.toList == nm.toList && s.lot.level == (lv : Int)) = us at *
                  have hlN2 : (lv : Int) < (N : Int) := by omega
                  have hlv0 : (0 : Int) ≤ (lv : Int) := by omega
                  have hneG : some G ≠ (Value.slice ub us.length uc2).ownBlock := own_ne hrow hR5.blk (by decide)
                  have hrow3 : ∀ k, (Value.slice ub us.length uc2).ownBlock = some k → k < W3.heap.size := by
                    have hi2 : lv < (levelsP nm N sj).length := by rw [levels_len]; exact hlN
                    have h8 := hR3.rows lv _ _ HV.out (List.getElem?_eq_getElem hi2)
                    exact fun k hk => (h8.lt k hk).2
                  have hneX : some B ≠ (Value.slice ub us.length uc2).ownBlock := fun e => by
                    have := hrow3 _ e.symm
                    omega
                  go_wp2_with fail
                  refine wp_region_held_drew (S := (fun w' => w'.cell? ⟨B, 0, none⟩ = some (.string a0) ∧ w'.cell? ⟨B, 1, none⟩ = some (.int .i64 a1) ∧ w'.cell? ⟨B, 2, none⟩ = some (.string a2) ∧ w'.cell? ⟨B, 3, none⟩ = some (.int .i64 (lv : Int)) ∧ w'.cell? ⟨B, 4, none⟩ = some (.int .i64 a4) ∧ w'.cell? ⟨B, 5, none⟩ = some (.int .i64 a5) ∧ w'.cell? ⟨B, 6, none⟩ = some (.int .i64 a6))) (by kernel_rfl) ?hS ?hrest
                  case hS => ((try dsimp only); ((refine ⟨cell_of (cs := #[.string a0, .int .i64 a1, .string a2, .int .i64 (lv : Int), .int .i64 a4, .int .i64 a5, .int .i64 a6]) (t := 51) (fr := (0, 0)) ?_ rfl, cell_of (cs := #[.string a0, .int .i64 a1, .string a2, .int .i64 (lv : Int), .int .i64 a4, .int .i64 a5, .int .i64 a6]) (t := 51) (fr := (0, 0)) ?_ rfl, cell_of (cs := #[.string a0, .int .i64 a1, .string a2, .int .i64 (lv : Int), .int .i64 a4, .int .i64 a5, .int .i64 a6]) (t := 51) (fr := (0, 0)) ?_ rfl, cell_of (cs := #[.string a0, .int .i64 a1, .string a2, .int .i64 (lv : Int), .int .i64 a4, .int .i64 a5, .int .i64 a6]) (t := 51) (fr := (0, 0)) ?_ rfl, cell_of (cs := #[.string a0, .int .i64 a1, .string a2, .int .i64 (lv : Int), .int .i64 a4, .int .i64 a5, .int .i64 a6]) (t := 51) (fr := (0, 0)) ?_ rfl, cell_of (cs := #[.string a0, .int .i64 a1, .string a2, .int .i64 (lv : Int), .int .i64 a4, .int .i64 a5, .int .i64 a6]) (t := 51) (fr := (0, 0)) ?_ rfl, cell_of (cs := #[.string a0, .int .i64 a1, .string a2, .int .i64 (lv : Int), .int .i64 a4, .int .i64 a5, .int .i64 a6]) (t := 51) (fr := (0, 0)) ?_ rfl⟩ <;> ((repeat (first | with_reducible exact hx2 | with_reducible exact hx5 | with_reducible refine G_drew ?_ | with_reducible refine G_ext ?_ | with_reducible refine G_alloc ?_ | with_reducible refine G_setO hGx ?_)); done))))
                  case hrest =>
                    intro hHeld
                    refine wpAnyH_take (i := 0) (v := ?_) (List.getElem?_toArray.trans rfl) (by kernel_rfl) (by kernel_rfl) (by kernel_rfl) (fun _ _ _ h => h) (Or.inl ⟨by rfl, ?_⟩) (by assumption) ?_
                    rotate_left 1
                    focus (intro w hSw; (try dsimp only at hSw); go_simp; first | done | with_reducible rfl)
                    try simp only [Act.put, List.setIfInBounds_toArray, List.set_cons_zero, List.set_cons_succ]
                    refine wpAnyH_take (i := 1) (v := ?_) (List.getElem?_toArray.trans rfl) (by kernel_rfl) (by kernel_rfl) (by kernel_rfl) (fun _ _ _ h => h) (Or.inl ⟨by rfl, ?_⟩) (by assumption) ?_
                    rotate_left 1
                    focus (intro w hSw; (try dsimp only at hSw); go_simp; first | done | with_reducible rfl)
                    try simp only [Act.put, List.setIfInBounds_toArray, List.set_cons_zero, List.set_cons_succ]
                    refine wpAnyH_take (i := 2) (v := ?_) (List.getElem?_toArray.trans rfl) (by kernel_rfl) (by kernel_rfl) (by kernel_rfl) (fun _ _ _ h => h) (Or.inl ⟨by rfl, ?_⟩) (by assumption) ?_
                    rotate_left 1
                    focus (intro w hSw; (try dsimp only at hSw); go_simp; first | done | with_reducible rfl)
                    try simp only [Act.put, List.setIfInBounds_toArray, List.set_cons_zero, List.set_cons_succ]
                    refine wpAnyH_take (i := 3) (v := ?_) (List.getElem?_toArray.trans rfl) (by kernel_rfl) (by kernel_rfl) (by kernel_rfl) (fun _ _ _ h => h) (Or.inl ⟨by rfl, ?_⟩) (by assumption) ?_
                    rotate_left 1
                    focus (intro w hSw; (try dsimp only at hSw); go_simp; first | done | with_reducible rfl)
                    try simp only [Act.put, List.setIfInBounds_toArray, List.set_cons_zero, List.set_cons_succ]
                    refine wpAnyH_take (i := 4) (v := ?_) (List.getElem?_toArray.trans rfl) (by kernel_rfl) (by kernel_rfl) (by kernel_rfl) (fun _ _ _ h => h) (Or.inl ⟨by rfl, ?_⟩) (by assumption) ?_
                    rotate_left 1
                    focus (intro w hSw; (try dsimp only at hSw); go_simp; first | done | with_reducible rfl)
                    try simp only [Act.put, List.setIfInBounds_toArray, List.set_cons_zero, List.set_cons_succ]
                    refine wpAnyH_take (i := 5) (v := ?_) (List.getElem?_toArray.trans rfl) (by kernel_rfl) (by kernel_rfl) (by kernel_rfl) (fun _ _ _ h => h) (Or.inl ⟨by rfl, ?_⟩) (by assumption) ?_
                    rotate_left 1
                    focus (intro w hSw; (try dsimp only at hSw); go_simp; first | done | with_reducible rfl)
                    try simp only [Act.put, List.setIfInBounds_toArray, List.set_cons_zero, List.set_cons_succ]
                    refine wpAnyH_take (i := 6) (v := ?_) (List.getElem?_toArray.trans rfl) (by kernel_rfl) (by kernel_rfl) (by kernel_rfl) (fun _ _ _ h => h) (Or.inl ⟨by rfl, ?_⟩) (by assumption) ?_
                    rotate_left 1
                    focus (intro w hSw; (try dsimp only at hSw); go_simp; first | done | with_reducible rfl)
                    try simp only [Act.put, List.setIfInBounds_toArray, List.set_cons_zero, List.set_cons_succ]
                    refine wpAnyH_take (i := 7) (v := ?_) (List.getElem?_toArray.trans rfl) (by kernel_rfl) (by kernel_rfl) (by kernel_rfl) (fun _ _ _ h => h) (Or.inl ⟨by rfl, ?_⟩) (by assumption) ?_
                    rotate_left 1
                    focus (intro w hSw; (try dsimp only at hSw); go_simp; first | done | with_reducible rfl)
                    try simp only [Act.put, List.setIfInBounds_toArray, List.set_cons_zero, List.set_cons_succ]
                    refine wpAnyH_take (i := 8) (v := ?_) (List.getElem?_toArray.trans rfl) (by kernel_rfl) (by kernel_rfl) (by kernel_rfl) (fun _ _ _ h => h) (Or.inl ⟨by rfl, ?_⟩) (by assumption) ?_
                    rotate_left 1
                    focus (intro w hSw; (try dsimp only at hSw); go_simp; first | done | with_reducible rfl)
                    try simp only [Act.put, List.setIfInBounds_toArray, List.set_cons_zero, List.set_cons_succ]
                    refine wpAnyH_take (i := 10) (v := ?_) (List.getElem?_toArray.trans rfl) (by kernel_rfl) (by kernel_rfl) (by kernel_rfl) (fun _ _ _ h => h) (Or.inl ⟨by rfl, ?_⟩) (by assumption) ?_
                    rotate_left 1
                    focus (intro w hSw; (try dsimp only at hSw); go_simp; first | done | with_reducible rfl)
                    try simp only [Act.put, List.setIfInBounds_toArray, List.set_cons_zero, List.set_cons_succ]
                    refine wpAnyH_ready (rs := [9, 11]) (by kernel_rfl) (by simp) (AllReadyH.cons (List.getElem?_toArray.trans rfl) (fun K hK => ?_) (AllReadyH.cons (List.getElem?_toArray.trans rfl) (fun K hK => ?_) AllReadyH.nil))
                    · go_simp
                      refine hK.out _ _ ?_ (fun hHeld => ?_)
                      focus ((try dsimp only); ((refine ⟨cell_of (cs := #[.string a0, .int .i64 a1, .string a2, .int .i64 (lv : Int), .int .i64 a4, .int .i64 a5, .int .i64 a6]) (t := 51) (fr := (0, 0)) ?_ rfl, cell_of (cs := #[.string a0, .int .i64 a1, .string a2, .int .i64 (lv : Int), .int .i64 a4, .int .i64 a5, .int .i64 a6]) (t := 51) (fr := (0, 0)) ?_ rfl, cell_of (cs := #[.string a0, .int .i64 a1, .string a2, .int .i64 (lv : Int), .int .i64 a4, .int .i64 a5, .int .i64 a6]) (t := 51) (fr := (0, 0)) ?_ rfl, cell_of (cs := #[.string a0, .int .i64 a1, .string a2, .int .i64 (lv : Int), .int .i64 a4, .int .i64 a5, .int .i64 a6]) (t := 51) (fr := (0, 0)) ?_ rfl, cell_of (cs := #[.string a0, .int .i64 a1, .string a2, .int .i64 (lv : Int), .int .i64 a4, .int .i64 a5, .int .i64 a6]) (t := 51) (fr := (0, 0)) ?_ rfl, cell_of (cs := #[.string a0, .int .i64 a1, .string a2, .int .i64 (lv : Int), .int .i64 a4, .int .i64 a5, .int .i64 a6]) (t := 51) (fr := (0, 0)) ?_ rfl, cell_of (cs := #[.string a0, .int .i64 a1, .string a2, .int .i64 (lv : Int), .int .i64 a4, .int .i64 a5, .int .i64 a6]) (t := 51) (fr := (0, 0)) ?_ rfl⟩ <;> ((repeat (first | with_reducible exact hx2 | with_reducible exact hx5 | with_reducible refine G_drew ?_ | with_reducible refine G_ext ?_ | with_reducible refine G_alloc ?_ | with_reducible refine G_setO hGx ?_)); done))))
                      clear hK K
                      try simp only [Act.put, List.setIfInBounds_toArray, List.set_cons_zero, List.set_cons_succ]
                      refine wpAnyH_ready (rs := [11]) (by kernel_rfl) (by simp) (AllReadyH.cons (List.getElem?_toArray.trans rfl) (fun K hK => ?_) AllReadyH.nil)
                      go_simp
                      refine hK.out _ _ ?_ (fun hHeld => ?_)
                      focus ((try dsimp only); ((refine ⟨cell_of (cs := #[.string a0, .int .i64 a1, .string a2, .int .i64 (lv : Int), .int .i64 a4, .int .i64 a5, .int .i64 a6]) (t := 51) (fr := (0, 0)) ?_ rfl, cell_of (cs := #[.string a0, .int .i64 a1, .string a2, .int .i64 (lv : Int), .int .i64 a4, .int .i64 a5, .int .i64 a6]) (t := 51) (fr := (0, 0)) ?_ rfl, cell_of (cs := #[.string a0, .int .i64 a1, .string a2, .int .i64 (lv : Int), .int .i64 a4, .int .i64 a5, .int .i64 a6]) (t := 51) (fr := (0, 0)) ?_ rfl, cell_of (cs := #[.string a0, .int .i64 a1, .string a2, .int .i64 (lv : Int), .int .i64 a4, .int .i64 a5, .int .i64 a6]) (t := 51) (fr := (0, 0)) ?_ rfl, cell_of (cs := #[.string a0, .int .i64 a1, .string a2, .int .i64 (lv : Int), .int .i64 a4, .int .i64 a5, .int .i64 a6]) (t := 51) (fr := (0, 0)) ?_ rfl, cell_of (cs := #[.string a0, .int .i64 a1, .string a2, .int .i64 (lv : Int), .int .i64 a4, .int .i64 a5, .int .i64 a6]) (t := 51) (fr := (0, 0)) ?_ rfl, cell_of (cs := #[.string a0, .int .i64 a1, .string a2, .int .i64 (lv : Int), .int .i64 a4, .int .i64 a5, .int .i64 a6]) (t := 51) (fr := (0, 0)) ?_ rfl⟩ <;> ((repeat (first | with_reducible exact hx2 | with_reducible exact hx5 | with_reducible refine G_drew ?_ | with_reducible refine G_ext ?_ | with_reducible refine G_alloc ?_ | with_reducible refine G_setO hGx ?_)); done))))
                      clear hK K
                      try simp only [Act.put, List.setIfInBounds_toArray, List.set_cons_zero, List.set_cons_succ]
                      refine wpAnyH_ready (rs := [12]) (by kernel_rfl) (by simp) (AllReadyH.cons (List.getElem?_toArray.trans rfl) (fun K hK => ?_) AllReadyH.nil)
                      (refine step_append_sl rfl _ _ rfl elStay stay_len stay_one rfl (base := G) (n := us.length) (m := 1) (v := .slice ub us.length uc2) (xs := us.flatMap Stay.cells) ?q1 rfl (ys := [⟨⟨a0, a1, a2, (lv : Int), a4, a5⟩, a6⟩]) rfl ?q2 ?q3 ?q4 ?q5 ?_
                       case q1 => repeat (first | with_reducible exact hrow | with_reducible refine own_ext ?_ _ | with_reducible refine own_alloc ?_ _ | with_reducible refine own_drew ?_)
                       case q2 => (refine sl_stay (t := 51) (fr := (0, 0)) (x := ⟨⟨a0, a1, a2, (lv : Int), a4, a5⟩, a6⟩) ?_; (repeat (first | with_reducible exact G_new _ _ _ (by simp) | with_reducible exact G_new _ _ _ (by simp [ext_size]) | with_reducible refine G_drew ?_ | with_reducible refine G_ext ?_ | with_reducible refine G_alloc ?_)))
                       case q3 => simp [maxLen]; omega
                       case q4 => omega
                       case q5 => (first | omega | (simp; done) | (simp; omega) | (simp [ext_size]; done) | (simp [ext_size]; omega))
                       intro v2 w2 h2 g2 o2
                       have h3 : w2.ownsRow G 51 7 v2 (us ++ [(⟨⟨a0, a1, a2, (lv : Int), a4, a5⟩, a6⟩ : Stay)]).length ((us ++ [(⟨⟨a0, a1, a2, (lv : Int), a4, a5⟩, a6⟩ : Stay)]).flatMap Stay.cells) := by simpa using h2
                       obtain ⟨V2, c2', rfl, _, _⟩ := own_sl stay_len h3
                       clear h2
                       have hb2 := (g2.block G (by (first | omega | (simp; done) | (simp; omega) | (simp [ext_size]; done) | (simp [ext_size]; omega))) hneG).trans (by repeat (first | with_reducible exact hR5.blk | with_reducible refine G_drew ?_ | with_reducible refine G_ext ?_ | with_reducible refine G_alloc ?_) : _ = some (.cells vs.toArray 43 (0, 0)))
                       have hf2 : w2.frozen? ⟨G, lv, none⟩ = false := by simp [World.frozen?, hb2]
                       have hx2 : w2.heap[B]? = some (.cells #[.string a0, .int .i64 a1, .string a2, .int .i64 (lv : Int), .int .i64 a4, .int .i64 a5, .int .i64 a6] 51 (0, 0)) := by
                         refine (g2.block B (by (first | omega | (simp; done) | (simp; omega) | (simp [ext_size]; done) | (simp [ext_size]; omega))) hneX).trans ?_
                         repeat (first | with_reducible exact hx5 | with_reducible refine G_drew ?_ | with_reducible refine G_ext ?_ | with_reducible refine G_alloc ?_)
                       have y3 : w2.cell? ⟨B, 3, none⟩ = some (.int .i64 (lv : Int)) := by simp [World.cell?, hx2]
                       have hcc : w2.cell? ⟨G, lv, none⟩ = some (.slice ub us.length uc2) := by simp [World.cell?, hb2, HV.out])
                      refine hK.out _ _ ?_ (fun hHeld => ?_)
                      focus ((try dsimp only); ((refine ⟨cell_of (cs := #[.string a0, .int .i64 a1, .string a2, .int .i64 (lv : Int), .int .i64 a4, .int .i64 a5, .int .i64 a6]) (t := 51) (fr := (0, 0)) ?_ rfl, cell_of (cs := #[.string a0, .int .i64 a1, .string a2, .int .i64 (lv : Int), .int .i64 a4, .int .i64 a5, .int .i64 a6]) (t := 51) (fr := (0, 0)) ?_ rfl, cell_of (cs := #[.string a0, .int .i64 a1, .string a2, .int .i64 (lv : Int), .int .i64 a4, .int .i64 a5, .int .i64 a6]) (t := 51) (fr := (0, 0)) ?_ rfl, cell_of (cs := #[.string a0, .int .i64 a1, .string a2, .int .i64 (lv : Int), .int .i64 a4, .int .i64 a5, .int .i64 a6]) (t := 51) (fr := (0, 0)) ?_ rfl, cell_of (cs := #[.string a0, .int .i64 a1, .string a2, .int .i64 (lv : Int), .int .i64 a4, .int .i64 a5, .int .i64 a6]) (t := 51) (fr := (0, 0)) ?_ rfl, cell_of (cs := #[.string a0, .int .i64 a1, .string a2, .int .i64 (lv : Int), .int .i64 a4, .int .i64 a5, .int .i64 a6]) (t := 51) (fr := (0, 0)) ?_ rfl, cell_of (cs := #[.string a0, .int .i64 a1, .string a2, .int .i64 (lv : Int), .int .i64 a4, .int .i64 a5, .int .i64 a6]) (t := 51) (fr := (0, 0)) ?_ rfl⟩ <;> ((repeat (first | with_reducible exact hx2 | with_reducible exact hx5 | with_reducible refine G_drew ?_ | with_reducible refine G_ext ?_ | with_reducible refine G_alloc ?_ | with_reducible refine G_setO hGx ?_)); done))))
                      clear hK K
                      try simp only [Act.put, List.setIfInBounds_toArray, List.set_cons_zero, List.set_cons_succ]
                      refine wpAnyH_take (i := 13) (v := ?_) (List.getElem?_toArray.trans rfl) (by kernel_rfl) (by kernel_rfl) (by kernel_rfl) (fun _ _ _ h => h) (Or.inl ⟨by rfl, ?_⟩) (by assumption) ?_
                      rotate_left 1
                      focus (intro w hSw; (try dsimp only at hSw); go_simp; first | done | with_reducible rfl)
                      try simp only [Act.put, List.setIfInBounds_toArray, List.set_cons_zero, List.set_cons_succ]
                      refine wpAnyH_ready (rs := [14]) (by kernel_rfl) (by simp) (AllReadyH.cons (List.getElem?_toArray.trans rfl) (fun K hK => ?_) AllReadyH.nil)
                      go_simp
                      refine hK.out _ _ ?_ (fun hHeld => ?_)
                      focus ((try dsimp only); ((refine ⟨cell_of (cs := #[.string a0, .int .i64 a1, .string a2, .int .i64 (lv : Int), .int .i64 a4, .int .i64 a5, .int .i64 a6]) (t := 51) (fr := (0, 0)) ?_ rfl, cell_of (cs := #[.string a0, .int .i64 a1, .string a2, .int .i64 (lv : Int), .int .i64 a4, .int .i64 a5, .int .i64 a6]) (t := 51) (fr := (0, 0)) ?_ rfl, cell_of (cs := #[.string a0, .int .i64 a1, .string a2, .int .i64 (lv : Int), .int .i64 a4, .int .i64 a5, .int .i64 a6]) (t := 51) (fr := (0, 0)) ?_ rfl, cell_of (cs := #[.string a0, .int .i64 a1, .string a2, .int .i64 (lv : Int), .int .i64 a4, .int .i64 a5, .int .i64 a6]) (t := 51) (fr := (0, 0)) ?_ rfl, cell_of (cs := #[.string a0, .int .i64 a1, .string a2, .int .i64 (lv : Int), .int .i64 a4, .int .i64 a5, .int .i64 a6]) (t := 51) (fr := (0, 0)) ?_ rfl, cell_of (cs := #[.string a0, .int .i64 a1, .string a2, .int .i64 (lv : Int), .int .i64 a4, .int .i64 a5, .int .i64 a6]) (t := 51) (fr := (0, 0)) ?_ rfl, cell_of (cs := #[.string a0, .int .i64 a1, .string a2, .int .i64 (lv : Int), .int .i64 a4, .int .i64 a5, .int .i64 a6]) (t := 51) (fr := (0, 0)) ?_ rfl⟩ <;> ((repeat (first | with_reducible exact hx2 | with_reducible exact hx5 | with_reducible refine G_drew ?_ | with_reducible refine G_ext ?_ | with_reducible refine G_alloc ?_ | with_reducible refine G_setO hGx ?_)); done))))
                      clear hK K
                      try simp only [Act.put, List.setIfInBounds_toArray, List.set_cons_zero, List.set_cons_succ]
                      refine wpAnyH_done (by kernel_rfl) ?_ _
                      have hB2 : Below G W1 w2 := Below.grown (by repeat (first | exact B_refl | exact Below.refl _ _ | assumption | with_reducible refine B_alloc ?_ _ | with_reducible refine B_ext ?_ _ | with_reducible refine B_drew ?_ | with_reducible refine B_drewN ?_ _ | with_reducible refine B_set ?_ (by simp; omega) _)) g2 (by (first | omega | (simp; done) | (simp; omega) | (simp [ext_size]; done) | (simp [ext_size]; omega))) (fun g hg => (hrow.lt g hg).1)
                      have hR2 := RowsAt.put (hR5.keep (n := W5.heap.size) (by repeat (first | exact B_refl | exact Below.refl _ _ | assumption | with_reducible refine B_alloc ?_ _ | with_reducible refine B_ext ?_ _ | with_reducible refine B_drew ?_ | with_reducible refine B_drewN ?_ _ | with_reducible refine B_set ?_ (by simp; omega) _))) HV.out HX.out h3 g2 o2
                      rw [← HLS.out, ← HT.out] at hR2
                      simp only [List.length_append, List.length_cons, List.length_nil, Nat.zero_add] at hR2
                      have hz2 := blk_lt hb2
                      go_wp2_with fail
                      go_roundw
                      case rel => exact ⟨i + 1, _, by omega, by go_num, hR2, B_set hB2 (Nat.le_refl _) _⟩
                      case measure => simp [intOf]; omega
                    · go_simp
                      refine hK.out _ _ ?_ (fun hHeld => ?_)
                      focus ((try dsimp only); ((refine ⟨cell_of (cs := #[.string a0, .int .i64 a1, .string a2, .int .i64 (lv : Int), .int .i64 a4, .int .i64 a5, .int .i64 a6]) (t := 51) (fr := (0, 0)) ?_ rfl, cell_of (cs := #[.string a0, .int .i64 a1, .string a2, .int .i64 (lv : Int), .int .i64 a4, .int .i64 a5, .int .i64 a6]) (t := 51) (fr := (0, 0)) ?_ rfl, cell_of (cs := #[.string a0, .int .i64 a1, .string a2, .int .i64 (lv : Int), .int .i64 a4, .int .i64 a5, .int .i64 a6]) (t := 51) (fr := (0, 0)) ?_ rfl, cell_of (cs := #[.string a0, .int .i64 a1, .string a2, .int .i64 (lv : Int), .int .i64 a4, .int .i64 a5, .int .i64 a6]) (t := 51) (fr := (0, 0)) ?_ rfl, cell_of (cs := #[.string a0, .int .i64 a1, .string a2, .int .i64 (lv : Int), .int .i64 a4, .int .i64 a5, .int .i64 a6]) (t := 51) (fr := (0, 0)) ?_ rfl, cell_of (cs := #[.string a0, .int .i64 a1, .string a2, .int .i64 (lv : Int), .int .i64 a4, .int .i64 a5, .int .i64 a6]) (t := 51) (fr := (0, 0)) ?_ rfl, cell_of (cs := #[.string a0, .int .i64 a1, .string a2, .int .i64 (lv : Int), .int .i64 a4, .int .i64 a5, .int .i64 a6]) (t := 51) (fr := (0, 0)) ?_ rfl⟩ <;> ((repeat (first | with_reducible exact hx2 | with_reducible exact hx5 | with_reducible refine G_drew ?_ | with_reducible refine G_ext ?_ | with_reducible refine G_alloc ?_ | with_reducible refine G_setO hGx ?_)); done))))
                      clear hK K
                      try simp only [Act.put, List.setIfInBounds_toArray, List.set_cons_zero, List.set_cons_succ]
                      refine wpAnyH_ready (rs := [9]) (by kernel_rfl) (by simp) (AllReadyH.cons (List.getElem?_toArray.trans rfl) (fun K hK => ?_) AllReadyH.nil)
                      go_simp
                      refine hK.out _ _ ?_ (fun hHeld => ?_)
                      focus ((try dsimp only); ((refine ⟨cell_of (cs := #[.string a0, .int .i64 a1, .string a2, .int .i64 (lv : Int), .int .i64 a4, .int .i64 a5, .int .i64 a6]) (t := 51) (fr := (0, 0)) ?_ rfl, cell_of (cs := #[.string a0, .int .i64 a1, .string a2, .int .i64 (lv : Int), .int .i64 a4, .int .i64 a5, .int .i64 a6]) (t := 51) (fr := (0, 0)) ?_ rfl, cell_of (cs := #[.string a0, .int .i64 a1, .string a2, .int .i64 (lv : Int), .int .i64 a4, .int .i64 a5, .int .i64 a6]) (t := 51) (fr := (0, 0)) ?_ rfl, cell_of (cs := #[.string a0, .int .i64 a1, .string a2, .int .i64 (lv : Int), .int .i64 a4, .int .i64 a5, .int .i64 a6]) (t := 51) (fr := (0, 0)) ?_ rfl, cell_of (cs := #[.string a0, .int .i64 a1, .string a2, .int .i64 (lv : Int), .int .i64 a4, .int .i64 a5, .int .i64 a6]) (t := 51) (fr := (0, 0)) ?_ rfl, cell_of (cs := #[.string a0, .int .i64 a1, .string a2, .int .i64 (lv : Int), .int .i64 a4, .int .i64 a5, .int .i64 a6]) (t := 51) (fr := (0, 0)) ?_ rfl, cell_of (cs := #[.string a0, .int .i64 a1, .string a2, .int .i64 (lv : Int), .int .i64 a4, .int .i64 a5, .int .i64 a6]) (t := 51) (fr := (0, 0)) ?_ rfl⟩ <;> ((repeat (first | with_reducible exact hx2 | with_reducible exact hx5 | with_reducible refine G_drew ?_ | with_reducible refine G_ext ?_ | with_reducible refine G_alloc ?_ | with_reducible refine G_setO hGx ?_)); done))))
                      clear hK K
                      try simp only [Act.put, List.setIfInBounds_toArray, List.set_cons_zero, List.set_cons_succ]
                      refine wpAnyH_ready (rs := [12]) (by kernel_rfl) (by simp) (AllReadyH.cons (List.getElem?_toArray.trans rfl) (fun K hK => ?_) AllReadyH.nil)
                      (refine step_append_sl rfl _ _ rfl elStay stay_len stay_one rfl (base := G) (n := us.length) (m := 1) (v := .slice ub us.length uc2) (xs := us.flatMap Stay.cells) ?q1 rfl (ys := [⟨⟨a0, a1, a2, (lv : Int), a4, a5⟩, a6⟩]) rfl ?q2 ?q3 ?q4 ?q5 ?_
                       case q1 => repeat (first | with_reducible exact hrow | with_reducible refine own_ext ?_ _ | with_reducible refine own_alloc ?_ _ | with_reducible refine own_drew ?_)
                       case q2 => (refine sl_stay (t := 51) (fr := (0, 0)) (x := ⟨⟨a0, a1, a2, (lv : Int), a4, a5⟩, a6⟩) ?_; (repeat (first | with_reducible exact G_new _ _ _ (by simp) | with_reducible exact G_new _ _ _ (by simp [ext_size]) | with_reducible refine G_drew ?_ | with_reducible refine G_ext ?_ | with_reducible refine G_alloc ?_)))
                       case q3 => simp [maxLen]; omega
                       case q4 => omega
                       case q5 => (first | omega | (simp; done) | (simp; omega) | (simp [ext_size]; done) | (simp [ext_size]; omega))
                       intro v2 w2 h2 g2 o2
                       have h3 : w2.ownsRow G 51 7 v2 (us ++ [(⟨⟨a0, a1, a2, (lv : Int), a4, a5⟩, a6⟩ : Stay)]).length ((us ++ [(⟨⟨a0, a1, a2, (lv : Int), a4, a5⟩, a6⟩ : Stay)]).flatMap Stay.cells) := by simpa using h2
                       obtain ⟨V2, c2', rfl, _, _⟩ := own_sl stay_len h3
                       clear h2
                       have hb2 := (g2.block G (by (first | omega | (simp; done) | (simp; omega) | (simp [ext_size]; done) | (simp [ext_size]; omega))) hneG).trans (by repeat (first | with_reducible exact hR5.blk | with_reducible refine G_drew ?_ | with_reducible refine G_ext ?_ | with_reducible refine G_alloc ?_) : _ = some (.cells vs.toArray 43 (0, 0)))
                       have hf2 : w2.frozen? ⟨G, lv, none⟩ = false := by simp [World.frozen?, hb2]
                       have hx2 : w2.heap[B]? = some (.cells #[.string a0, .int .i64 a1, .string a2, .int .i64 (lv : Int), .int .i64 a4, .int .i64 a5, .int .i64 a6] 51 (0, 0)) := by
                         refine (g2.block B (by (first | omega | (simp; done) | (simp; omega) | (simp [ext_size]; done) | (simp [ext_size]; omega))) hneX).trans ?_
                         repeat (first | with_reducible exact hx5 | with_reducible refine G_drew ?_ | with_reducible refine G_ext ?_ | with_reducible refine G_alloc ?_)
                       have y3 : w2.cell? ⟨B, 3, none⟩ = some (.int .i64 (lv : Int)) := by simp [World.cell?, hx2]
                       have hcc : w2.cell? ⟨G, lv, none⟩ = some (.slice ub us.length uc2) := by simp [World.cell?, hb2, HV.out])
                      refine hK.out _ _ ?_ (fun hHeld => ?_)
                      focus ((try dsimp only); ((refine ⟨cell_of (cs := #[.string a0, .int .i64 a1, .string a2, .int .i64 (lv : Int), .int .i64 a4, .int .i64 a5, .int .i64 a6]) (t := 51) (fr := (0, 0)) ?_ rfl, cell_of (cs := #[.string a0, .int .i64 a1, .string a2, .int .i64 (lv : Int), .int .i64 a4, .int .i64 a5, .int .i64 a6]) (t := 51) (fr := (0, 0)) ?_ rfl, cell_of (cs := #[.string a0, .int .i64 a1, .string a2, .int .i64 (lv : Int), .int .i64 a4, .int .i64 a5, .int .i64 a6]) (t := 51) (fr := (0, 0)) ?_ rfl, cell_of (cs := #[.string a0, .int .i64 a1, .string a2, .int .i64 (lv : Int), .int .i64 a4, .int .i64 a5, .int .i64 a6]) (t := 51) (fr := (0, 0)) ?_ rfl, cell_of (cs := #[.string a0, .int .i64 a1, .string a2, .int .i64 (lv : Int), .int .i64 a4, .int .i64 a5, .int .i64 a6]) (t := 51) (fr := (0, 0)) ?_ rfl, cell_of (cs := #[.string a0, .int .i64 a1, .string a2, .int .i64 (lv : Int), .int .i64 a4, .int .i64 a5, .int .i64 a6]) (t := 51) (fr := (0, 0)) ?_ rfl, cell_of (cs := #[.string a0, .int .i64 a1, .string a2, .int .i64 (lv : Int), .int .i64 a4, .int .i64 a5, .int .i64 a6]) (t := 51) (fr := (0, 0)) ?_ rfl⟩ <;> ((repeat (first | with_reducible exact hx2 | with_reducible exact hx5 | with_reducible refine G_drew ?_ | with_reducible refine G_ext ?_ | with_reducible refine G_alloc ?_ | with_reducible refine G_setO hGx ?_)); done))))
                      clear hK K
                      try simp only [Act.put, List.setIfInBounds_toArray, List.set_cons_zero, List.set_cons_succ]
                      refine wpAnyH_take (i := 13) (v := ?_) (List.getElem?_toArray.trans rfl) (by kernel_rfl) (by kernel_rfl) (by kernel_rfl) (fun _ _ _ h => h) (Or.inl ⟨by rfl, ?_⟩) (by assumption) ?_
                      rotate_left 1
                      focus (intro w hSw; (try dsimp only at hSw); go_simp; first | done | with_reducible rfl)
                      try simp only [Act.put, List.setIfInBounds_toArray, List.set_cons_zero, List.set_cons_succ]
                      refine wpAnyH_ready (rs := [14]) (by kernel_rfl) (by simp) (AllReadyH.cons (List.getElem?_toArray.trans rfl) (fun K hK => ?_) AllReadyH.nil)
                      go_simp
                      refine hK.out _ _ ?_ (fun hHeld => ?_)
                      focus ((try dsimp only); ((refine ⟨cell_of (cs := #[.string a0, .int .i64 a1, .string a2, .int .i64 (lv : Int), .int .i64 a4, .int .i64 a5, .int .i64 a6]) (t := 51) (fr := (0, 0)) ?_ rfl, cell_of (cs := #[.string a0, .int .i64 a1, .string a2, .int .i64 (lv : Int), .int .i64 a4, .int .i64 a5, .int .i64 a6]) (t := 51) (fr := (0, 0)) ?_ rfl, cell_of (cs := #[.string a0, .int .i64 a1, .string a2, .int .i64 (lv : Int), .int .i64 a4, .int .i64 a5, .int .i64 a6]) (t := 51) (fr := (0, 0)) ?_ rfl, cell_of (cs := #[.string a0, .int .i64 a1, .string a2, .int .i64 (lv : Int), .int .i64 a4, .int .i64 a5, .int .i64 a6]) (t := 51) (fr := (0, 0)) ?_ rfl, cell_of (cs := #[.string a0, .int .i64 a1, .string a2, .int .i64 (lv : Int), .int .i64 a4, .int .i64 a5, .int .i64 a6]) (t := 51) (fr := (0, 0)) ?_ rfl, cell_of (cs := #[.string a0, .int .i64 a1, .string a2, .int .i64 (lv : Int), .int .i64 a4, .int .i64 a5, .int .i64 a6]) (t := 51) (fr := (0, 0)) ?_ rfl, cell_of (cs := #[.string a0, .int .i64 a1, .string a2, .int .i64 (lv : Int), .int .i64 a4, .int .i64 a5, .int .i64 a6]) (t := 51) (fr := (0, 0)) ?_ rfl⟩ <;> ((repeat (first | with_reducible exact hx2 | with_reducible exact hx5 | with_reducible refine G_drew ?_ | with_reducible refine G_ext ?_ | with_reducible refine G_alloc ?_ | with_reducible refine G_setO hGx ?_)); done))))
                      clear hK K
                      try simp only [Act.put, List.setIfInBounds_toArray, List.set_cons_zero, List.set_cons_succ]
                      refine wpAnyH_done (by kernel_rfl) ?_ _
                      have hB2 : Below G W1 w2 := Below.grown (by repeat (first | exact B_refl | exact Below.refl _ _ | assumption | with_reducible refine B_alloc ?_ _ | with_reducible refine B_ext ?_ _ | with_reducible refine B_drew ?_ | with_reducible refine B_drewN ?_ _ | with_reducible refine B_set ?_ (by simp; omega) _)) g2 (by (first | omega | (simp; done) | (simp; omega) | (simp [ext_size]; done) | (simp [ext_size]; omega))) (fun g hg => (hrow.lt g hg).1)
                      have hR2 := RowsAt.put (hR5.keep (n := W5.heap.size) (by repeat (first | exact B_refl | exact Below.refl _ _ | assumption | with_reducible refine B_alloc ?_ _ | with_reducible refine B_ext ?_ _ | with_reducible refine B_drew ?_ | with_reducible refine B_drewN ?_ _ | with_reducible refine B_set ?_ (by simp; omega) _))) HV.out HX.out h3 g2 o2
                      rw [← HLS.out, ← HT.out] at hR2
                      simp only [List.length_append, List.length_cons, List.length_nil, Nat.zero_add] at hR2
                      have hz2 := blk_lt hb2
                      go_wp2_with fail
                      go_roundw
                      case rel => exact ⟨i + 1, _, by omega, by go_num, hR2, B_set hB2 (Nat.le_refl _) _⟩
                      case measure => simp [intOf]; omega
              · go_simp
                refine hK.out _ _ ?_ (fun hHeld => ?_)
                focus ((try dsimp only); ((refine ⟨cell_kept jz k0 ?_, cell_kept jz k1 ?_, cell_kept jz k2 ?_, cell_kept jz k3 ?_, cell_kept jz k4 ?_, cell_kept hbb3 x4 ?_⟩ <;> ((repeat (first | exact B_refl | exact Below.refl _ _ | assumption | with_reducible refine B_alloc ?_ _ | with_reducible refine B_ext ?_ _ | with_reducible refine B_drew ?_ | with_reducible refine B_drewN ?_ _ | with_reducible refine B_set ?_ (by simp; omega) _)); done))))
                clear hK K
                try simp only [Act.put, List.setIfInBounds_toArray, List.set_cons_zero, List.set_cons_succ]
                refine wpAnyH_ready (rs := [10]) (by kernel_rfl) (by simp) (AllReadyH.cons (List.getElem?_toArray.trans rfl) (fun K hK => ?_) AllReadyH.nil)
                go_simp
                refine hK.out _ _ ?_ (fun hHeld => ?_)
                focus ((try dsimp only); ((refine ⟨cell_kept jz k0 ?_, cell_kept jz k1 ?_, cell_kept jz k2 ?_, cell_kept jz k3 ?_, cell_kept jz k4 ?_, cell_kept hbb3 x4 ?_⟩ <;> ((repeat (first | exact B_refl | exact Below.refl _ _ | assumption | with_reducible refine B_alloc ?_ _ | with_reducible refine B_ext ?_ _ | with_reducible refine B_drew ?_ | with_reducible refine B_drewN ?_ _ | with_reducible refine B_set ?_ (by simp; omega) _)); done))))
                clear hK K
                try simp only [Act.put, List.setIfInBounds_toArray, List.set_cons_zero, List.set_cons_succ]
                refine wpAnyH_ready (rs := [12]) (by kernel_rfl) (by simp) (AllReadyH.cons (List.getElem?_toArray.trans rfl) (fun K hK => ?_) AllReadyH.nil)
                go_simp
                refine hK.out _ _ ?_ (fun hHeld => ?_)
                focus ((try dsimp only); ((refine ⟨cell_kept jz k0 ?_, cell_kept jz k1 ?_, cell_kept jz k2 ?_, cell_kept jz k3 ?_, cell_kept jz k4 ?_, cell_kept hbb3 x4 ?_⟩ <;> ((repeat (first | exact B_refl | exact Below.refl _ _ | assumption | with_reducible refine B_alloc ?_ _ | with_reducible refine B_ext ?_ _ | with_reducible refine B_drew ?_ | with_reducible refine B_drewN ?_ _ | with_reducible refine B_set ?_ (by simp; omega) _)); done))))
                clear hK K
                try simp only [Act.put, List.setIfInBounds_toArray, List.set_cons_zero, List.set_cons_succ]
                refine wpAnyH_done (by kernel_rfl) ?_ _
                have hx5 : (World.alloc wq (.cells #[.string a0, .int .i64 a1, .string a2, .int .i64 a3, .int .i64 a4, .int .i64 a5, .int .i64 a6] 51)).heap[wq.heap.size]? = some (.cells #[.string a0, .int .i64 a1, .string a2, .int .i64 a3, .int .i64 a4, .int .i64 a5, .int .i64 a6] 51 (0, 0)) := heap_alloc_new _ _
                have hB35 : Below W3.heap.size W3 (World.alloc wq (.cells #[.string a0, .int .i64 a1, .string a2, .int .i64 a3, .int .i64 a4, .int .i64 a5, .int .i64 a6] 51)) := by repeat (first | exact B_refl | exact Below.refl _ _ | assumption | with_reducible refine B_alloc ?_ _ | with_reducible refine B_ext ?_ _ | with_reducible refine B_drew ?_ | with_reducible refine B_drewN ?_ _ | with_reducible refine B_set ?_ (by simp; omega) _)
                have hs34 := hB34.size
                clear hHeld
                generalize World.alloc wq (.cells #[.string a0, .int .i64 a1, .string a2, .int .i64 a3, .int .i64 a4, .int .i64 a5, .int .i64 a6] 51) = W5 at *
                generalize wq.heap.size = B at *
                have hGx : ¬ B = G := by have := blk_lt hR3.blk; omega
                have hGx2 : ¬ G = B := by have := blk_lt hR3.blk; omega
                have hB3B : W3.heap.size ≤ B := hs34
                have hB5 : Below G W1 W5 := hB3.trans (hB35.mono (by have := blk_lt hR3.blk; omega))
                have hR5 := hR3.keep (n := W3.heap.size) hB35
                have hGr5 := blk_lt hR5.blk
                have hbz := blk_lt hx5
                have y2 : W5.cell? ⟨B, 2, none⟩ = some (.string a2) := by simp [World.cell?, hx5]
                have hxl := (List.getElem?_eq_some_iff.1 HSX.out).1
                have HT := Lib.hid (show ST.take (i + 1) = ST.take i ++ [⟨⟨a0, a1, a2, a3, a4, a5⟩, a6⟩] by rw [List.take_succ_eq_append_getElem hxl, (List.getElem?_eq_some_iff.1 HSX.out).2])
                have hpj := HM2.out _ (List.mem_of_getElem? HSX.out)
                have HPJ := Lib.hid hpj
                have hsl9 : (ST.take i).length ≤ 1000 := by
                  have := List.length_take_le i ST
                  omega
                clear hpj hxl
                generalize hsjd : ST.take i = sj at *
                clear hsjd
                cases hh : (a2.toList == nm.toList)
                · have HF := Lib.hid hh
                  go_wp2_with fail
                  go_roundw
                  case rel => exact ⟨i + 1, vs, by omega, by go_num, by rw [HT.out, levels_snoc_other HF.out]; exact hR5, hB5⟩
                  case measure => simp [intOf]; omega
                · have hpl : 0 ≤ a3 ∧ a3 < (N : Int) := by
                    rcases HPJ.out with ⟨h1, _⟩ | ⟨_, s', h3, h4, h5⟩
                    · exact absurd ((bytes_ext (eq_of_beq hh)).symm.trans h1) HNM.out
                    · have h6 : a2 = nm := bytes_ext (eq_of_beq hh)
                      rw [h6, HS.out] at h3
                      cases h3
                      exact ⟨h4, h5⟩
                  obtain ⟨hf2', hf3⟩ := hpl
                  obtain ⟨lv, rfl⟩ : ∃ lv : Nat, a3 = (lv : Int) := ⟨a3.toNat, by omega⟩
                  have hlN : lv < N := by omega
                  have HF1 := Lib.hid hh
                  have hll : lv < (levelsP nm N sj).length := by rw [levels_len]; exact hlN
                  obtain ⟨ub, uc2, hv, hvc, hvS⟩ := hR5.at hll
                  have hx : (levelsP nm N sj)[lv]? = some (sj.filter fun s => s.lot.site.toList == nm.toList && s.lot.level == (lv : Int)) := levels_at hlN
                  have hrow := hR5.rows lv _ _ hv hx
                  have hge := (List.getElem?_eq_some_iff.1 hx).2
                  rw [hge] at hv hvc hvS hrow
                  have hxl : (sj.filter fun s => s.lot.site.toList == nm.toList && s.lot.level == (lv : Int)).length ≤ 1000 := Nat.le_trans (List.length_filter_le _ _) hsl9
                  have HV := Lib.hid hv
                  have HX := Lib.hid hx
                  have HLS : Hid (levelsP nm N (sj ++ [⟨⟨a0, a1, a2, (lv : Int), a4, a5⟩, a6⟩]) = (levelsP nm N sj).set lv ((sj.filter fun s => s.lot.site.toList == nm.toList && s.lot.level == (lv : Int)) ++ [⟨⟨a0, a1, a2, (lv : Int), a4, a5⟩, a6⟩])) := levels_snoc HF1.out rfl hlN
                  clear hv hx hge hll hvS hf2' hf3
                  generalize (sj.filter fun s => s.lot.site.toList == nm.toList && s.lot.level == (lv : Int)) = us at *
                  have hlN2 : (lv : Int) < (N : Int) := by omega
                  have hlv0 : (0 : Int) ≤ (lv : Int) := by omega
                  have hneG : some G ≠ (Value.slice ub us.length uc2).ownBlock := own_ne hrow hR5.blk (by decide)
                  have hrow3 : ∀ k, (Value.slice ub us.length uc2).ownBlock = some k → k < W3.heap.size := by
                    have hi2 : lv < (levelsP nm N sj).length := by rw [levels_len]; exact hlN
                    have h8 := hR3.rows lv _ _ HV.out (List.getElem?_eq_getElem hi2)
                    exact fun k hk => (h8.lt k hk).2
                  have hneX : some B ≠ (Value.slice ub us.length uc2).ownBlock := fun e => by
                    have := hrow3 _ e.symm
                    omega
                  go_wp2_with fail
                  refine wp_region_held_drew (S := (fun w' => w'.cell? ⟨B, 0, none⟩ = some (.string a0) ∧ w'.cell? ⟨B, 1, none⟩ = some (.int .i64 a1) ∧ w'.cell? ⟨B, 2, none⟩ = some (.string a2) ∧ w'.cell? ⟨B, 3, none⟩ = some (.int .i64 (lv : Int)) ∧ w'.cell? ⟨B, 4, none⟩ = some (.int .i64 a4) ∧ w'.cell? ⟨B, 5, none⟩ = some (.int .i64 a5) ∧ w'.cell? ⟨B, 6, none⟩ = some (.int .i64 a6))) (by kernel_rfl) ?hS ?hrest
                  case hS => ((try dsimp only); ((refine ⟨cell_of (cs := #[.string a0, .int .i64 a1, .string a2, .int .i64 (lv : Int), .int .i64 a4, .int .i64 a5, .int .i64 a6]) (t := 51) (fr := (0, 0)) ?_ rfl, cell_of (cs := #[.string a0, .int .i64 a1, .string a2, .int .i64 (lv : Int), .int .i64 a4, .int .i64 a5, .int .i64 a6]) (t := 51) (fr := (0, 0)) ?_ rfl, cell_of (cs := #[.string a0, .int .i64 a1, .string a2, .int .i64 (lv : Int), .int .i64 a4, .int .i64 a5, .int .i64 a6]) (t := 51) (fr := (0, 0)) ?_ rfl, cell_of (cs := #[.string a0, .int .i64 a1, .string a2, .int .i64 (lv : Int), .int .i64 a4, .int .i64 a5, .int .i64 a6]) (t := 51) (fr := (0, 0)) ?_ rfl, cell_of (cs := #[.string a0, .int .i64 a1, .string a2, .int .i64 (lv : Int), .int .i64 a4, .int .i64 a5, .int .i64 a6]) (t := 51) (fr := (0, 0)) ?_ rfl, cell_of (cs := #[.string a0, .int .i64 a1, .string a2, .int .i64 (lv : Int), .int .i64 a4, .int .i64 a5, .int .i64 a6]) (t := 51) (fr := (0, 0)) ?_ rfl, cell_of (cs := #[.string a0, .int .i64 a1, .string a2, .int .i64 (lv : Int), .int .i64 a4, .int .i64 a5, .int .i64 a6]) (t := 51) (fr := (0, 0)) ?_ rfl⟩ <;> ((repeat (first | with_reducible exact hx2 | with_reducible exact hx5 | with_reducible refine G_drew ?_ | with_reducible refine G_ext ?_ | with_reducible refine G_alloc ?_ | with_reducible refine G_setO hGx ?_)); done))))
                  case hrest =>
                    intro hHeld
                    refine wpAnyH_take (i := 0) (v := ?_) (List.getElem?_toArray.trans rfl) (by kernel_rfl) (by kernel_rfl) (by kernel_rfl) (fun _ _ _ h => h) (Or.inl ⟨by rfl, ?_⟩) (by assumption) ?_
                    rotate_left 1
                    focus (intro w hSw; (try dsimp only at hSw); go_simp; first | done | with_reducible rfl)
                    try simp only [Act.put, List.setIfInBounds_toArray, List.set_cons_zero, List.set_cons_succ]
                    refine wpAnyH_take (i := 1) (v := ?_) (List.getElem?_toArray.trans rfl) (by kernel_rfl) (by kernel_rfl) (by kernel_rfl) (fun _ _ _ h => h) (Or.inl ⟨by rfl, ?_⟩) (by assumption) ?_
                    rotate_left 1
                    focus (intro w hSw; (try dsimp only at hSw); go_simp; first | done | with_reducible rfl)
                    try simp only [Act.put, List.setIfInBounds_toArray, List.set_cons_zero, List.set_cons_succ]
                    refine wpAnyH_take (i := 2) (v := ?_) (List.getElem?_toArray.trans rfl) (by kernel_rfl) (by kernel_rfl) (by kernel_rfl) (fun _ _ _ h => h) (Or.inl ⟨by rfl, ?_⟩) (by assumption) ?_
                    rotate_left 1
                    focus (intro w hSw; (try dsimp only at hSw); go_simp; first | done | with_reducible rfl)
                    try simp only [Act.put, List.setIfInBounds_toArray, List.set_cons_zero, List.set_cons_succ]
                    refine wpAnyH_take (i := 3) (v := ?_) (List.getElem?_toArray.trans rfl) (by kernel_rfl) (by kernel_rfl) (by kernel_rfl) (fun _ _ _ h => h) (Or.inl ⟨by rfl, ?_⟩) (by assumption) ?_
                    rotate_left 1
                    focus (intro w hSw; (try dsimp only at hSw); go_simp; first | done | with_reducible rfl)
                    try simp only [Act.put, List.setIfInBounds_toArray, List.set_cons_zero, List.set_cons_succ]
                    refine wpAnyH_take (i := 4) (v := ?_) (List.getElem?_toArray.trans rfl) (by kernel_rfl) (by kernel_rfl) (by kernel_rfl) (fun _ _ _ h => h) (Or.inl ⟨by rfl, ?_⟩) (by assumption) ?_
                    rotate_left 1
                    focus (intro w hSw; (try dsimp only at hSw); go_simp; first | done | with_reducible rfl)
                    try simp only [Act.put, List.setIfInBounds_toArray, List.set_cons_zero, List.set_cons_succ]
                    refine wpAnyH_take (i := 5) (v := ?_) (List.getElem?_toArray.trans rfl) (by kernel_rfl) (by kernel_rfl) (by kernel_rfl) (fun _ _ _ h => h) (Or.inl ⟨by rfl, ?_⟩) (by assumption) ?_
                    rotate_left 1
                    focus (intro w hSw; (try dsimp only at hSw); go_simp; first | done | with_reducible rfl)
                    try simp only [Act.put, List.setIfInBounds_toArray, List.set_cons_zero, List.set_cons_succ]
                    refine wpAnyH_take (i := 6) (v := ?_) (List.getElem?_toArray.trans rfl) (by kernel_rfl) (by kernel_rfl) (by kernel_rfl) (fun _ _ _ h => h) (Or.inl ⟨by rfl, ?_⟩) (by assumption) ?_
                    rotate_left 1
                    focus (intro w hSw; (try dsimp only at hSw); go_simp; first | done | with_reducible rfl)
                    try simp only [Act.put, List.setIfInBounds_toArray, List.set_cons_zero, List.set_cons_succ]
                    refine wpAnyH_take (i := 7) (v := ?_) (List.getElem?_toArray.trans rfl) (by kernel_rfl) (by kernel_rfl) (by kernel_rfl) (fun _ _ _ h => h) (Or.inl ⟨by rfl, ?_⟩) (by assumption) ?_
                    rotate_left 1
                    focus (intro w hSw; (try dsimp only at hSw); go_simp; first | done | with_reducible rfl)
                    try simp only [Act.put, List.setIfInBounds_toArray, List.set_cons_zero, List.set_cons_succ]
                    refine wpAnyH_take (i := 8) (v := ?_) (List.getElem?_toArray.trans rfl) (by kernel_rfl) (by kernel_rfl) (by kernel_rfl) (fun _ _ _ h => h) (Or.inl ⟨by rfl, ?_⟩) (by assumption) ?_
                    rotate_left 1
                    focus (intro w hSw; (try dsimp only at hSw); go_simp; first | done | with_reducible rfl)
                    try simp only [Act.put, List.setIfInBounds_toArray, List.set_cons_zero, List.set_cons_succ]
                    refine wpAnyH_take (i := 10) (v := ?_) (List.getElem?_toArray.trans rfl) (by kernel_rfl) (by kernel_rfl) (by kernel_rfl) (fun _ _ _ h => h) (Or.inl ⟨by rfl, ?_⟩) (by assumption) ?_
                    rotate_left 1
                    focus (intro w hSw; (try dsimp only at hSw); go_simp; first | done | with_reducible rfl)
                    try simp only [Act.put, List.setIfInBounds_toArray, List.set_cons_zero, List.set_cons_succ]
                    refine wpAnyH_ready (rs := [9, 11]) (by kernel_rfl) (by simp) (AllReadyH.cons (List.getElem?_toArray.trans rfl) (fun K hK => ?_) (AllReadyH.cons (List.getElem?_toArray.trans rfl) (fun K hK => ?_) AllReadyH.nil))
                    · go_simp
                      refine hK.out _ _ ?_ (fun hHeld => ?_)
                      focus ((try dsimp only); ((refine ⟨cell_of (cs := #[.string a0, .int .i64 a1, .string a2, .int .i64 (lv : Int), .int .i64 a4, .int .i64 a5, .int .i64 a6]) (t := 51) (fr := (0, 0)) ?_ rfl, cell_of (cs := #[.string a0, .int .i64 a1, .string a2, .int .i64 (lv : Int), .int .i64 a4, .int .i64 a5, .int .i64 a6]) (t := 51) (fr := (0, 0)) ?_ rfl, cell_of (cs := #[.string a0, .int .i64 a1, .string a2, .int .i64 (lv : Int), .int .i64 a4, .int .i64 a5, .int .i64 a6]) (t := 51) (fr := (0, 0)) ?_ rfl, cell_of (cs := #[.string a0, .int .i64 a1, .string a2, .int .i64 (lv : Int), .int .i64 a4, .int .i64 a5, .int .i64 a6]) (t := 51) (fr := (0, 0)) ?_ rfl, cell_of (cs := #[.string a0, .int .i64 a1, .string a2, .int .i64 (lv : Int), .int .i64 a4, .int .i64 a5, .int .i64 a6]) (t := 51) (fr := (0, 0)) ?_ rfl, cell_of (cs := #[.string a0, .int .i64 a1, .string a2, .int .i64 (lv : Int), .int .i64 a4, .int .i64 a5, .int .i64 a6]) (t := 51) (fr := (0, 0)) ?_ rfl, cell_of (cs := #[.string a0, .int .i64 a1, .string a2, .int .i64 (lv : Int), .int .i64 a4, .int .i64 a5, .int .i64 a6]) (t := 51) (fr := (0, 0)) ?_ rfl⟩ <;> ((repeat (first | with_reducible exact hx2 | with_reducible exact hx5 | with_reducible refine G_drew ?_ | with_reducible refine G_ext ?_ | with_reducible refine G_alloc ?_ | with_reducible refine G_setO hGx ?_)); done))))
                      clear hK K
                      try simp only [Act.put, List.setIfInBounds_toArray, List.set_cons_zero, List.set_cons_succ]
                      refine wpAnyH_ready (rs := [11]) (by kernel_rfl) (by simp) (AllReadyH.cons (List.getElem?_toArray.trans rfl) (fun K hK => ?_) AllReadyH.nil)
                      go_simp
                      refine hK.out _ _ ?_ (fun hHeld => ?_)
                      focus ((try dsimp only); ((refine ⟨cell_of (cs := #[.string a0, .int .i64 a1, .string a2, .int .i64 (lv : Int), .int .i64 a4, .int .i64 a5, .int .i64 a6]) (t := 51) (fr := (0, 0)) ?_ rfl, cell_of (cs := #[.string a0, .int .i64 a1, .string a2, .int .i64 (lv : Int), .int .i64 a4, .int .i64 a5, .int .i64 a6]) (t := 51) (fr := (0, 0)) ?_ rfl, cell_of (cs := #[.string a0, .int .i64 a1, .string a2, .int .i64 (lv : Int), .int .i64 a4, .int .i64 a5, .int .i64 a6]) (t := 51) (fr := (0, 0)) ?_ rfl, cell_of (cs := #[.string a0, .int .i64 a1, .string a2, .int .i64 (lv : Int), .int .i64 a4, .int .i64 a5, .int .i64 a6]) (t := 51) (fr := (0, 0)) ?_ rfl, cell_of (cs := #[.string a0, .int .i64 a1, .string a2, .int .i64 (lv : Int), .int .i64 a4, .int .i64 a5, .int .i64 a6]) (t := 51) (fr := (0, 0)) ?_ rfl, cell_of (cs := #[.string a0, .int .i64 a1, .string a2, .int .i64 (lv : Int), .int .i64 a4, .int .i64 a5, .int .i64 a6]) (t := 51) (fr := (0, 0)) ?_ rfl, cell_of (cs := #[.string a0, .int .i64 a1, .string a2, .int .i64 (lv : Int), .int .i64 a4, .int .i64 a5, .int .i64 a6]) (t := 51) (fr := (0, 0)) ?_ rfl⟩ <;> ((repeat (first | with_reducible exact hx2 | with_reducible exact hx5 | with_reducible refine G_drew ?_ | with_reducible refine G_ext ?_ | with_reducible refine G_alloc ?_ | with_reducible refine G_setO hGx ?_)); done))))
                      clear hK K
                      try simp only [Act.put, List.setIfInBounds_toArray, List.set_cons_zero, List.set_cons_succ]
                      refine wpAnyH_ready (rs := [12]) (by kernel_rfl) (by simp) (AllReadyH.cons (List.getElem?_toArray.trans rfl) (fun K hK => ?_) AllReadyH.nil)
                      (refine step_append_sl rfl _ _ rfl elStay stay_len stay_one rfl (base := G) (n := us.length) (m := 1) (v := .slice ub us.length uc2) (xs := us.flatMap Stay.cells) ?q1 rfl (ys := [⟨⟨a0, a1, a2, (lv : Int), a4, a5⟩, a6⟩]) rfl ?q2 ?q3 ?q4 ?q5 ?_
                       case q1 => repeat (first | with_reducible exact hrow | with_reducible refine own_ext ?_ _ | with_reducible refine own_alloc ?_ _ | with_reducible refine own_drew ?_)
                       case q2 => (refine sl_stay (t := 51) (fr := (0, 0)) (x := ⟨⟨a0, a1, a2, (lv : Int), a4, a5⟩, a6⟩) ?_; (repeat (first | with_reducible exact G_new _ _ _ (by simp) | with_reducible exact G_new _ _ _ (by simp [ext_size]) | with_reducible refine G_drew ?_ | with_reducible refine G_ext ?_ | with_reducible refine G_alloc ?_)))
                       case q3 => simp [maxLen]; omega
                       case q4 => omega
                       case q5 => (first | omega | (simp; done) | (simp; omega) | (simp [ext_size]; done) | (simp [ext_size]; omega))
                       intro v2 w2 h2 g2 o2
                       have h3 : w2.ownsRow G 51 7 v2 (us ++ [(⟨⟨a0, a1, a2, (lv : Int), a4, a5⟩, a6⟩ : Stay)]).length ((us ++ [(⟨⟨a0, a1, a2, (lv : Int), a4, a5⟩, a6⟩ : Stay)]).flatMap Stay.cells) := by simpa using h2
                       obtain ⟨V2, c2', rfl, _, _⟩ := own_sl stay_len h3
                       clear h2
                       have hb2 := (g2.block G (by (first | omega | (simp; done) | (simp; omega) | (simp [ext_size]; done) | (simp [ext_size]; omega))) hneG).trans (by repeat (first | with_reducible exact hR5.blk | with_reducible refine G_drew ?_ | with_reducible refine G_ext ?_ | with_reducible refine G_alloc ?_) : _ = some (.cells vs.toArray 43 (0, 0)))
                       have hf2 : w2.frozen? ⟨G, lv, none⟩ = false := by simp [World.frozen?, hb2]
                       have hx2 : w2.heap[B]? = some (.cells #[.string a0, .int .i64 a1, .string a2, .int .i64 (lv : Int), .int .i64 a4, .int .i64 a5, .int .i64 a6] 51 (0, 0)) := by
                         refine (g2.block B (by (first | omega | (simp; done) | (simp; omega) | (simp [ext_size]; done) | (simp [ext_size]; omega))) hneX).trans ?_
                         repeat (first | with_reducible exact hx5 | with_reducible refine G_drew ?_ | with_reducible refine G_ext ?_ | with_reducible refine G_alloc ?_)
                       have y3 : w2.cell? ⟨B, 3, none⟩ = some (.int .i64 (lv : Int)) := by simp [World.cell?, hx2]
                       have hcc : w2.cell? ⟨G, lv, none⟩ = some (.slice ub us.length uc2) := by simp [World.cell?, hb2, HV.out])
                      refine hK.out _ _ ?_ (fun hHeld => ?_)
                      focus ((try dsimp only); ((refine ⟨cell_of (cs := #[.string a0, .int .i64 a1, .string a2, .int .i64 (lv : Int), .int .i64 a4, .int .i64 a5, .int .i64 a6]) (t := 51) (fr := (0, 0)) ?_ rfl, cell_of (cs := #[.string a0, .int .i64 a1, .string a2, .int .i64 (lv : Int), .int .i64 a4, .int .i64 a5, .int .i64 a6]) (t := 51) (fr := (0, 0)) ?_ rfl, cell_of (cs := #[.string a0, .int .i64 a1, .string a2, .int .i64 (lv : Int), .int .i64 a4, .int .i64 a5, .int .i64 a6]) (t := 51) (fr := (0, 0)) ?_ rfl, cell_of (cs := #[.string a0, .int .i64 a1, .string a2, .int .i64 (lv : Int), .int .i64 a4, .int .i64 a5, .int .i64 a6]) (t := 51) (fr := (0, 0)) ?_ rfl, cell_of (cs := #[.string a0, .int .i64 a1, .string a2, .int .i64 (lv : Int), .int .i64 a4, .int .i64 a5, .int .i64 a6]) (t := 51) (fr := (0, 0)) ?_ rfl, cell_of (cs := #[.string a0, .int .i64 a1, .string a2, .int .i64 (lv : Int), .int .i64 a4, .int .i64 a5, .int .i64 a6]) (t := 51) (fr := (0, 0)) ?_ rfl, cell_of (cs := #[.string a0, .int .i64 a1, .string a2, .int .i64 (lv : Int), .int .i64 a4, .int .i64 a5, .int .i64 a6]) (t := 51) (fr := (0, 0)) ?_ rfl⟩ <;> ((repeat (first | with_reducible exact hx2 | with_reducible exact hx5 | with_reducible refine G_drew ?_ | with_reducible refine G_ext ?_ | with_reducible refine G_alloc ?_ | with_reducible refine G_setO hGx ?_)); done))))
                      clear hK K
                      try simp only [Act.put, List.setIfInBounds_toArray, List.set_cons_zero, List.set_cons_succ]
                      refine wpAnyH_take (i := 13) (v := ?_) (List.getElem?_toArray.trans rfl) (by kernel_rfl) (by kernel_rfl) (by kernel_rfl) (fun _ _ _ h => h) (Or.inl ⟨by rfl, ?_⟩) (by assumption) ?_
                      rotate_left 1
                      focus (intro w hSw; (try dsimp only at hSw); go_simp; first | done | with_reducible rfl)
                      try simp only [Act.put, List.setIfInBounds_toArray, List.set_cons_zero, List.set_cons_succ]
                      refine wpAnyH_ready (rs := [14]) (by kernel_rfl) (by simp) (AllReadyH.cons (List.getElem?_toArray.trans rfl) (fun K hK => ?_) AllReadyH.nil)
                      go_simp
                      refine hK.out _ _ ?_ (fun hHeld => ?_)
                      focus ((try dsimp only); ((refine ⟨cell_of (cs := #[.string a0, .int .i64 a1, .string a2, .int .i64 (lv : Int), .int .i64 a4, .int .i64 a5, .int .i64 a6]) (t := 51) (fr := (0, 0)) ?_ rfl, cell_of (cs := #[.string a0, .int .i64 a1, .string a2, .int .i64 (lv : Int), .int .i64 a4, .int .i64 a5, .int .i64 a6]) (t := 51) (fr := (0, 0)) ?_ rfl, cell_of (cs := #[.string a0, .int .i64 a1, .string a2, .int .i64 (lv : Int), .int .i64 a4, .int .i64 a5, .int .i64 a6]) (t := 51) (fr := (0, 0)) ?_ rfl, cell_of (cs := #[.string a0, .int .i64 a1, .string a2, .int .i64 (lv : Int), .int .i64 a4, .int .i64 a5, .int .i64 a6]) (t := 51) (fr := (0, 0)) ?_ rfl, cell_of (cs := #[.string a0, .int .i64 a1, .string a2, .int .i64 (lv : Int), .int .i64 a4, .int .i64 a5, .int .i64 a6]) (t := 51) (fr := (0, 0)) ?_ rfl, cell_of (cs := #[.string a0, .int .i64 a1, .string a2, .int .i64 (lv : Int), .int .i64 a4, .int .i64 a5, .int .i64 a6]) (t := 51) (fr := (0, 0)) ?_ rfl, cell_of (cs := #[.string a0, .int .i64 a1, .string a2, .int .i64 (lv : Int), .int .i64 a4, .int .i64 a5, .int .i64 a6]) (t := 51) (fr := (0, 0)) ?_ rfl⟩ <;> ((repeat (first | with_reducible exact hx2 | with_reducible exact hx5 | with_reducible refine G_drew ?_ | with_reducible refine G_ext ?_ | with_reducible refine G_alloc ?_ | with_reducible refine G_setO hGx ?_)); done))))
                      clear hK K
                      try simp only [Act.put, List.setIfInBounds_toArray, List.set_cons_zero, List.set_cons_succ]
                      refine wpAnyH_done (by kernel_rfl) ?_ _
                      have hB2 : Below G W1 w2 := Below.grown (by repeat (first | exact B_refl | exact Below.refl _ _ | assumption | with_reducible refine B_alloc ?_ _ | with_reducible refine B_ext ?_ _ | with_reducible refine B_drew ?_ | with_reducible refine B_drewN ?_ _ | with_reducible refine B_set ?_ (by simp; omega) _)) g2 (by (first | omega | (simp; done) | (simp; omega) | (simp [ext_size]; done) | (simp [ext_size]; omega))) (fun g hg => (hrow.lt g hg).1)
                      have hR2 := RowsAt.put (hR5.keep (n := W5.heap.size) (by repeat (first | exact B_refl | exact Below.refl _ _ | assumption | with_reducible refine B_alloc ?_ _ | with_reducible refine B_ext ?_ _ | with_reducible refine B_drew ?_ | with_reducible refine B_drewN ?_ _ | with_reducible refine B_set ?_ (by simp; omega) _))) HV.out HX.out h3 g2 o2
                      rw [← HLS.out, ← HT.out] at hR2
                      simp only [List.length_append, List.length_cons, List.length_nil, Nat.zero_add] at hR2
                      have hz2 := blk_lt hb2
                      go_wp2_with fail
                      go_roundw
                      case rel => exact ⟨i + 1, _, by omega, by go_num, hR2, B_set hB2 (Nat.le_refl _) _⟩
                      case measure => simp [intOf]; omega
                    · go_simp
                      refine hK.out _ _ ?_ (fun hHeld => ?_)
                      focus ((try dsimp only); ((refine ⟨cell_of (cs := #[.string a0, .int .i64 a1, .string a2, .int .i64 (lv : Int), .int .i64 a4, .int .i64 a5, .int .i64 a6]) (t := 51) (fr := (0, 0)) ?_ rfl, cell_of (cs := #[.string a0, .int .i64 a1, .string a2, .int .i64 (lv : Int), .int .i64 a4, .int .i64 a5, .int .i64 a6]) (t := 51) (fr := (0, 0)) ?_ rfl, cell_of (cs := #[.string a0, .int .i64 a1, .string a2, .int .i64 (lv : Int), .int .i64 a4, .int .i64 a5, .int .i64 a6]) (t := 51) (fr := (0, 0)) ?_ rfl, cell_of (cs := #[.string a0, .int .i64 a1, .string a2, .int .i64 (lv : Int), .int .i64 a4, .int .i64 a5, .int .i64 a6]) (t := 51) (fr := (0, 0)) ?_ rfl, cell_of (cs := #[.string a0, .int .i64 a1, .string a2, .int .i64 (lv : Int), .int .i64 a4, .int .i64 a5, .int .i64 a6]) (t := 51) (fr := (0, 0)) ?_ rfl, cell_of (cs := #[.string a0, .int .i64 a1, .string a2, .int .i64 (lv : Int), .int .i64 a4, .int .i64 a5, .int .i64 a6]) (t := 51) (fr := (0, 0)) ?_ rfl, cell_of (cs := #[.string a0, .int .i64 a1, .string a2, .int .i64 (lv : Int), .int .i64 a4, .int .i64 a5, .int .i64 a6]) (t := 51) (fr := (0, 0)) ?_ rfl⟩ <;> ((repeat (first | with_reducible exact hx2 | with_reducible exact hx5 | with_reducible refine G_drew ?_ | with_reducible refine G_ext ?_ | with_reducible refine G_alloc ?_ | with_reducible refine G_setO hGx ?_)); done))))
                      clear hK K
                      try simp only [Act.put, List.setIfInBounds_toArray, List.set_cons_zero, List.set_cons_succ]
                      refine wpAnyH_ready (rs := [9]) (by kernel_rfl) (by simp) (AllReadyH.cons (List.getElem?_toArray.trans rfl) (fun K hK => ?_) AllReadyH.nil)
                      go_simp
                      refine hK.out _ _ ?_ (fun hHeld => ?_)
                      focus ((try dsimp only); ((refine ⟨cell_of (cs := #[.string a0, .int .i64 a1, .string a2, .int .i64 (lv : Int), .int .i64 a4, .int .i64 a5, .int .i64 a6]) (t := 51) (fr := (0, 0)) ?_ rfl, cell_of (cs := #[.string a0, .int .i64 a1, .string a2, .int .i64 (lv : Int), .int .i64 a4, .int .i64 a5, .int .i64 a6]) (t := 51) (fr := (0, 0)) ?_ rfl, cell_of (cs := #[.string a0, .int .i64 a1, .string a2, .int .i64 (lv : Int), .int .i64 a4, .int .i64 a5, .int .i64 a6]) (t := 51) (fr := (0, 0)) ?_ rfl, cell_of (cs := #[.string a0, .int .i64 a1, .string a2, .int .i64 (lv : Int), .int .i64 a4, .int .i64 a5, .int .i64 a6]) (t := 51) (fr := (0, 0)) ?_ rfl, cell_of (cs := #[.string a0, .int .i64 a1, .string a2, .int .i64 (lv : Int), .int .i64 a4, .int .i64 a5, .int .i64 a6]) (t := 51) (fr := (0, 0)) ?_ rfl, cell_of (cs := #[.string a0, .int .i64 a1, .string a2, .int .i64 (lv : Int), .int .i64 a4, .int .i64 a5, .int .i64 a6]) (t := 51) (fr := (0, 0)) ?_ rfl, cell_of (cs := #[.string a0, .int .i64 a1, .string a2, .int .i64 (lv : Int), .int .i64 a4, .int .i64 a5, .int .i64 a6]) (t := 51) (fr := (0, 0)) ?_ rfl⟩ <;> ((repeat (first | with_reducible exact hx2 | with_reducible exact hx5 | with_reducible refine G_drew ?_ | with_reducible refine G_ext ?_ | with_reducible refine G_alloc ?_ | with_reducible refine G_setO hGx ?_)); done))))
                      clear hK K
                      try simp only [Act.put, List.setIfInBounds_toArray, List.set_cons_zero, List.set_cons_succ]
                      refine wpAnyH_ready (rs := [12]) (by kernel_rfl) (by simp) (AllReadyH.cons (List.getElem?_toArray.trans rfl) (fun K hK => ?_) AllReadyH.nil)
                      (refine step_append_sl rfl _ _ rfl elStay stay_len stay_one rfl (base := G) (n := us.length) (m := 1) (v := .slice ub us.length uc2) (xs := us.flatMap Stay.cells) ?q1 rfl (ys := [⟨⟨a0, a1, a2, (lv : Int), a4, a5⟩, a6⟩]) rfl ?q2 ?q3 ?q4 ?q5 ?_
                       case q1 => repeat (first | with_reducible exact hrow | with_reducible refine own_ext ?_ _ | with_reducible refine own_alloc ?_ _ | with_reducible refine own_drew ?_)
                       case q2 => (refine sl_stay (t := 51) (fr := (0, 0)) (x := ⟨⟨a0, a1, a2, (lv : Int), a4, a5⟩, a6⟩) ?_; (repeat (first | with_reducible exact G_new _ _ _ (by simp) | with_reducible exact G_new _ _ _ (by simp [ext_size]) | with_reducible refine G_drew ?_ | with_reducible refine G_ext ?_ | with_reducible refine G_alloc ?_)))
                       case q3 => simp [maxLen]; omega
                       case q4 => omega
                       case q5 => (first | omega | (simp; done) | (simp; omega) | (simp [ext_size]; done) | (simp [ext_size]; omega))
                       intro v2 w2 h2 g2 o2
                       have h3 : w2.ownsRow G 51 7 v2 (us ++ [(⟨⟨a0, a1, a2, (lv : Int), a4, a5⟩, a6⟩ : Stay)]).length ((us ++ [(⟨⟨a0, a1, a2, (lv : Int), a4, a5⟩, a6⟩ : Stay)]).flatMap Stay.cells) := by simpa using h2
                       obtain ⟨V2, c2', rfl, _, _⟩ := own_sl stay_len h3
                       clear h2
                       have hb2 := (g2.block G (by (first | omega | (simp; done) | (simp; omega) | (simp [ext_size]; done) | (simp [ext_size]; omega))) hneG).trans (by repeat (first | with_reducible exact hR5.blk | with_reducible refine G_drew ?_ | with_reducible refine G_ext ?_ | with_reducible refine G_alloc ?_) : _ = some (.cells vs.toArray 43 (0, 0)))
                       have hf2 : w2.frozen? ⟨G, lv, none⟩ = false := by simp [World.frozen?, hb2]
                       have hx2 : w2.heap[B]? = some (.cells #[.string a0, .int .i64 a1, .string a2, .int .i64 (lv : Int), .int .i64 a4, .int .i64 a5, .int .i64 a6] 51 (0, 0)) := by
                         refine (g2.block B (by (first | omega | (simp; done) | (simp; omega) | (simp [ext_size]; done) | (simp [ext_size]; omega))) hneX).trans ?_
                         repeat (first | with_reducible exact hx5 | with_reducible refine G_drew ?_ | with_reducible refine G_ext ?_ | with_reducible refine G_alloc ?_)
                       have y3 : w2.cell? ⟨B, 3, none⟩ = some (.int .i64 (lv : Int)) := by simp [World.cell?, hx2]
                       have hcc : w2.cell? ⟨G, lv, none⟩ = some (.slice ub us.length uc2) := by simp [World.cell?, hb2, HV.out])
                      refine hK.out _ _ ?_ (fun hHeld => ?_)
                      focus ((try dsimp only); ((refine ⟨cell_of (cs := #[.string a0, .int .i64 a1, .string a2, .int .i64 (lv : Int), .int .i64 a4, .int .i64 a5, .int .i64 a6]) (t := 51) (fr := (0, 0)) ?_ rfl, cell_of (cs := #[.string a0, .int .i64 a1, .string a2, .int .i64 (lv : Int), .int .i64 a4, .int .i64 a5, .int .i64 a6]) (t := 51) (fr := (0, 0)) ?_ rfl, cell_of (cs := #[.string a0, .int .i64 a1, .string a2, .int .i64 (lv : Int), .int .i64 a4, .int .i64 a5, .int .i64 a6]) (t := 51) (fr := (0, 0)) ?_ rfl, cell_of (cs := #[.string a0, .int .i64 a1, .string a2, .int .i64 (lv : Int), .int .i64 a4, .int .i64 a5, .int .i64 a6]) (t := 51) (fr := (0, 0)) ?_ rfl, cell_of (cs := #[.string a0, .int .i64 a1, .string a2, .int .i64 (lv : Int), .int .i64 a4, .int .i64 a5, .int .i64 a6]) (t := 51) (fr := (0, 0)) ?_ rfl, cell_of (cs := #[.string a0, .int .i64 a1, .string a2, .int .i64 (lv : Int), .int .i64 a4, .int .i64 a5, .int .i64 a6]) (t := 51) (fr := (0, 0)) ?_ rfl, cell_of (cs := #[.string a0, .int .i64 a1, .string a2, .int .i64 (lv : Int), .int .i64 a4, .int .i64 a5, .int .i64 a6]) (t := 51) (fr := (0, 0)) ?_ rfl⟩ <;> ((repeat (first | with_reducible exact hx2 | with_reducible exact hx5 | with_reducible refine G_drew ?_ | with_reducible refine G_ext ?_ | with_reducible refine G_alloc ?_ | with_reducible refine G_setO hGx ?_)); done))))
                      clear hK K
                      try simp only [Act.put, List.setIfInBounds_toArray, List.set_cons_zero, List.set_cons_succ]
                      refine wpAnyH_take (i := 13) (v := ?_) (List.getElem?_toArray.trans rfl) (by kernel_rfl) (by kernel_rfl) (by kernel_rfl) (fun _ _ _ h => h) (Or.inl ⟨by rfl, ?_⟩) (by assumption) ?_
                      rotate_left 1
                      focus (intro w hSw; (try dsimp only at hSw); go_simp; first | done | with_reducible rfl)
                      try simp only [Act.put, List.setIfInBounds_toArray, List.set_cons_zero, List.set_cons_succ]
                      refine wpAnyH_ready (rs := [14]) (by kernel_rfl) (by simp) (AllReadyH.cons (List.getElem?_toArray.trans rfl) (fun K hK => ?_) AllReadyH.nil)
                      go_simp
                      refine hK.out _ _ ?_ (fun hHeld => ?_)
                      focus ((try dsimp only); ((refine ⟨cell_of (cs := #[.string a0, .int .i64 a1, .string a2, .int .i64 (lv : Int), .int .i64 a4, .int .i64 a5, .int .i64 a6]) (t := 51) (fr := (0, 0)) ?_ rfl, cell_of (cs := #[.string a0, .int .i64 a1, .string a2, .int .i64 (lv : Int), .int .i64 a4, .int .i64 a5, .int .i64 a6]) (t := 51) (fr := (0, 0)) ?_ rfl, cell_of (cs := #[.string a0, .int .i64 a1, .string a2, .int .i64 (lv : Int), .int .i64 a4, .int .i64 a5, .int .i64 a6]) (t := 51) (fr := (0, 0)) ?_ rfl, cell_of (cs := #[.string a0, .int .i64 a1, .string a2, .int .i64 (lv : Int), .int .i64 a4, .int .i64 a5, .int .i64 a6]) (t := 51) (fr := (0, 0)) ?_ rfl, cell_of (cs := #[.string a0, .int .i64 a1, .string a2, .int .i64 (lv : Int), .int .i64 a4, .int .i64 a5, .int .i64 a6]) (t := 51) (fr := (0, 0)) ?_ rfl, cell_of (cs := #[.string a0, .int .i64 a1, .string a2, .int .i64 (lv : Int), .int .i64 a4, .int .i64 a5, .int .i64 a6]) (t := 51) (fr := (0, 0)) ?_ rfl, cell_of (cs := #[.string a0, .int .i64 a1, .string a2, .int .i64 (lv : Int), .int .i64 a4, .int .i64 a5, .int .i64 a6]) (t := 51) (fr := (0, 0)) ?_ rfl⟩ <;> ((repeat (first | with_reducible exact hx2 | with_reducible exact hx5 | with_reducible refine G_drew ?_ | with_reducible refine G_ext ?_ | with_reducible refine G_alloc ?_ | with_reducible refine G_setO hGx ?_)); done))))
                      clear hK K
                      try simp only [Act.put, List.setIfInBounds_toArray, List.set_cons_zero, List.set_cons_succ]
                      refine wpAnyH_done (by kernel_rfl) ?_ _
                      have hB2 : Below G W1 w2 := Below.grown (by repeat (first | exact B_refl | exact Below.refl _ _ | assumption | with_reducible refine B_alloc ?_ _ | with_reducible refine B_ext ?_ _ | with_reducible refine B_drew ?_ | with_reducible refine B_drewN ?_ _ | with_reducible refine B_set ?_ (by simp; omega) _)) g2 (by (first | omega | (simp; done) | (simp; omega) | (simp [ext_size]; done) | (simp [ext_size]; omega))) (fun g hg => (hrow.lt g hg).1)
                      have hR2 := RowsAt.put (hR5.keep (n := W5.heap.size) (by repeat (first | exact B_refl | exact Below.refl _ _ | assumption | with_reducible refine B_alloc ?_ _ | with_reducible refine B_ext ?_ _ | with_reducible refine B_drew ?_ | with_reducible refine B_drewN ?_ _ | with_reducible refine B_set ?_ (by simp; omega) _))) HV.out HX.out h3 g2 o2
                      rw [← HLS.out, ← HT.out] at hR2
                      simp only [List.length_append, List.length_cons, List.length_nil, Nat.zero_add] at hR2
                      have hz2 := blk_lt hb2
                      go_wp2_with fail
                      go_roundw
                      case rel => exact ⟨i + 1, _, by omega, by go_num, hR2, B_set hB2 (Nat.le_refl _) _⟩
                      case measure => simp [intOf]; omega
            · go_simp
              refine hK.out _ _ ?_ (fun hHeld => ?_)
              focus ((try dsimp only); ((refine ⟨cell_kept jz k0 ?_, cell_kept jz k1 ?_, cell_kept jz k2 ?_, cell_kept jz k3 ?_, cell_kept jz k4 ?_, cell_kept hbb3 x4 ?_⟩ <;> ((repeat (first | exact B_refl | exact Below.refl _ _ | assumption | with_reducible refine B_alloc ?_ _ | with_reducible refine B_ext ?_ _ | with_reducible refine B_drew ?_ | with_reducible refine B_drewN ?_ _ | with_reducible refine B_set ?_ (by simp; omega) _)); done))))
              clear hK K
              try simp only [Act.put, List.setIfInBounds_toArray, List.set_cons_zero, List.set_cons_succ]
              refine wpAnyH_ready (rs := [7]) (by kernel_rfl) (by simp) (AllReadyH.cons (List.getElem?_toArray.trans rfl) (fun K hK => ?_) AllReadyH.nil)
              go_simp
              (go_at_call 43; refine (HRS rm _ (hy.keep (m := w.heap.size) ?q1) (hev.keep (m := w.heap.size) ?q2)).mono ?_
               case q1 => repeat (first | exact B_refl | exact Below.refl _ _ | assumption | with_reducible refine B_alloc ?_ _ | with_reducible refine B_ext ?_ _ | with_reducible refine B_drew ?_ | with_reducible refine B_drewN ?_ _ | with_reducible refine B_set ?_ (by simp; omega) _)
               case q2 => repeat (first | exact B_refl | exact Below.refl _ _ | assumption | with_reducible refine B_alloc ?_ _ | with_reducible refine B_ext ?_ _ | with_reducible refine B_drew ?_ | with_reducible refine B_drewN ?_ _ | with_reducible refine B_set ?_ (by simp; omega) _)
               rintro e wq ⟨v, rfl, hownS, zs, hwq⟩
               have hB34 : Below W3.heap.size W3 wq := by rw [hwq]; repeat (first | exact B_refl | exact Below.refl _ _ | assumption | with_reducible refine B_alloc ?_ _ | with_reducible refine B_ext ?_ _ | with_reducible refine B_drew ?_ | with_reducible refine B_drewN ?_ _ | with_reducible refine B_set ?_ (by simp; omega) _)
               have hb3 : wq.heap[(World.drew W3).heap.size]? = some _ := (by rw [hwq]; exact G_ext (heap_alloc_new _ _))
               clear hwq
               obtain ⟨V, vc, rfl, hSV, _⟩ := own_sl stay_len hownS
               obtain ⟨vb, voff, rfl, hvb, hvc⟩ := hSV.at hcnl
               rw [HXE.out] at hvc
               have p0 : wq.cell? ⟨vb, voff + cn * 7, none⟩ = some (.string a0) := hvc 0 _ rfl
               have p1 : wq.cell? ⟨vb, voff + cn * 7 + 1, none⟩ = some (.int .i64 a1) := hvc 1 _ rfl
               have p2 : wq.cell? ⟨vb, voff + cn * 7 + 2, none⟩ = some (.string a2) := hvc 2 _ rfl
               have p3 : wq.cell? ⟨vb, voff + cn * 7 + 3, none⟩ = some (.int .i64 a3) := hvc 3 _ rfl
               have p4 : wq.cell? ⟨vb, voff + cn * 7 + 4, none⟩ = some (.int .i64 a4) := hvc 4 _ rfl
               have p5 : wq.cell? ⟨vb, voff + cn * 7 + 5, none⟩ = some (.int .i64 a5) := hvc 5 _ rfl
               have p6 : wq.cell? ⟨vb, voff + cn * 7 + 6, none⟩ = some (.int .i64 a6) := hvc 6 _ rfl
               clear hvc hSV hownS)
              refine hK.out _ _ ?_ (fun hHeld => ?_)
              focus ((try dsimp only); ((refine ⟨cell_kept jz k0 ?_, cell_kept jz k1 ?_, cell_kept jz k2 ?_, cell_kept jz k3 ?_, cell_kept jz k4 ?_, cell_kept hbb3 x4 ?_⟩ <;> ((repeat (first | exact B_refl | exact Below.refl _ _ | assumption | with_reducible refine B_alloc ?_ _ | with_reducible refine B_ext ?_ _ | with_reducible refine B_drew ?_ | with_reducible refine B_drewN ?_ _ | with_reducible refine B_set ?_ (by simp; omega) _)); done))))
              clear hK K
              try simp only [Act.put, List.setIfInBounds_toArray, List.set_cons_zero, List.set_cons_succ]
              refine wpAnyH_take (i := 9) (v := ?_) (List.getElem?_toArray.trans rfl) (by kernel_rfl) (by kernel_rfl) (by kernel_rfl) (fun _ _ _ h => h) (Or.inl ⟨by rfl, ?_⟩) (by assumption) ?_
              rotate_left 1
              focus (intro w hSw; (try dsimp only at hSw); go_simp; first | done | with_reducible rfl)
              try simp only [Act.put, List.setIfInBounds_toArray, List.set_cons_zero, List.set_cons_succ]
              refine wpAnyH_ready (rs := [10]) (by kernel_rfl) (by simp) (AllReadyH.cons (List.getElem?_toArray.trans rfl) (fun K hK => ?_) AllReadyH.nil)
              go_simp
              refine hK.out _ _ ?_ (fun hHeld => ?_)
              focus ((try dsimp only); ((refine ⟨cell_kept jz k0 ?_, cell_kept jz k1 ?_, cell_kept jz k2 ?_, cell_kept jz k3 ?_, cell_kept jz k4 ?_, cell_kept hbb3 x4 ?_⟩ <;> ((repeat (first | exact B_refl | exact Below.refl _ _ | assumption | with_reducible refine B_alloc ?_ _ | with_reducible refine B_ext ?_ _ | with_reducible refine B_drew ?_ | with_reducible refine B_drewN ?_ _ | with_reducible refine B_set ?_ (by simp; omega) _)); done))))
              clear hK K
              try simp only [Act.put, List.setIfInBounds_toArray, List.set_cons_zero, List.set_cons_succ]
              change wq.heap[W3.heap.size]? = _ at hb3
              have hb3z := blk_lt hb3
              have f0 : wq.cell? ⟨W3.heap.size, 0, none⟩ = some (.string ⟨#[]⟩) := by simp [World.cell?, hb3]
              have f1 : wq.cell? ⟨W3.heap.size, 1, none⟩ = some (.int .i64 0) := by simp [World.cell?, hb3]
              have f2 : wq.cell? ⟨W3.heap.size, 2, none⟩ = some (.string ⟨#[]⟩) := by simp [World.cell?, hb3]
              have f3 : wq.cell? ⟨W3.heap.size, 3, none⟩ = some (.int .i64 0) := by simp [World.cell?, hb3]
              have f4 : wq.cell? ⟨W3.heap.size, 4, none⟩ = some (.int .i64 0) := by simp [World.cell?, hb3]
              have f5 : wq.cell? ⟨W3.heap.size, 5, none⟩ = some (.int .i64 0) := by simp [World.cell?, hb3]
              have f6 : wq.cell? ⟨W3.heap.size, 6, none⟩ = some (.int .i64 0) := by simp [World.cell?, hb3]
              have fz : ∀ j, wq.frozen? ⟨W3.heap.size, j, none⟩ = false := fun j => by simp [World.frozen?, hb3]
              have hB35 : Below W3.heap.size W3 (((((((wq.setCell ⟨W3.heap.size, 0, none⟩ (.string a0)).setCell ⟨W3.heap.size, 1, none⟩ (.int .i64 a1)).setCell ⟨W3.heap.size, 2, none⟩ (.string a2)).setCell ⟨W3.heap.size, 3, none⟩ (.int .i64 a3)).setCell ⟨W3.heap.size, 4, none⟩ (.int .i64 a4)).setCell ⟨W3.heap.size, 5, none⟩ (.int .i64 a5)).setCell ⟨W3.heap.size, 6, none⟩ (.int .i64 a6)) := by
                iterate 7 (refine B_set ?_ (show W3.heap.size ≤ W3.heap.size from Nat.le_refl _) _)
                exact hB34
              refine wpAnyH_ready (rs := [12]) (by kernel_rfl) (by simp) (AllReadyH.cons (List.getElem?_toArray.trans rfl) (fun K hK => ?_) AllReadyH.nil)
              go_simp
              refine hK.out _ _ ?_ (fun hHeld => ?_)
              focus ((try dsimp only); (exact ⟨cell_kept jz k0 hB35, cell_kept jz k1 hB35, cell_kept jz k2 hB35, cell_kept jz k3 hB35, cell_kept jz k4 hB35, cell_kept hbb3 x4 hB35⟩))
              clear hK K
              try simp only [Act.put, List.setIfInBounds_toArray, List.set_cons_zero, List.set_cons_succ]
              refine wpAnyH_done (by kernel_rfl) ?_ _
              have hx5 := G_set7 (a := .string a0) (b := .int .i64 a1) (c := .string a2) (d := .int .i64 a3) (e := .int .i64 a4) (f := .int .i64 a5) (h := .int .i64 a6) hb3
              clear hb3 hHeld
              generalize ((((((wq.setCell ⟨W3.heap.size, 0, none⟩ (.string a0)).setCell ⟨W3.heap.size, 1, none⟩ (.int .i64 a1)).setCell ⟨W3.heap.size, 2, none⟩ (.string a2)).setCell ⟨W3.heap.size, 3, none⟩ (.int .i64 a3)).setCell ⟨W3.heap.size, 4, none⟩ (.int .i64 a4)).setCell ⟨W3.heap.size, 5, none⟩ (.int .i64 a5)).setCell ⟨W3.heap.size, 6, none⟩ (.int .i64 a6) = W5 at *
              obtain ⟨B, hBd⟩ : ∃ B, B = W3.heap.size := ⟨_, rfl⟩
              rw [← hBd] at hx5 ⊢
              have hGx : ¬ B = G := by have := blk_lt hR3.blk; omega
              have hGx2 : ¬ G = B := by have := blk_lt hR3.blk; omega
              have hB3B : W3.heap.size ≤ B := Nat.le_of_eq hBd.symm
              clear hBd
              have hB5 : Below G W1 W5 := hB3.trans (hB35.mono (by have := blk_lt hR3.blk; omega))
              have hR5 := hR3.keep (n := W3.heap.size) hB35
              have hGr5 := blk_lt hR5.blk
              have hbz := blk_lt hx5
              have y2 : W5.cell? ⟨B, 2, none⟩ = some (.string a2) := by simp [World.cell?, hx5]
              have hxl := (List.getElem?_eq_some_iff.1 HSX.out).1
              have HT := Lib.hid (show ST.take (i + 1) = ST.take i ++ [⟨⟨a0, a1, a2, a3, a4, a5⟩, a6⟩] by rw [List.take_succ_eq_append_getElem hxl, (List.getElem?_eq_some_iff.1 HSX.out).2])
              have hpj := HM2.out _ (List.mem_of_getElem? HSX.out)
              have HPJ := Lib.hid hpj
              have hsl9 : (ST.take i).length ≤ 1000 := by
                have := List.length_take_le i ST
                omega
              clear hpj hxl
              generalize hsjd : ST.take i = sj at *
              clear hsjd
              cases hh : (a2.toList == nm.toList)
              · have HF := Lib.hid hh
                go_wp2_with fail
                go_roundw
                case rel => exact ⟨i + 1, vs, by omega, by go_num, by rw [HT.out, levels_snoc_other HF.out]; exact hR5, hB5⟩
                case measure => simp [intOf]; omega
              · have hpl : 0 ≤ a3 ∧ a3 < (N : Int) := by
                  rcases HPJ.out with ⟨h1, _⟩ | ⟨_, s', h3, h4, h5⟩
                  · exact absurd ((bytes_ext (eq_of_beq hh)).symm.trans h1) HNM.out
                  · have h6 : a2 = nm := bytes_ext (eq_of_beq hh)
                    rw [h6, HS.out] at h3
                    cases h3
                    exact ⟨h4, h5⟩
                obtain ⟨hf2', hf3⟩ := hpl
                obtain ⟨lv, rfl⟩ : ∃ lv : Nat, a3 = (lv : Int) := ⟨a3.toNat, by omega⟩
                have hlN : lv < N := by omega
                have HF1 := Lib.hid hh
                have hll : lv < (levelsP nm N sj).length := by rw [levels_len]; exact hlN
                obtain ⟨ub, uc2, hv, hvc, hvS⟩ := hR5.at hll
                have hx : (levelsP nm N sj)[lv]? = some (sj.filter fun s => s.lot.site.toList == nm.toList && s.lot.level == (lv : Int)) := levels_at hlN
                have hrow := hR5.rows lv _ _ hv hx
                have hge := (List.getElem?_eq_some_iff.1 hx).2
                rw [hge] at hv hvc hvS hrow
                have hxl : (sj.filter fun s => s.lot.site.toList == nm.toList && s.lot.level == (lv : Int)).length ≤ 1000 := Nat.le_trans (List.length_filter_le _ _) hsl9
                have HV := Lib.hid hv
                have HX := Lib.hid hx
                have HLS : Hid (levelsP nm N (sj ++ [⟨⟨a0, a1, a2, (lv : Int), a4, a5⟩, a6⟩]) = (levelsP nm N sj).set lv ((sj.filter fun s => s.lot.site.toList == nm.toList && s.lot.level == (lv : Int)) ++ [⟨⟨a0, a1, a2, (lv : Int), a4, a5⟩, a6⟩])) := levels_snoc HF1.out rfl hlN
                clear hv hx hge hll hvS hf2' hf3
                generalize (sj.filter fun s => s.lot.site.toList == nm.toList && s.lot.level == (lv : Int)) = us at *
                have hlN2 : (lv : Int) < (N : Int) := by omega
                have hlv0 : (0 : Int) ≤ (lv : Int) := by omega
                have hneG : some G ≠ (Value.slice ub us.length uc2).ownBlock := own_ne hrow hR5.blk (by decide)
                have hrow3 : ∀ k, (Value.slice ub us.length uc2).ownBlock = some k → k < W3.heap.size := by
                  have hi2 : lv < (levelsP nm N sj).length := by rw [levels_len]; exact hlN
                  have h8 := hR3.rows lv _ _ HV.out (List.getElem?_eq_getElem hi2)
                  exact fun k hk => (h8.lt k hk).2
                have hneX : some B ≠ (Value.slice ub us.length uc2).ownBlock := fun e => by
                  have := hrow3 _ e.symm
                  omega
                go_wp2_with fail
                refine wp_region_held_drew (S := (fun w' => w'.cell? ⟨B, 0, none⟩ = some (.string a0) ∧ w'.cell? ⟨B, 1, none⟩ = some (.int .i64 a1) ∧ w'.cell? ⟨B, 2, none⟩ = some (.string a2) ∧ w'.cell? ⟨B, 3, none⟩ = some (.int .i64 (lv : Int)) ∧ w'.cell? ⟨B, 4, none⟩ = some (.int .i64 a4) ∧ w'.cell? ⟨B, 5, none⟩ = some (.int .i64 a5) ∧ w'.cell? ⟨B, 6, none⟩ = some (.int .i64 a6))) (by kernel_rfl) ?hS ?hrest
                case hS => ((try dsimp only); ((refine ⟨cell_of (cs := #[.string a0, .int .i64 a1, .string a2, .int .i64 (lv : Int), .int .i64 a4, .int .i64 a5, .int .i64 a6]) (t := 51) (fr := (0, 0)) ?_ rfl, cell_of (cs := #[.string a0, .int .i64 a1, .string a2, .int .i64 (lv : Int), .int .i64 a4, .int .i64 a5, .int .i64 a6]) (t := 51) (fr := (0, 0)) ?_ rfl, cell_of (cs := #[.string a0, .int .i64 a1, .string a2, .int .i64 (lv : Int), .int .i64 a4, .int .i64 a5, .int .i64 a6]) (t := 51) (fr := (0, 0)) ?_ rfl, cell_of (cs := #[.string a0, .int .i64 a1, .string a2, .int .i64 (lv : Int), .int .i64 a4, .int .i64 a5, .int .i64 a6]) (t := 51) (fr := (0, 0)) ?_ rfl, cell_of (cs := #[.string a0, .int .i64 a1, .string a2, .int .i64 (lv : Int), .int .i64 a4, .int .i64 a5, .int .i64 a6]) (t := 51) (fr := (0, 0)) ?_ rfl, cell_of (cs := #[.string a0, .int .i64 a1, .string a2, .int .i64 (lv : Int), .int .i64 a4, .int .i64 a5, .int .i64 a6]) (t := 51) (fr := (0, 0)) ?_ rfl, cell_of (cs := #[.string a0, .int .i64 a1, .string a2, .int .i64 (lv : Int), .int .i64 a4, .int .i64 a5, .int .i64 a6]) (t := 51) (fr := (0, 0)) ?_ rfl⟩ <;> ((repeat (first | with_reducible exact hx2 | with_reducible exact hx5 | with_reducible refine G_drew ?_ | with_reducible refine G_ext ?_ | with_reducible refine G_alloc ?_ | with_reducible refine G_setO hGx ?_)); done))))
                case hrest =>
                  intro hHeld
                  refine wpAnyH_take (i := 0) (v := ?_) (List.getElem?_toArray.trans rfl) (by kernel_rfl) (by kernel_rfl) (by kernel_rfl) (fun _ _ _ h => h) (Or.inl ⟨by rfl, ?_⟩) (by assumption) ?_
                  rotate_left 1
                  focus (intro w hSw; (try dsimp only at hSw); go_simp; first | done | with_reducible rfl)
                  try simp only [Act.put, List.setIfInBounds_toArray, List.set_cons_zero, List.set_cons_succ]
                  refine wpAnyH_take (i := 1) (v := ?_) (List.getElem?_toArray.trans rfl) (by kernel_rfl) (by kernel_rfl) (by kernel_rfl) (fun _ _ _ h => h) (Or.inl ⟨by rfl, ?_⟩) (by assumption) ?_
                  rotate_left 1
                  focus (intro w hSw; (try dsimp only at hSw); go_simp; first | done | with_reducible rfl)
                  try simp only [Act.put, List.setIfInBounds_toArray, List.set_cons_zero, List.set_cons_succ]
                  refine wpAnyH_take (i := 2) (v := ?_) (List.getElem?_toArray.trans rfl) (by kernel_rfl) (by kernel_rfl) (by kernel_rfl) (fun _ _ _ h => h) (Or.inl ⟨by rfl, ?_⟩) (by assumption) ?_
                  rotate_left 1
                  focus (intro w hSw; (try dsimp only at hSw); go_simp; first | done | with_reducible rfl)
                  try simp only [Act.put, List.setIfInBounds_toArray, List.set_cons_zero, List.set_cons_succ]
                  refine wpAnyH_take (i := 3) (v := ?_) (List.getElem?_toArray.trans rfl) (by kernel_rfl) (by kernel_rfl) (by kernel_rfl) (fun _ _ _ h => h) (Or.inl ⟨by rfl, ?_⟩) (by assumption) ?_
                  rotate_left 1
                  focus (intro w hSw; (try dsimp only at hSw); go_simp; first | done | with_reducible rfl)
                  try simp only [Act.put, List.setIfInBounds_toArray, List.set_cons_zero, List.set_cons_succ]
                  refine wpAnyH_take (i := 4) (v := ?_) (List.getElem?_toArray.trans rfl) (by kernel_rfl) (by kernel_rfl) (by kernel_rfl) (fun _ _ _ h => h) (Or.inl ⟨by rfl, ?_⟩) (by assumption) ?_
                  rotate_left 1
                  focus (intro w hSw; (try dsimp only at hSw); go_simp; first | done | with_reducible rfl)
                  try simp only [Act.put, List.setIfInBounds_toArray, List.set_cons_zero, List.set_cons_succ]
                  refine wpAnyH_take (i := 5) (v := ?_) (List.getElem?_toArray.trans rfl) (by kernel_rfl) (by kernel_rfl) (by kernel_rfl) (fun _ _ _ h => h) (Or.inl ⟨by rfl, ?_⟩) (by assumption) ?_
                  rotate_left 1
                  focus (intro w hSw; (try dsimp only at hSw); go_simp; first | done | with_reducible rfl)
                  try simp only [Act.put, List.setIfInBounds_toArray, List.set_cons_zero, List.set_cons_succ]
                  refine wpAnyH_take (i := 6) (v := ?_) (List.getElem?_toArray.trans rfl) (by kernel_rfl) (by kernel_rfl) (by kernel_rfl) (fun _ _ _ h => h) (Or.inl ⟨by rfl, ?_⟩) (by assumption) ?_
                  rotate_left 1
                  focus (intro w hSw; (try dsimp only at hSw); go_simp; first | done | with_reducible rfl)
                  try simp only [Act.put, List.setIfInBounds_toArray, List.set_cons_zero, List.set_cons_succ]
                  refine wpAnyH_take (i := 7) (v := ?_) (List.getElem?_toArray.trans rfl) (by kernel_rfl) (by kernel_rfl) (by kernel_rfl) (fun _ _ _ h => h) (Or.inl ⟨by rfl, ?_⟩) (by assumption) ?_
                  rotate_left 1
                  focus (intro w hSw; (try dsimp only at hSw); go_simp; first | done | with_reducible rfl)
                  try simp only [Act.put, List.setIfInBounds_toArray, List.set_cons_zero, List.set_cons_succ]
                  refine wpAnyH_take (i := 8) (v := ?_) (List.getElem?_toArray.trans rfl) (by kernel_rfl) (by kernel_rfl) (by kernel_rfl) (fun _ _ _ h => h) (Or.inl ⟨by rfl, ?_⟩) (by assumption) ?_
                  rotate_left 1
                  focus (intro w hSw; (try dsimp only at hSw); go_simp; first | done | with_reducible rfl)
                  try simp only [Act.put, List.setIfInBounds_toArray, List.set_cons_zero, List.set_cons_succ]
                  refine wpAnyH_take (i := 10) (v := ?_) (List.getElem?_toArray.trans rfl) (by kernel_rfl) (by kernel_rfl) (by kernel_rfl) (fun _ _ _ h => h) (Or.inl ⟨by rfl, ?_⟩) (by assumption) ?_
                  rotate_left 1
                  focus (intro w hSw; (try dsimp only at hSw); go_simp; first | done | with_reducible rfl)
                  try simp only [Act.put, List.setIfInBounds_toArray, List.set_cons_zero, List.set_cons_succ]
                  refine wpAnyH_ready (rs := [9, 11]) (by kernel_rfl) (by simp) (AllReadyH.cons (List.getElem?_toArray.trans rfl) (fun K hK => ?_) (AllReadyH.cons (List.getElem?_toArray.trans rfl) (fun K hK => ?_) AllReadyH.nil))
                  · go_simp
                    refine hK.out _ _ ?_ (fun hHeld => ?_)
                    focus ((try dsimp only); ((refine ⟨cell_of (cs := #[.string a0, .int .i64 a1, .string a2, .int .i64 (lv : Int), .int .i64 a4, .int .i64 a5, .int .i64 a6]) (t := 51) (fr := (0, 0)) ?_ rfl, cell_of (cs := #[.string a0, .int .i64 a1, .string a2, .int .i64 (lv : Int), .int .i64 a4, .int .i64 a5, .int .i64 a6]) (t := 51) (fr := (0, 0)) ?_ rfl, cell_of (cs := #[.string a0, .int .i64 a1, .string a2, .int .i64 (lv : Int), .int .i64 a4, .int .i64 a5, .int .i64 a6]) (t := 51) (fr := (0, 0)) ?_ rfl, cell_of (cs := #[.string a0, .int .i64 a1, .string a2, .int .i64 (lv : Int), .int .i64 a4, .int .i64 a5, .int .i64 a6]) (t := 51) (fr := (0, 0)) ?_ rfl, cell_of (cs := #[.string a0, .int .i64 a1, .string a2, .int .i64 (lv : Int), .int .i64 a4, .int .i64 a5, .int .i64 a6]) (t := 51) (fr := (0, 0)) ?_ rfl, cell_of (cs := #[.string a0, .int .i64 a1, .string a2, .int .i64 (lv : Int), .int .i64 a4, .int .i64 a5, .int .i64 a6]) (t := 51) (fr := (0, 0)) ?_ rfl, cell_of (cs := #[.string a0, .int .i64 a1, .string a2, .int .i64 (lv : Int), .int .i64 a4, .int .i64 a5, .int .i64 a6]) (t := 51) (fr := (0, 0)) ?_ rfl⟩ <;> ((repeat (first | with_reducible exact hx2 | with_reducible exact hx5 | with_reducible refine G_drew ?_ | with_reducible refine G_ext ?_ | with_reducible refine G_alloc ?_ | with_reducible refine G_setO hGx ?_)); done))))
                    clear hK K
                    try simp only [Act.put, List.setIfInBounds_toArray, List.set_cons_zero, List.set_cons_succ]
                    refine wpAnyH_ready (rs := [11]) (by kernel_rfl) (by simp) (AllReadyH.cons (List.getElem?_toArray.trans rfl) (fun K hK => ?_) AllReadyH.nil)
                    go_simp
                    refine hK.out _ _ ?_ (fun hHeld => ?_)
                    focus ((try dsimp only); ((refine ⟨cell_of (cs := #[.string a0, .int .i64 a1, .string a2, .int .i64 (lv : Int), .int .i64 a4, .int .i64 a5, .int .i64 a6]) (t := 51) (fr := (0, 0)) ?_ rfl, cell_of (cs := #[.string a0, .int .i64 a1, .string a2, .int .i64 (lv : Int), .int .i64 a4, .int .i64 a5, .int .i64 a6]) (t := 51) (fr := (0, 0)) ?_ rfl, cell_of (cs := #[.string a0, .int .i64 a1, .string a2, .int .i64 (lv : Int), .int .i64 a4, .int .i64 a5, .int .i64 a6]) (t := 51) (fr := (0, 0)) ?_ rfl, cell_of (cs := #[.string a0, .int .i64 a1, .string a2, .int .i64 (lv : Int), .int .i64 a4, .int .i64 a5, .int .i64 a6]) (t := 51) (fr := (0, 0)) ?_ rfl, cell_of (cs := #[.string a0, .int .i64 a1, .string a2, .int .i64 (lv : Int), .int .i64 a4, .int .i64 a5, .int .i64 a6]) (t := 51) (fr := (0, 0)) ?_ rfl, cell_of (cs := #[.string a0, .int .i64 a1, .string a2, .int .i64 (lv : Int), .int .i64 a4, .int .i64 a5, .int .i64 a6]) (t := 51) (fr := (0, 0)) ?_ rfl, cell_of (cs := #[.string a0, .int .i64 a1, .string a2, .int .i64 (lv : Int), .int .i64 a4, .int .i64 a5, .int .i64 a6]) (t := 51) (fr := (0, 0)) ?_ rfl⟩ <;> ((repeat (first | with_reducible exact hx2 | with_reducible exact hx5 | with_reducible refine G_drew ?_ | with_reducible refine G_ext ?_ | with_reducible refine G_alloc ?_ | with_reducible refine G_setO hGx ?_)); done))))
                    clear hK K
                    try simp only [Act.put, List.setIfInBounds_toArray, List.set_cons_zero, List.set_cons_succ]
                    refine wpAnyH_ready (rs := [12]) (by kernel_rfl) (by simp) (AllReadyH.cons (List.getElem?_toArray.trans rfl) (fun K hK => ?_) AllReadyH.nil)
                    (refine step_append_sl rfl _ _ rfl elStay stay_len stay_one rfl (base := G) (n := us.length) (m := 1) (v := .slice ub us.length uc2) (xs := us.flatMap Stay.cells) ?q1 rfl (ys := [⟨⟨a0, a1, a2, (lv : Int), a4, a5⟩, a6⟩]) rfl ?q2 ?q3 ?q4 ?q5 ?_
                     case q1 => repeat (first | with_reducible exact hrow | with_reducible refine own_ext ?_ _ | with_reducible refine own_alloc ?_ _ | with_reducible refine own_drew ?_)
                     case q2 => (refine sl_stay (t := 51) (fr := (0, 0)) (x := ⟨⟨a0, a1, a2, (lv : Int), a4, a5⟩, a6⟩) ?_; (repeat (first | with_reducible exact G_new _ _ _ (by simp) | with_reducible exact G_new _ _ _ (by simp [ext_size]) | with_reducible refine G_drew ?_ | with_reducible refine G_ext ?_ | with_reducible refine G_alloc ?_)))
                     case q3 => simp [maxLen]; omega
                     case q4 => omega
                     case q5 => (first | omega | (simp; done) | (simp; omega) | (simp [ext_size]; done) | (simp [ext_size]; omega))
                     intro v2 w2 h2 g2 o2
                     have h3 : w2.ownsRow G 51 7 v2 (us ++ [(⟨⟨a0, a1, a2, (lv : Int), a4, a5⟩, a6⟩ : Stay)]).length ((us ++ [(⟨⟨a0, a1, a2, (lv : Int), a4, a5⟩, a6⟩ : Stay)]).flatMap Stay.cells) := by simpa using h2
                     obtain ⟨V2, c2', rfl, _, _⟩ := own_sl stay_len h3
                     clear h2
                     have hb2 := (g2.block G (by (first | omega | (simp; done) | (simp; omega) | (simp [ext_size]; done) | (simp [ext_size]; omega))) hneG).trans (by repeat (first | with_reducible exact hR5.blk | with_reducible refine G_drew ?_ | with_reducible refine G_ext ?_ | with_reducible refine G_alloc ?_) : _ = some (.cells vs.toArray 43 (0, 0)))
                     have hf2 : w2.frozen? ⟨G, lv, none⟩ = false := by simp [World.frozen?, hb2]
                     have hx2 : w2.heap[B]? = some (.cells #[.string a0, .int .i64 a1, .string a2, .int .i64 (lv : Int), .int .i64 a4, .int .i64 a5, .int .i64 a6] 51 (0, 0)) := by
                       refine (g2.block B (by (first | omega | (simp; done) | (simp; omega) | (simp [ext_size]; done) | (simp [ext_size]; omega))) hneX).trans ?_
                       repeat (first | with_reducible exact hx5 | with_reducible refine G_drew ?_ | with_reducible refine G_ext ?_ | with_reducible refine G_alloc ?_)
                     have y3 : w2.cell? ⟨B, 3, none⟩ = some (.int .i64 (lv : Int)) := by simp [World.cell?, hx2]
                     have hcc : w2.cell? ⟨G, lv, none⟩ = some (.slice ub us.length uc2) := by simp [World.cell?, hb2, HV.out])
                    refine hK.out _ _ ?_ (fun hHeld => ?_)
                    focus ((try dsimp only); ((refine ⟨cell_of (cs := #[.string a0, .int .i64 a1, .string a2, .int .i64 (lv : Int), .int .i64 a4, .int .i64 a5, .int .i64 a6]) (t := 51) (fr := (0, 0)) ?_ rfl, cell_of (cs := #[.string a0, .int .i64 a1, .string a2, .int .i64 (lv : Int), .int .i64 a4, .int .i64 a5, .int .i64 a6]) (t := 51) (fr := (0, 0)) ?_ rfl, cell_of (cs := #[.string a0, .int .i64 a1, .string a2, .int .i64 (lv : Int), .int .i64 a4, .int .i64 a5, .int .i64 a6]) (t := 51) (fr := (0, 0)) ?_ rfl, cell_of (cs := #[.string a0, .int .i64 a1, .string a2, .int .i64 (lv : Int), .int .i64 a4, .int .i64 a5, .int .i64 a6]) (t := 51) (fr := (0, 0)) ?_ rfl, cell_of (cs := #[.string a0, .int .i64 a1, .string a2, .int .i64 (lv : Int), .int .i64 a4, .int .i64 a5, .int .i64 a6]) (t := 51) (fr := (0, 0)) ?_ rfl, cell_of (cs := #[.string a0, .int .i64 a1, .string a2, .int .i64 (lv : Int), .int .i64 a4, .int .i64 a5, .int .i64 a6]) (t := 51) (fr := (0, 0)) ?_ rfl, cell_of (cs := #[.string a0, .int .i64 a1, .string a2, .int .i64 (lv : Int), .int .i64 a4, .int .i64 a5, .int .i64 a6]) (t := 51) (fr := (0, 0)) ?_ rfl⟩ <;> ((repeat (first | with_reducible exact hx2 | with_reducible exact hx5 | with_reducible refine G_drew ?_ | with_reducible refine G_ext ?_ | with_reducible refine G_alloc ?_ | with_reducible refine G_setO hGx ?_)); done))))
                    clear hK K
                    try simp only [Act.put, List.setIfInBounds_toArray, List.set_cons_zero, List.set_cons_succ]
                    refine wpAnyH_take (i := 13) (v := ?_) (List.getElem?_toArray.trans rfl) (by kernel_rfl) (by kernel_rfl) (by kernel_rfl) (fun _ _ _ h => h) (Or.inl ⟨by rfl, ?_⟩) (by assumption) ?_
                    rotate_left 1
                    focus (intro w hSw; (try dsimp only at hSw); go_simp; first | done | with_reducible rfl)
                    try simp only [Act.put, List.setIfInBounds_toArray, List.set_cons_zero, List.set_cons_succ]
                    refine wpAnyH_ready (rs := [14]) (by kernel_rfl) (by simp) (AllReadyH.cons (List.getElem?_toArray.trans rfl) (fun K hK => ?_) AllReadyH.nil)
                    go_simp
                    refine hK.out _ _ ?_ (fun hHeld => ?_)
                    focus ((try dsimp only); ((refine ⟨cell_of (cs := #[.string a0, .int .i64 a1, .string a2, .int .i64 (lv : Int), .int .i64 a4, .int .i64 a5, .int .i64 a6]) (t := 51) (fr := (0, 0)) ?_ rfl, cell_of (cs := #[.string a0, .int .i64 a1, .string a2, .int .i64 (lv : Int), .int .i64 a4, .int .i64 a5, .int .i64 a6]) (t := 51) (fr := (0, 0)) ?_ rfl, cell_of (cs := #[.string a0, .int .i64 a1, .string a2, .int .i64 (lv : Int), .int .i64 a4, .int .i64 a5, .int .i64 a6]) (t := 51) (fr := (0, 0)) ?_ rfl, cell_of (cs := #[.string a0, .int .i64 a1, .string a2, .int .i64 (lv : Int), .int .i64 a4, .int .i64 a5, .int .i64 a6]) (t := 51) (fr := (0, 0)) ?_ rfl, cell_of (cs := #[.string a0, .int .i64 a1, .string a2, .int .i64 (lv : Int), .int .i64 a4, .int .i64 a5, .int .i64 a6]) (t := 51) (fr := (0, 0)) ?_ rfl, cell_of (cs := #[.string a0, .int .i64 a1, .string a2, .int .i64 (lv : Int), .int .i64 a4, .int .i64 a5, .int .i64 a6]) (t := 51) (fr := (0, 0)) ?_ rfl, cell_of (cs := #[.string a0, .int .i64 a1, .string a2, .int .i64 (lv : Int), .int .i64 a4, .int .i64 a5, .int .i64 a6]) (t := 51) (fr := (0, 0)) ?_ rfl⟩ <;> ((repeat (first | with_reducible exact hx2 | with_reducible exact hx5 | with_reducible refine G_drew ?_ | with_reducible refine G_ext ?_ | with_reducible refine G_alloc ?_ | with_reducible refine G_setO hGx ?_)); done))))
                    clear hK K
                    try simp only [Act.put, List.setIfInBounds_toArray, List.set_cons_zero, List.set_cons_succ]
                    refine wpAnyH_done (by kernel_rfl) ?_ _
                    have hB2 : Below G W1 w2 := Below.grown (by repeat (first | exact B_refl | exact Below.refl _ _ | assumption | with_reducible refine B_alloc ?_ _ | with_reducible refine B_ext ?_ _ | with_reducible refine B_drew ?_ | with_reducible refine B_drewN ?_ _ | with_reducible refine B_set ?_ (by simp; omega) _)) g2 (by (first | omega | (simp; done) | (simp; omega) | (simp [ext_size]; done) | (simp [ext_size]; omega))) (fun g hg => (hrow.lt g hg).1)
                    have hR2 := RowsAt.put (hR5.keep (n := W5.heap.size) (by repeat (first | exact B_refl | exact Below.refl _ _ | assumption | with_reducible refine B_alloc ?_ _ | with_reducible refine B_ext ?_ _ | with_reducible refine B_drew ?_ | with_reducible refine B_drewN ?_ _ | with_reducible refine B_set ?_ (by simp; omega) _))) HV.out HX.out h3 g2 o2
                    rw [← HLS.out, ← HT.out] at hR2
                    simp only [List.length_append, List.length_cons, List.length_nil, Nat.zero_add] at hR2
                    have hz2 := blk_lt hb2
                    go_wp2_with fail
                    go_roundw
                    case rel => exact ⟨i + 1, _, by omega, by go_num, hR2, B_set hB2 (Nat.le_refl _) _⟩
                    case measure => simp [intOf]; omega
                  · go_simp
                    refine hK.out _ _ ?_ (fun hHeld => ?_)
                    focus ((try dsimp only); ((refine ⟨cell_of (cs := #[.string a0, .int .i64 a1, .string a2, .int .i64 (lv : Int), .int .i64 a4, .int .i64 a5, .int .i64 a6]) (t := 51) (fr := (0, 0)) ?_ rfl, cell_of (cs := #[.string a0, .int .i64 a1, .string a2, .int .i64 (lv : Int), .int .i64 a4, .int .i64 a5, .int .i64 a6]) (t := 51) (fr := (0, 0)) ?_ rfl, cell_of (cs := #[.string a0, .int .i64 a1, .string a2, .int .i64 (lv : Int), .int .i64 a4, .int .i64 a5, .int .i64 a6]) (t := 51) (fr := (0, 0)) ?_ rfl, cell_of (cs := #[.string a0, .int .i64 a1, .string a2, .int .i64 (lv : Int), .int .i64 a4, .int .i64 a5, .int .i64 a6]) (t := 51) (fr := (0, 0)) ?_ rfl, cell_of (cs := #[.string a0, .int .i64 a1, .string a2, .int .i64 (lv : Int), .int .i64 a4, .int .i64 a5, .int .i64 a6]) (t := 51) (fr := (0, 0)) ?_ rfl, cell_of (cs := #[.string a0, .int .i64 a1, .string a2, .int .i64 (lv : Int), .int .i64 a4, .int .i64 a5, .int .i64 a6]) (t := 51) (fr := (0, 0)) ?_ rfl, cell_of (cs := #[.string a0, .int .i64 a1, .string a2, .int .i64 (lv : Int), .int .i64 a4, .int .i64 a5, .int .i64 a6]) (t := 51) (fr := (0, 0)) ?_ rfl⟩ <;> ((repeat (first | with_reducible exact hx2 | with_reducible exact hx5 | with_reducible refine G_drew ?_ | with_reducible refine G_ext ?_ | with_reducible refine G_alloc ?_ | with_reducible refine G_setO hGx ?_)); done))))
                    clear hK K
                    try simp only [Act.put, List.setIfInBounds_toArray, List.set_cons_zero, List.set_cons_succ]
                    refine wpAnyH_ready (rs := [9]) (by kernel_rfl) (by simp) (AllReadyH.cons (List.getElem?_toArray.trans rfl) (fun K hK => ?_) AllReadyH.nil)
                    go_simp
                    refine hK.out _ _ ?_ (fun hHeld => ?_)
                    focus ((try dsimp only); ((refine ⟨cell_of (cs := #[.string a0, .int .i64 a1, .string a2, .int .i64 (lv : Int), .int .i64 a4, .int .i64 a5, .int .i64 a6]) (t := 51) (fr := (0, 0)) ?_ rfl, cell_of (cs := #[.string a0, .int .i64 a1, .string a2, .int .i64 (lv : Int), .int .i64 a4, .int .i64 a5, .int .i64 a6]) (t := 51) (fr := (0, 0)) ?_ rfl, cell_of (cs := #[.string a0, .int .i64 a1, .string a2, .int .i64 (lv : Int), .int .i64 a4, .int .i64 a5, .int .i64 a6]) (t := 51) (fr := (0, 0)) ?_ rfl, cell_of (cs := #[.string a0, .int .i64 a1, .string a2, .int .i64 (lv : Int), .int .i64 a4, .int .i64 a5, .int .i64 a6]) (t := 51) (fr := (0, 0)) ?_ rfl, cell_of (cs := #[.string a0, .int .i64 a1, .string a2, .int .i64 (lv : Int), .int .i64 a4, .int .i64 a5, .int .i64 a6]) (t := 51) (fr := (0, 0)) ?_ rfl, cell_of (cs := #[.string a0, .int .i64 a1, .string a2, .int .i64 (lv : Int), .int .i64 a4, .int .i64 a5, .int .i64 a6]) (t := 51) (fr := (0, 0)) ?_ rfl, cell_of (cs := #[.string a0, .int .i64 a1, .string a2, .int .i64 (lv : Int), .int .i64 a4, .int .i64 a5, .int .i64 a6]) (t := 51) (fr := (0, 0)) ?_ rfl⟩ <;> ((repeat (first | with_reducible exact hx2 | with_reducible exact hx5 | with_reducible refine G_drew ?_ | with_reducible refine G_ext ?_ | with_reducible refine G_alloc ?_ | with_reducible refine G_setO hGx ?_)); done))))
                    clear hK K
                    try simp only [Act.put, List.setIfInBounds_toArray, List.set_cons_zero, List.set_cons_succ]
                    refine wpAnyH_ready (rs := [12]) (by kernel_rfl) (by simp) (AllReadyH.cons (List.getElem?_toArray.trans rfl) (fun K hK => ?_) AllReadyH.nil)
                    (refine step_append_sl rfl _ _ rfl elStay stay_len stay_one rfl (base := G) (n := us.length) (m := 1) (v := .slice ub us.length uc2) (xs := us.flatMap Stay.cells) ?q1 rfl (ys := [⟨⟨a0, a1, a2, (lv : Int), a4, a5⟩, a6⟩]) rfl ?q2 ?q3 ?q4 ?q5 ?_
                     case q1 => repeat (first | with_reducible exact hrow | with_reducible refine own_ext ?_ _ | with_reducible refine own_alloc ?_ _ | with_reducible refine own_drew ?_)
                     case q2 => (refine sl_stay (t := 51) (fr := (0, 0)) (x := ⟨⟨a0, a1, a2, (lv : Int), a4, a5⟩, a6⟩) ?_; (repeat (first | with_reducible exact G_new _ _ _ (by simp) | with_reducible exact G_new _ _ _ (by simp [ext_size]) | with_reducible refine G_drew ?_ | with_reducible refine G_ext ?_ | with_reducible refine G_alloc ?_)))
                     case q3 => simp [maxLen]; omega
                     case q4 => omega
                     case q5 => (first | omega | (simp; done) | (simp; omega) | (simp [ext_size]; done) | (simp [ext_size]; omega))
                     intro v2 w2 h2 g2 o2
                     have h3 : w2.ownsRow G 51 7 v2 (us ++ [(⟨⟨a0, a1, a2, (lv : Int), a4, a5⟩, a6⟩ : Stay)]).length ((us ++ [(⟨⟨a0, a1, a2, (lv : Int), a4, a5⟩, a6⟩ : Stay)]).flatMap Stay.cells) := by simpa using h2
                     obtain ⟨V2, c2', rfl, _, _⟩ := own_sl stay_len h3
                     clear h2
                     have hb2 := (g2.block G (by (first | omega | (simp; done) | (simp; omega) | (simp [ext_size]; done) | (simp [ext_size]; omega))) hneG).trans (by repeat (first | with_reducible exact hR5.blk | with_reducible refine G_drew ?_ | with_reducible refine G_ext ?_ | with_reducible refine G_alloc ?_) : _ = some (.cells vs.toArray 43 (0, 0)))
                     have hf2 : w2.frozen? ⟨G, lv, none⟩ = false := by simp [World.frozen?, hb2]
                     have hx2 : w2.heap[B]? = some (.cells #[.string a0, .int .i64 a1, .string a2, .int .i64 (lv : Int), .int .i64 a4, .int .i64 a5, .int .i64 a6] 51 (0, 0)) := by
                       refine (g2.block B (by (first | omega | (simp; done) | (simp; omega) | (simp [ext_size]; done) | (simp [ext_size]; omega))) hneX).trans ?_
                       repeat (first | with_reducible exact hx5 | with_reducible refine G_drew ?_ | with_reducible refine G_ext ?_ | with_reducible refine G_alloc ?_)
                     have y3 : w2.cell? ⟨B, 3, none⟩ = some (.int .i64 (lv : Int)) := by simp [World.cell?, hx2]
                     have hcc : w2.cell? ⟨G, lv, none⟩ = some (.slice ub us.length uc2) := by simp [World.cell?, hb2, HV.out])
                    refine hK.out _ _ ?_ (fun hHeld => ?_)
                    focus ((try dsimp only); ((refine ⟨cell_of (cs := #[.string a0, .int .i64 a1, .string a2, .int .i64 (lv : Int), .int .i64 a4, .int .i64 a5, .int .i64 a6]) (t := 51) (fr := (0, 0)) ?_ rfl, cell_of (cs := #[.string a0, .int .i64 a1, .string a2, .int .i64 (lv : Int), .int .i64 a4, .int .i64 a5, .int .i64 a6]) (t := 51) (fr := (0, 0)) ?_ rfl, cell_of (cs := #[.string a0, .int .i64 a1, .string a2, .int .i64 (lv : Int), .int .i64 a4, .int .i64 a5, .int .i64 a6]) (t := 51) (fr := (0, 0)) ?_ rfl, cell_of (cs := #[.string a0, .int .i64 a1, .string a2, .int .i64 (lv : Int), .int .i64 a4, .int .i64 a5, .int .i64 a6]) (t := 51) (fr := (0, 0)) ?_ rfl, cell_of (cs := #[.string a0, .int .i64 a1, .string a2, .int .i64 (lv : Int), .int .i64 a4, .int .i64 a5, .int .i64 a6]) (t := 51) (fr := (0, 0)) ?_ rfl, cell_of (cs := #[.string a0, .int .i64 a1, .string a2, .int .i64 (lv : Int), .int .i64 a4, .int .i64 a5, .int .i64 a6]) (t := 51) (fr := (0, 0)) ?_ rfl, cell_of (cs := #[.string a0, .int .i64 a1, .string a2, .int .i64 (lv : Int), .int .i64 a4, .int .i64 a5, .int .i64 a6]) (t := 51) (fr := (0, 0)) ?_ rfl⟩ <;> ((repeat (first | with_reducible exact hx2 | with_reducible exact hx5 | with_reducible refine G_drew ?_ | with_reducible refine G_ext ?_ | with_reducible refine G_alloc ?_ | with_reducible refine G_setO hGx ?_)); done))))
                    clear hK K
                    try simp only [Act.put, List.setIfInBounds_toArray, List.set_cons_zero, List.set_cons_succ]
                    refine wpAnyH_take (i := 13) (v := ?_) (List.getElem?_toArray.trans rfl) (by kernel_rfl) (by kernel_rfl) (by kernel_rfl) (fun _ _ _ h => h) (Or.inl ⟨by rfl, ?_⟩) (by assumption) ?_
                    rotate_left 1
                    focus (intro w hSw; (try dsimp only at hSw); go_simp; first | done | with_reducible rfl)
                    try simp only [Act.put, List.setIfInBounds_toArray, List.set_cons_zero, List.set_cons_succ]
                    refine wpAnyH_ready (rs := [14]) (by kernel_rfl) (by simp) (AllReadyH.cons (List.getElem?_toArray.trans rfl) (fun K hK => ?_) AllReadyH.nil)
                    go_simp
                    refine hK.out _ _ ?_ (fun hHeld => ?_)
                    focus ((try dsimp only); ((refine ⟨cell_of (cs := #[.string a0, .int .i64 a1, .string a2, .int .i64 (lv : Int), .int .i64 a4, .int .i64 a5, .int .i64 a6]) (t := 51) (fr := (0, 0)) ?_ rfl, cell_of (cs := #[.string a0, .int .i64 a1, .string a2, .int .i64 (lv : Int), .int .i64 a4, .int .i64 a5, .int .i64 a6]) (t := 51) (fr := (0, 0)) ?_ rfl, cell_of (cs := #[.string a0, .int .i64 a1, .string a2, .int .i64 (lv : Int), .int .i64 a4, .int .i64 a5, .int .i64 a6]) (t := 51) (fr := (0, 0)) ?_ rfl, cell_of (cs := #[.string a0, .int .i64 a1, .string a2, .int .i64 (lv : Int), .int .i64 a4, .int .i64 a5, .int .i64 a6]) (t := 51) (fr := (0, 0)) ?_ rfl, cell_of (cs := #[.string a0, .int .i64 a1, .string a2, .int .i64 (lv : Int), .int .i64 a4, .int .i64 a5, .int .i64 a6]) (t := 51) (fr := (0, 0)) ?_ rfl, cell_of (cs := #[.string a0, .int .i64 a1, .string a2, .int .i64 (lv : Int), .int .i64 a4, .int .i64 a5, .int .i64 a6]) (t := 51) (fr := (0, 0)) ?_ rfl, cell_of (cs := #[.string a0, .int .i64 a1, .string a2, .int .i64 (lv : Int), .int .i64 a4, .int .i64 a5, .int .i64 a6]) (t := 51) (fr := (0, 0)) ?_ rfl⟩ <;> ((repeat (first | with_reducible exact hx2 | with_reducible exact hx5 | with_reducible refine G_drew ?_ | with_reducible refine G_ext ?_ | with_reducible refine G_alloc ?_ | with_reducible refine G_setO hGx ?_)); done))))
                    clear hK K
                    try simp only [Act.put, List.setIfInBounds_toArray, List.set_cons_zero, List.set_cons_succ]
                    refine wpAnyH_done (by kernel_rfl) ?_ _
                    have hB2 : Below G W1 w2 := Below.grown (by repeat (first | exact B_refl | exact Below.refl _ _ | assumption | with_reducible refine B_alloc ?_ _ | with_reducible refine B_ext ?_ _ | with_reducible refine B_drew ?_ | with_reducible refine B_drewN ?_ _ | with_reducible refine B_set ?_ (by simp; omega) _)) g2 (by (first | omega | (simp; done) | (simp; omega) | (simp [ext_size]; done) | (simp [ext_size]; omega))) (fun g hg => (hrow.lt g hg).1)
                    have hR2 := RowsAt.put (hR5.keep (n := W5.heap.size) (by repeat (first | exact B_refl | exact Below.refl _ _ | assumption | with_reducible refine B_alloc ?_ _ | with_reducible refine B_ext ?_ _ | with_reducible refine B_drew ?_ | with_reducible refine B_drewN ?_ _ | with_reducible refine B_set ?_ (by simp; omega) _))) HV.out HX.out h3 g2 o2
                    rw [← HLS.out, ← HT.out] at hR2
                    simp only [List.length_append, List.length_cons, List.length_nil, Nat.zero_add] at hR2
                    have hz2 := blk_lt hb2
                    go_wp2_with fail
                    go_roundw
                    case rel => exact ⟨i + 1, _, by omega, by go_num, hR2, B_set hB2 (Nat.le_refl _) _⟩
                    case measure => simp [intOf]; omega
    · have hje : j = es.length := by omega
      subst hje
      have hst : ST.take es.length = ST := by
        have h7 : ST.length = es.length := by simpa using congrArg List.length HM1.out
        rw [← h7, List.take_length]
      rw [hst] at hR
      go_wp2_with fail
      go_ret
      exact ⟨G, vs, rfl, ⟨hR.blk, by have := hB.size; omega, hR.len, fun i v xs h1 h2 => own_mono' (hR.rows i v xs h1 h2) (by have := hB.size; omega), hR.apart⟩, ext_below hBw⟩
end Go.Proofs.Ytmiobhlgpjjbgaa

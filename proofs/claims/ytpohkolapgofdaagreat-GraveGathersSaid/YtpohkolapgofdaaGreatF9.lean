/- Words for rows of stays: a block of slices, each with a row of its own. -/
/- Walk: a yard behind all events, and a site. -/
/- Walk: the stays at each level of a site. -/
import Derived.Test.YtpohkolapgofdaaGreatF4
import Derived.Test.YtpohkolapgofdaaGreatX3
import Derived.Laws.MakeOwn
import Derived.Test.YtpohkolapgofdaaGreatR3
import Derived.Test.YtpohkolapgofdaaGreatL9
import Derived.Test.YtpohkolapgofdaaGreatQB
namespace Go.Proofs.YtpohkolapgofdaaGreat
open Go.RowKit

structure RowsAt (w : World) (base g : Nat) (vs : List Value) (xss : List (List Stay)) : Prop where
  blk : w.heap[g]? = some (.cells vs.toArray 98 (0, 0))
  gb : base ≤ g
  len : vs.length = xss.length
  rows : ∀ (i : Nat) (v : Value) (xs : List Stay), vs[i]? = some v → xss[i]? = some xs → w.ownsRow base 119 7 v xs.length (xs.flatMap Stay.cells)
  apart : ∀ (i j : Nat) (v u : Value), i ≠ j → vs[i]? = some v → vs[j]? = some u → v.ownBlock = none ∨ v.ownBlock ≠ u.ownBlock
theorem RowsAt.keep {w W : World} {base g : Nat} {vs : List Value} {xss : List (List Stay)} (h : RowsAt w base g vs xss) {n : Nat} (hb : Below n w W) (hn : w.heap.size ≤ n := by first | exact Nat.le_refl _ | omega) : RowsAt W base g vs xss :=
  ⟨(hb.block g (Nat.lt_of_lt_of_le (blk_lt h.blk) hn)).trans h.blk, h.gb, h.len, fun i v xs h1 h2 => own_keep (h.rows i v xs h1 h2) hb hn, h.apart⟩
theorem RowsAt.cell {w : World} {base g : Nat} {vs : List Value} {xss : List (List Stay)} (h : RowsAt w base g vs xss) {i : Nat} {v : Value} (hv : vs[i]? = some v) : w.cell? ⟨g, i, none⟩ = some v := by
  simp [World.cell?, h.blk, hv]
theorem RowsAt.free {w : World} {base g : Nat} {vs : List Value} {xss : List (List Stay)} (h : RowsAt w base g vs xss) (i : Nat) : w.frozen? ⟨g, i, none⟩ = false := by
  simp [World.frozen?, h.blk]
theorem RowsAt.at {w : World} {base g : Nat} {vs : List Value} {xss : List (List Stay)} (h : RowsAt w base g vs xss) {i : Nat} (hi : i < xss.length) : ∃ A c, vs[i]? = some (.slice A xss[i].length c) ∧ w.cell? ⟨g, i, none⟩ = some (.slice A xss[i].length c) ∧ Sl w 7 Stay.cells A xss[i] := by
  have hi2 : i < vs.length := by rw [h.len]; exact hi
  have h1 := h.rows i vs[i] xss[i] (List.getElem?_eq_getElem hi2) (List.getElem?_eq_getElem hi)
  obtain ⟨A, c, hv, hS, _⟩ := own_sl stay_len h1
  have hv2 : vs[i]? = some (.slice A xss[i].length c) := by rw [List.getElem?_eq_getElem hi2, hv]
  exact ⟨A, c, hv2, h.cell hv2, hS⟩
theorem made_rows (n : Nat) : madeCells #[.slice none 0 0] n = (List.replicate n (.slice none 0 0)).toArray := by
  apply Array.ext
  · simp [madeCells]
  · intro i h1 h2
    simp [madeCells, Nat.mod_one]
theorem repl_some {α : Type} {n i : Nat} {a x : α} (h : (List.replicate n a)[i]? = some x) : x = a := by
  rw [List.getElem?_replicate] at h
  split at h
  · simp only [Option.some.injEq] at h; exact h.symm
  · cases h
theorem rows_made (w : World) (n base : Nat) (hb : base ≤ w.heap.size) : RowsAt (w.alloc (.cells (madeCells #[.slice none 0 0] n) 98)) base w.heap.size (List.replicate n (.slice none 0 0)) (List.replicate n []) where
  blk := by rw [heap_alloc_new, made_rows]
  gb := hb
  len := by simp
  rows := fun i v xs h1 h2 => by
    obtain rfl := repl_some h1
    obtain rfl := repl_some h2
    exact World.ownsRow_nil _ _ _ _
  apart := fun i j v u _ h1 _ => by
    obtain rfl := repl_some h1
    exact .inl rfl
/-- A stay is put behind the row number lv. -/
theorem RowsAt.put {W w2 : World} {base g lv : Nat} {vs : List Value} {xss : List (List Stay)} {v v' : Value} {xs : List Stay} {x : Stay} (h : RowsAt W base g vs xss) (hv : vs[lv]? = some v) (hx : xss[lv]? = some xs)
    (hown : w2.ownsRow base 119 7 v' (xs ++ [x]).length ((xs ++ [x]).flatMap Stay.cells)) (hg : W.grownBy w2 v.ownBlock) (ho : v'.ownBlock = v.ownBlock ∨ v'.ownBlock = some W.heap.size) :
    RowsAt (w2.setCell ⟨g, lv, none⟩ v') base g (vs.set lv v') (xss.set lv (xs ++ [x])) := by
  have h0 := h.rows lv v xs hv hx
  have hne : some g ≠ v.ownBlock := own_ne h0 h.blk (by decide)
  have hb2 := (hg.block g (blk_lt h.blk) hne).trans h.blk
  have hne2 : some g ≠ v'.ownBlock := own_ne hown hb2 (by decide)
  have hset := grown_set w2 g lv v'
  have hlv := (List.getElem?_eq_some_iff.1 hv).1
  have hget : ∀ (i : Nat) (u : Value), (vs.set lv v')[i]? = some u → (i = lv ∧ u = v') ∨ (i ≠ lv ∧ vs[i]? = some u) := fun i u hu => by
    rw [List.getElem?_set] at hu
    split at hu
    · rename_i e
      simp only [Option.some.injEq] at hu
      exact .inl ⟨e.symm, hu.symm⟩
    · rename_i e
      exact .inr ⟨fun e' => e e'.symm, hu⟩
  have hlt : ∀ (i : Nat) (u : Value), vs[i]? = some u → u.ownBlock ≠ some W.heap.size := fun i u hu e => by
    have hi := (List.getElem?_eq_some_iff.1 hu).1
    have hi2 : i < xss.length := by rw [← h.len]; exact hi
    have := ((h.rows i u xss[i] hu (List.getElem?_eq_getElem hi2)).lt _ e).2
    omega
  refine ⟨?_, h.gb, by simp [h.len], fun i u ys h1 h2 => ?_, fun i j u u' hij h1 h2 => ?_⟩
  · rw [Joins.block_setCell hb2]
    simp
  · rcases hget i u h1 with ⟨rfl, rfl⟩ | ⟨hi, h1⟩
    · have hxl := (List.getElem?_eq_some_iff.1 hx).1
      rw [List.getElem?_set_self hxl] at h2
      simp only [Option.some.injEq] at h2
      subst h2
      exact hown.kept hset (.inr (Ne.symm hne2))
    · rw [List.getElem?_set, if_neg (fun e => hi e.symm)] at h2
      have h3 := h.rows i u ys h1 h2
      have h4 := h3.kept hg (h.apart i lv u v hi h1 hv)
      exact h4.kept hset (.inr (Ne.symm (own_ne h3 h.blk (by decide))))
  · rcases hget i u h1 with ⟨rfl, rfl⟩ | ⟨hi, h1'⟩
    · rcases hget j u' h2 with ⟨rfl, rfl⟩ | ⟨hj, h2'⟩
      · exact absurd rfl hij
      · rcases ho with e | e
        · rw [e]
          exact h.apart i j v u' hij hv h2'
        · rw [e]
          exact .inr (Ne.symm (hlt j u' h2'))
    · rcases hget j u' h2 with ⟨rfl, rfl⟩ | ⟨hj, h2'⟩
      · rcases ho with e | e
        · rw [e]
          exact h.apart i j u v hij h1' hv
        · rw [e]
          exact .inr (hlt i u h1')
      · exact h.apart i j u u' hij h1' h2'
end Go.Proofs.YtpohkolapgofdaaGreat
namespace Go.Proofs.YtpohkolapgofdaaGreat
open Go.RowKit
attribute [local go_sem] World.cell?_alloc_mark ext_size ext_cell ext_frozen lt_add_r lt_add_r2 lt_add_r3 lt_add_r4 lt_add_r5 lt_add_r6 lt_add_r7 lt_add_r8
attribute [local go_sem] ext_setCell alloc_setCell_lt

def Site.v (s : Site) : Value := .agg #[.string s.name, .int .i64 s.kind, .int .i64 s.soil, .int .i64 s.depth, .int .i64 s.step, .int .i64 s.room]
def wsErr (p : Bk × Int) (ss : List Site) (nm : ByteArray) : Int := if p.2 != 0 then p.2 else if (findSite nm ss).isSome then 0 else 6
def WsPost (w : World) (ss : List Site) (rs : List Rest) (p : Bk × Int) (nm : ByteArray) (e : Ending) (w' : World) : Prop :=
  (wsErr p ss nm ≠ 0 ∧ Ret w (.tuple #[.pointer none, zeroSite.v, .int .i64 (wsErr p ss nm)]) e w') ∨
  (wsErr p ss nm = 0 ∧ ∃ s bb, findSite nm ss = some s ∧ e = .returned (.tuple #[.pointer (some ⟨bb, 0, none⟩), s.v, .int .i64 0]) ∧ Env w' w.heap.size bb p.1 ss rs ∧ ∃ z, w' = w.ext z)
theorem WsPost.bad {w w' : World} {ss : List Site} {rs : List Rest} {p : Bk × Int} {nm : ByteArray} {e : Ending} (h : WsPost w ss rs p nm e w') (h0 : (wsErr p ss nm != 0) = true) : e = .returned (.tuple #[.pointer none, zeroSite.v, .int .i64 (wsErr p ss nm)]) ∧ ∃ z, w' = w.ext z := by
  rcases h with ⟨_, h⟩ | ⟨h, _⟩
  · exact h
  · simp [h] at h0
theorem WsPost.ok {w w' : World} {ss : List Site} {rs : List Rest} {p : Bk × Int} {nm : ByteArray} {e : Ending} {s : Site} (h : WsPost w ss rs p nm e w') (h0 : (wsErr p ss nm != 0) = false) (hs : findSite nm ss = some s) :
    ∃ base bb, e = .returned (.tuple #[.pointer (some ⟨bb, 0, none⟩), s.v, .int .i64 0]) ∧ Hid (w.heap.size ≤ base) ∧ Env w' base bb p.1 ss rs ∧ ∃ z, w' = w.ext z := by
  rcases h with ⟨h, _⟩ | ⟨_, h⟩
  · simp at h0; exact absurd h0 h
  · obtain ⟨s', bb, h1, h2, h3, h4⟩ := h
    rw [hs] at h1
    cases h1
    exact ⟨_, bb, h2, Nat.le_refl _, h3, h4⟩
theorem results_tct {fn : Func} {p q u : Tmp} {ty : TypeId} (h : fn.results = #[.tmp p, .cell q ty, .tmp u]) (tmps : Array Value) (P : Program) (w : World) :
    (results fn tmps).run P w = ((asAddr (tmps.getD q undef)).run P w).andThen fun a w₁ => ((loadVar ty a).run P w₁).andThen fun v w₂ => .ok (.tuple #[tmps.getD p undef, v, tmps.getD u undef]) w₂ := by
  simp only [results, h]
  simp [Sem.run_bind, Result.andThen]
theorem results_ws {fn : Func} {p q u : Tmp} (h : fn.results = #[.tmp p, .cell q 78, .tmp u]) (tmps : Array Value) (w : World) (B : Nat) (s : Site) (x y : Value) (hp : tmps.getD p undef = x) (hq : tmps.getD q undef = .pointer (some ⟨B, 0, none⟩)) (hu : tmps.getD u undef = y)
    (h0 : w.cell? ⟨B, 0, none⟩ = some (.string s.name)) (h1 : w.cell? ⟨B, 1, none⟩ = some (.int .i64 s.kind)) (h2 : w.cell? ⟨B, 2, none⟩ = some (.int .i64 s.soil)) (h3 : w.cell? ⟨B, 3, none⟩ = some (.int .i64 s.depth))
    (h4 : w.cell? ⟨B, 4, none⟩ = some (.int .i64 s.step)) (h5 : w.cell? ⟨B, 5, none⟩ = some (.int .i64 s.room)) : (results fn tmps).run Tryz.prog w = .ok (.tuple #[x, s.v, y]) w := by
  rw [results_tct h, hq, hp, hu]
  unfold Site.v
  go_simp
theorem adds_yard {ss : List Site} {rs : List Rest} : ∀ (es : List Event) (k : Bk), (addsP ss rs k es).1.A = k.A ∧ (addsP ss rs k es).1.R = k.R
  | [], _ => ⟨rfl, rfl⟩
  | e :: l, k => by
    unfold addsP
    split
    · exact ⟨rfl, rfl⟩
    · exact adds_yard l _
theorem readP_yard (ss : List Site) (rs : List Rest) (A R : Option Addr) (n c rn rc : Nat) (c0 c1 c2 : Int) (es : List Event) : (readP ss rs (bk0 A n c R rn rc c0 c1 c2) es).1.A = A ∧ (readP ss rs (bk0 A n c R rn rc c0 c1 c2) es).1.R = R := by
  unfold readP
  split
  · exact ⟨rfl, rfl⟩
  split
  · exact ⟨rfl, rfl⟩
  · exact adds_yard es _
theorem upTo_yard {ss : List Site} {rs : List Rest} {day : Int} : ∀ (es : List Event) (k : Bk), (upToP ss rs day k es).A = k.A ∧ (upToP ss rs day k es).R = k.R
  | [], _ => ⟨rfl, rfl⟩
  | e :: l, k => by
    unfold upToP
    split
    · split
      · exact upTo_yard l _
      · exact upTo_yard l _
    · exact upTo_yard l _
/-- A book stays when a block below its own memory is turned. -/
theorem BookAt.turned {w W : World} {base bb g : Nat} {k : Bk} (h : BookAt w base bb k) (hg : w.grownBy W (some g)) (hgb : g < base) : BookAt W base bb k := by
  obtain ⟨v, bm, h1, h2, h3, h4, h5⟩ := h
  have hne : ∀ b, base ≤ b → some b ≠ some g := fun b hb e => by
    have : b = g := by simpa using e
    omega
  refine ⟨v, bm, (hg.block bb (blk_lt h1) (hne bb h4)).trans h1, h2.kept hg ?_, h3.keep (hg.block bm h3.lt (hne bm h5)), h4, h5⟩
  refine .inr ?_
  intro e
  have h6 := own_ge h2 g (by first | exact e | exact e.symm)
  omega
theorem Env.turned {w W W' : World} {base bb g n c rn rc : Nat} {k : Bk} {ss : List Site} {rs : List Rest} {A R : Option Addr} (h : Env W base bb k ss rs) (hg : W.grownBy W' (some g)) (hgb : g < base) (hA : k.A = A) (hR : k.R = R) (hy : YardIn w ss rs A n c R rn rc) (hB : Below w.heap.size w W') : Env W' base bb k ss rs :=
  ⟨h.bk.turned hg hgb, by rw [hA]; exact hy.sl.keep hB, by rw [hR]; exact hy.sr.keep hB, h.hn, h.hrn, h.cap, h.l1, h.l2, h.l3, h.good, h.short, h.lies⟩
theorem alloc_swap (w : World) (o o' : Obj) (z : Ez) : ((w.alloc o).ext z).grownBy ((w.alloc o').ext z) (some w.heap.size) := by
  refine ⟨rfl, rfl, rfl, by simp [ext_size], fun i hi hne => ?_⟩
  have hne' : i ≠ w.heap.size := fun e => hne (by rw [e])
  simp only [World.ext, Array.getElem?_append, World.size_alloc, alloc_get]
  split
  · simp [hne']
  · rfl
set_option maxRecDepth 100000 in
set_option maxHeartbeats 2000000 in
theorem withSite_any (ss : List Site) (rs : List Rest) (A R : Option Addr) (n c rn rc : Nat) (c0 c1 c2 : Int) (es : List Event) (L : Option Addr) (ln lc : Nat) (nm : ByteArray) (w : World) (hy : YardIn w ss rs A n c R rn rc) (hev : EventsIn w es L ln) :
    Calls Tryz.prog 37 #[.agg #[.slice A n c, .slice R rn rc, .int .i64 c0, .int .i64 c1, .int .i64 c2], .slice L ln lc, .string nm] w (WsPost w ss rs (readP ss rs (bk0 A n c R rn rc c0 c1 c2) es) nm) := by
  have HR := fun W h1 h2 => read_any ss rs A R n c rn rc c0 c1 c2 es L ln lc W h1 h2
  obtain ⟨hkA, hkR⟩ := readP_yard ss rs A R n c rn rc c0 c1 c2 es
  generalize readP ss rs (bk0 A n c R rn rc c0 c1 c2) es = p at *
  obtain ⟨k, er⟩ := p
  dsimp only at hkA hkR
  have HKA := Lib.hid hkA
  have HKR := Lib.hid hkR
  clear hkA hkR
  have hres := site_res hy.sl nm
  have hln := hy.hn
  subst hln
  have hl1 := hy.l1
  go_enter Tryz.func37, Tryz.ntmps37
  cases hq : (er != 0)
  · have HQ := Lib.hid hq
    clear hq
    cases hf : findSite nm ss with
    | none =>
      rw [hf] at hres
      have hp : sitePtr A nm ss = none := hres
      have HX : Hid (wsErr (k, er) ss nm = 6) := by show _ = _; unfold wsErr; dsimp only; rw [HQ.out, hf]; rfl
      clear hres hf
      go_wp2_with (first
        | (go_at_call 46; refine (HR _ (hy.keep (by repeat (first | exact B_refl | exact Below.refl _ _ | assumption | with_reducible refine B_alloc ?_ _ | with_reducible refine B_ext ?_ _ | with_reducible refine B_drew ?_ | with_reducible refine B_drewN ?_ _ | with_reducible refine B_set ?_ (by simp; omega) _))) (hev.keep (by repeat (first | exact B_refl | exact Below.refl _ _ | assumption | with_reducible refine B_alloc ?_ _ | with_reducible refine B_ext ?_ _ | with_reducible refine B_drew ?_ | with_reducible refine B_drewN ?_ _ | with_reducible refine B_set ?_ (by simp; omega) _)))).mono ?_; intro e wq hpq; obtain ⟨base, bb, rfl, hbs, henv, zq, rfl⟩ := hpq.ok HQ.out; clear hpq)
        | (go_at_call 63; refine (siteOf_any ss _ _ _ _ _ _ _ _ _ _ _ hy.hn (hy.sl.keep (n := w.heap.size) (by repeat (first | exact B_refl | exact Below.refl _ _ | assumption | with_reducible refine B_alloc ?_ _ | with_reducible refine B_ext ?_ _ | with_reducible refine B_drew ?_ | with_reducible refine B_drewN ?_ _ | with_reducible refine B_set ?_ (by simp; omega) _))) (by omega)).mono ?_; rintro e wq ⟨rfl, zs, rfl⟩))
      refine bodyPost_ret (v := .tuple #[.pointer none, zeroSite.v, .int .i64 6]) (results_ws rfl _ _ (w.heap.size + 1) zeroSite _ _ rfl rfl rfl (by simp [go_sem, zeroSite]) (by simp [go_sem, zeroSite]) (by simp [go_sem, zeroSite]) (by simp [go_sem, zeroSite]) (by simp [go_sem, zeroSite]) (by simp [go_sem, zeroSite])) rfl ?_
      exact .inl ⟨by rw [HX.out]; decide, Ret.of (by rw [HX.out]) (by repeat (first | exact B_refl | exact Below.refl _ _ | assumption | with_reducible refine B_alloc ?_ _ | with_reducible refine B_ext ?_ _ | with_reducible refine B_drew ?_ | with_reducible refine B_drewN ?_ _ | with_reducible refine B_set ?_ (by simp; omega) _))⟩
    | some s =>
      have HF := Lib.hid hf
      have HX : Hid (wsErr (k, er) ss nm = 0) := by show _ = _; unfold wsErr; dsimp only; rw [HQ.out, hf]; rfl
      rw [hf] at hres
      obtain ⟨b, off, hp, hb, hcs⟩ := hres
      have x0 : w.cell? ⟨b, off, none⟩ = some (.string s.name) := hcs 0 _ rfl
      have x1 : w.cell? ⟨b, off + 1, none⟩ = some (.int .i64 s.kind) := hcs 1 _ rfl
      have x2 : w.cell? ⟨b, off + 2, none⟩ = some (.int .i64 s.soil) := hcs 2 _ rfl
      have x3 : w.cell? ⟨b, off + 3, none⟩ = some (.int .i64 s.depth) := hcs 3 _ rfl
      have x4 : w.cell? ⟨b, off + 4, none⟩ = some (.int .i64 s.step) := hcs 4 _ rfl
      have x5 : w.cell? ⟨b, off + 5, none⟩ = some (.int .i64 s.room) := hcs 5 _ rfl
      clear hcs hf
      obtain ⟨a, kd, so, d, st, r⟩ := s
      dsimp only at x0 x1 x2 x3 x4 x5
      go_wp2_with (first
        | (go_at_call 46; refine (HR _ (hy.keep (by repeat (first | exact B_refl | exact Below.refl _ _ | assumption | with_reducible refine B_alloc ?_ _ | with_reducible refine B_ext ?_ _ | with_reducible refine B_drew ?_ | with_reducible refine B_drewN ?_ _ | with_reducible refine B_set ?_ (by simp; omega) _))) (hev.keep (by repeat (first | exact B_refl | exact Below.refl _ _ | assumption | with_reducible refine B_alloc ?_ _ | with_reducible refine B_ext ?_ _ | with_reducible refine B_drew ?_ | with_reducible refine B_drewN ?_ _ | with_reducible refine B_set ?_ (by simp; omega) _)))).mono ?_; intro e wq hpq; obtain ⟨base, bb, rfl, hbs, henv, zq, rfl⟩ := hpq.ok HQ.out; clear hpq)
        | (go_at_call 63; refine (siteOf_any ss _ _ _ _ _ _ _ _ _ _ _ hy.hn (hy.sl.keep (n := w.heap.size) (by repeat (first | exact B_refl | exact Below.refl _ _ | assumption | with_reducible refine B_alloc ?_ _ | with_reducible refine B_ext ?_ _ | with_reducible refine B_drew ?_ | with_reducible refine B_drewN ?_ _ | with_reducible refine B_set ?_ (by simp; omega) _))) (by omega)).mono ?_; rintro e wq ⟨rfl, zs, rfl⟩))
      go_region
      all_goals go_wp2_with fail
      all_goals refine bodyPost_ret (v := .tuple #[.pointer (some ⟨bb, 0, none⟩), Site.v ⟨a, kd, so, d, st, r⟩, .int .i64 0]) (results_ws rfl _ _ (w.heap.size + 1) ⟨a, kd, so, d, st, r⟩ _ _ rfl rfl rfl (by simp [go_sem, zeroSite]) (by simp [go_sem, zeroSite]) (by simp [go_sem, zeroSite]) (by simp [go_sem, zeroSite]) (by simp [go_sem, zeroSite]) (by simp [go_sem, zeroSite])) rfl ?_
      all_goals exact .inr ⟨HX.out, _, bb, HF.out, rfl, ((henv.turned (alloc_swap _ _ (.cells #[.string a, .int .i64 kd, .int .i64 so, .int .i64 d, .int .i64 st, .int .i64 r] 78) _) (by have := hbs.out; simp at this ⊢; omega) HKA.out HKR.out hy (by repeat (first | exact B_refl | exact Below.refl _ _ | assumption | with_reducible refine B_alloc ?_ _ | with_reducible refine B_ext ?_ _ | with_reducible refine B_drew ?_ | with_reducible refine B_drewN ?_ _ | with_reducible refine B_set ?_ (by simp; omega) _))).keep (n := (World.ext ((w.alloc (.cells #[.slice A ss.length c, .slice R rn rc, .int .i64 c0, .int .i64 c1, .int .i64 c2] 26)).alloc (.cells #[.string a, .int .i64 kd, .int .i64 so, .int .i64 d, .int .i64 st, .int .i64 r] 78)) zq).heap.size) (by repeat (first | exact B_refl | exact Below.refl _ _ | assumption | with_reducible refine B_alloc ?_ _ | with_reducible refine B_ext ?_ _ | with_reducible refine B_drew ?_ | with_reducible refine B_drewN ?_ _ | with_reducible refine B_set ?_ (by simp; omega) _))).mono (by have := hbs.out; simp at this; omega), ext_below (by repeat (first | exact B_refl | exact Below.refl _ _ | assumption | with_reducible refine B_alloc ?_ _ | with_reducible refine B_ext ?_ _ | with_reducible refine B_drew ?_ | with_reducible refine B_drewN ?_ _ | with_reducible refine B_set ?_ (by simp; omega) _))⟩
  · have HQ := Lib.hid hq
    have HX : Hid (wsErr (k, er) ss nm = er) := by show _ = _; unfold wsErr; dsimp only; rw [HQ.out]; rfl
    go_wp2_with (go_at_call 46; refine (HR _ (hy.keep (by repeat (first | exact B_refl | exact Below.refl _ _ | assumption | with_reducible refine B_alloc ?_ _ | with_reducible refine B_ext ?_ _ | with_reducible refine B_drew ?_ | with_reducible refine B_drewN ?_ _ | with_reducible refine B_set ?_ (by simp; omega) _))) (hev.keep (by repeat (first | exact B_refl | exact Below.refl _ _ | assumption | with_reducible refine B_alloc ?_ _ | with_reducible refine B_ext ?_ _ | with_reducible refine B_drew ?_ | with_reducible refine B_drewN ?_ _ | with_reducible refine B_set ?_ (by simp; omega) _)))).mono ?_; intro e wq hpq; obtain ⟨rfl, zq, rfl⟩ := hpq.bad HQ.out; clear hpq)
    refine bodyPost_ret (v := .tuple #[.pointer none, zeroSite.v, .int .i64 er]) (results_ws rfl _ _ (w.heap.size + 1) zeroSite _ _ rfl rfl rfl (by simp [go_sem, zeroSite]) (by simp [go_sem, zeroSite]) (by simp [go_sem, zeroSite]) (by simp [go_sem, zeroSite]) (by simp [go_sem, zeroSite]) (by simp [go_sem, zeroSite])) rfl ?_
    exact .inl ⟨by rw [HX.out]; simpa using HQ.out, Ret.of (by rw [HX.out]) (by repeat (first | exact B_refl | exact Below.refl _ _ | assumption | with_reducible refine B_alloc ?_ _ | with_reducible refine B_ext ?_ _ | with_reducible refine B_drew ?_ | with_reducible refine B_drewN ?_ _ | with_reducible refine B_set ?_ (by simp; omega) _))⟩
end Go.Proofs.YtpohkolapgofdaaGreat
namespace Go.Proofs.YtpohkolapgofdaaGreat
open Go.RowKit
attribute [local go_sem] World.cell?_alloc_mark ext_size ext_cell ext_frozen lt_add_r lt_add_r2 lt_add_r3 lt_add_r4 lt_add_r5 lt_add_r6 lt_add_r7 lt_add_r8

def hereP (l : Lot) (nm : ByteArray) : Bool := (l.state == 1 || l.state == 3) && l.site.toList == nm.toList
theorem cell_of {w : World} {g i : Nat} {cs : Array Value} {t : TypeId} {fr : Nat × Nat} {v : Value} (h : w.heap[g]? = some (.cells cs t fr)) (hv : cs[i]? = some v) : w.cell? ⟨g, i, none⟩ = some v := by
  simp only [World.cell?, h]
  exact hv
theorem G_setO {w : World} {g k i : Nat} {u : Value} {x : Obj} (h : ¬ k = g) (hx : w.heap[k]? = some x) : (w.setCell ⟨g, i, none⟩ u).heap[k]? = some x := (heap_setCell_other w ⟨g, i, none⟩ k u h).trans hx
set_option maxRecDepth 100000 in
set_option maxHeartbeats 2000000 in
theorem here_any (rm : ByteArray) (st : Int) (si : ByteArray) (lv co sc : Int) (nm : ByteArray) (w : World) :
    Calls Tryz.prog 65 #[.agg #[.string rm, .int .i64 st, .string si, .int .i64 lv, .int .i64 co, .int .i64 sc], .string nm] w (Ret w (.bool (hereP ⟨rm, st, si, lv, co, sc⟩ nm))) := by
  go_enter Tryz.func65, Tryz.ntmps65
  cases h1 : (st == 1) <;> cases h2 : (st == 3) <;> cases h3 : (si.toList == nm.toList) <;> (go_wp2_with fail; go_ret; exact Ret.of (by simp [hereP, h1, h2, h3]) (by repeat (first | exact B_refl | exact Below.refl _ _ | assumption | with_reducible refine B_alloc ?_ _ | with_reducible refine B_ext ?_ _ | with_reducible refine B_drew ?_ | with_reducible refine B_drewN ?_ _ | with_reducible refine B_set ?_ (by simp; omega) _)))
theorem here_false {ss : List Site} {l : Lot} {nm : ByteArray} (hp : PlacedS ss l) (hn : nm ≠ ⟨#[]⟩) (h : hereP l nm = false) : (l.site.toList == nm.toList) = false := by
  unfold hereP at h
  cases hq : (l.site.toList == nm.toList)
  · rfl
  · rw [hq, Bool.and_true, Bool.or_eq_false_iff] at h
    rcases hp with ⟨h1, _⟩ | ⟨h1, _⟩
    · exfalso
      apply hn
      rw [← bytes_ext (eq_of_beq hq), h1]
    · exfalso
      rcases h1 with h1 | h1
      · rw [h1] at h; simp at h
      · rw [h1] at h; simp at h
theorem here_true {ss : List Site} {l : Lot} {nm : ByteArray} {s : Site} (hp : PlacedS ss l) (hs : findSite nm ss = some s) (h : hereP l nm = true) : (l.site.toList == nm.toList) = true ∧ 0 ≤ l.level ∧ l.level < s.room := by
  unfold hereP at h
  simp only [Bool.and_eq_true, Bool.or_eq_true, beq_iff_eq] at h
  obtain ⟨h1, h2⟩ := h
  refine ⟨by simpa using h2, ?_⟩
  rcases hp with ⟨_, h3, h4⟩ | ⟨_, s', h3, h4, h5⟩
  · rcases h1 with h1 | h1
    · exact absurd h1 h3
    · exact absurd h1 h4
  · rw [bytes_ext h2, hs] at h3
    cases h3
    exact ⟨h4, h5⟩

/-- The stays at each level. -/
def LevOk (w : World) (xss : List (List Stay)) (n : Nat) (e : Ending) (w' : World) : Prop :=
  ∃ g vs, e = .returned (.tuple #[.slice (some ⟨g, 0, none⟩) n n, .int .i64 0]) ∧ RowsAt w' w.heap.size g vs xss ∧ ∃ z, w' = w.ext z
end Go.Proofs.YtpohkolapgofdaaGreat

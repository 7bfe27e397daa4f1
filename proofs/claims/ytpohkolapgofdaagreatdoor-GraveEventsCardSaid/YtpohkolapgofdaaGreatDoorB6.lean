/- Walks: a new book, a book behind events. -/
/- Walks: the day on which a remain's rest is over; where a remain is. -/
import Derived.Test.YtpohkolapgofdaaGreatDoorC1
import Derived.Test.YtpohkolapgofdaaGreatDoorI1
namespace Go.Proofs.YtpohkolapgofdaaGreatDoor
open Go.RowKit
attribute [local go_sem] World.cell?_alloc_mark ext_size ext_cell ext_frozen lt_add_r lt_add_r2 lt_add_r3 lt_add_r4 lt_add_r5 lt_add_r6 lt_add_r7 lt_add_r8
attribute [local go_sem] ext_setCell alloc_setCell_lt

def NewPost (w : World) (k : Bk) (e : Ending) (w' : World) : Prop := ∃ bb, e = .returned (.pointer (some ⟨bb, 0, none⟩)) ∧ BookAt w' w.heap.size bb k ∧ Below w.heap.size w w'
set_option maxRecDepth 100000 in
set_option maxHeartbeats 2000000 in
theorem newBook_any (A R : Option Addr) (n c rn rc : Nat) (c0 c1 c2 : Int) (w : World) :
    Calls Tryz.prog 76 #[.agg #[.slice A n c, .slice R rn rc, .int .i64 c0, .int .i64 c1, .int .i64 c2]] w (NewPost w (bk0 A n c R rn rc c0 c1 c2)) := by
  have hmm := @run_makeMap Tryz.prog
  go_enter Tryz.func76, Tryz.ntmps76
  go_wp2_with fail
  go_ret
  refine ⟨w.heap.size + 1 + 1, rfl, ⟨.slice none 0 0, w.heap.size + 1, ?_, World.ownsRow_nil _ _ _ _, ?_, by omega, by omega⟩, by repeat (first | exact Below.refl _ _ | exact Below.refl (World.heap _).size _ | assumption | refine B_alloc ?_ _ | refine B_ext ?_ _ | refine B_drew ?_ | refine B_drewN ?_ _ | refine B_set ?_ (by simp; omega) _)⟩
  · rw [alloc_get, if_pos (by simp)]
    rfl
  · have h := MapAt.new (ek := ekS) (ev := evI) (w.alloc (.cells #[.slice A n c, .slice R rn rc, .int .i64 c0, .int .i64 c1, .int .i64 c2] 40))
    rw [World.size_alloc] at h
    exact h.alloc _

theorem BookAt.mono {w : World} {base base' bb : Nat} {k : Bk} (h : BookAt w base bb k) (hb : base' ≤ base) : BookAt w base' bb k := by
  obtain ⟨v, bm, h1, h2, h3, h4, h5⟩ := h
  refine ⟨v, bm, h1, ⟨h2.1, ?_⟩, h3, by omega, by omega⟩
  rcases h2.2 with h | ⟨g, cap, cur, e1, e2, e3⟩
  · exact .inl h
  · exact .inr ⟨g, cap, cur, e1, by omega, e3⟩
theorem AddPost.ok {w w' : World} {base bb : Nat} {k : Bk} {p : Lot × Int} {ev : Event} {e : Ending} (h : AddPost w base bb k p ev e w') (h0 : (p.2 != 0) = false) : e = .returned (.int .i64 0) ∧ BookAt w' base bb (addK k ev p.1) ∧ Below base w w' := by
  rcases h with ⟨h, _⟩ | ⟨_, h⟩
  · simp at h0; exact absurd h0 h
  · exact h
theorem AddPost.bad {w w' : World} {base bb : Nat} {k : Bk} {p : Lot × Int} {ev : Event} {e : Ending} (h : AddPost w base bb k p ev e w') (h0 : (p.2 != 0) = true) : e = .returned (.int .i64 p.2) ∧ ∃ z, w' = w.ext z := by
  rcases h with ⟨_, h⟩ | ⟨h, _⟩
  · exact h
  · simp [h] at h0

def ReadPost (w : World) (ss : List Site) (rs : List Rest) (p : Bk × Int) (e : Ending) (w' : World) : Prop :=
  (p.2 ≠ 0 ∧ Ret w (.tuple #[.pointer none, .int .i64 p.2]) e w') ∨ (p.2 = 0 ∧ ∃ bb, e = .returned (.tuple #[.pointer (some ⟨bb, 0, none⟩), .int .i64 0]) ∧ Env w' w.heap.size bb p.1 ss rs ∧ ∃ z, w' = w.ext z)

theorem ReadPost.bad {w w' : World} {ss : List Site} {rs : List Rest} {p : Bk × Int} {e : Ending} (h : ReadPost w ss rs p e w') (h0 : (p.2 != 0) = true) : e = .returned (.tuple #[.pointer none, .int .i64 p.2]) ∧ ∃ z, w' = w.ext z := by
  rcases h with ⟨_, h⟩ | ⟨h, _⟩
  · exact h
  · simp [h] at h0
theorem ReadPost.ok {w w' : World} {ss : List Site} {rs : List Rest} {p : Bk × Int} {e : Ending} (h : ReadPost w ss rs p e w') (h0 : (p.2 != 0) = false) : ∃ base bb, e = .returned (.tuple #[.pointer (some ⟨bb, 0, none⟩), .int .i64 0]) ∧ Hid (w.heap.size ≤ base) ∧ Env w' base bb p.1 ss rs ∧ ∃ z, w' = w.ext z := by
  rcases h with ⟨h, _⟩ | ⟨_, h⟩
  · simp at h0; exact absurd h0 h
  · obtain ⟨bb, h1, h2, h3⟩ := h
    exact ⟨_, bb, h1, Nat.le_refl _, h2, h3⟩

set_option maxRecDepth 100000 in
set_option maxHeartbeats 2000000 in
theorem read_any (ss : List Site) (rs : List Rest) (A R : Option Addr) (n c rn rc : Nat) (c0 c1 c2 : Int) (es : List Event) (L : Option Addr) (ln lc : Nat) (w : World) (hy : YardIn w ss rs A n c R rn rc) (hev : EventsIn w es L ln) :
    Calls Tryz.prog 48 #[.agg #[.slice A n c, .slice R rn rc, .int .i64 c0, .int .i64 c1, .int .i64 c2], .slice L ln lc] w (ReadPost w ss rs (readP ss rs (bk0 A n c R rn rc c0 c1 c2) es)) := by
  have hln := hev.hn
  subst hln
  have hl1 := hev.l1
  go_enter Tryz.func48, Tryz.ntmps48
  cases hcy : (checkYardP ss rs c0 c1 c2 != 0)
  · have HCY := Lib.hid hcy
    by_cases hbig : 300 < (es.length : Int)
    · go_wp2_with (go_at_call 75; refine (checkYard_any ss rs _ _ _ _ _ _ _ _ _ _ hy.hn hy.hrn (hy.sl.keep (by repeat (first | exact Below.refl _ _ | exact Below.refl (World.heap _).size _ | assumption | refine B_alloc ?_ _ | refine B_ext ?_ _ | refine B_drew ?_ | refine B_drewN ?_ _ | refine B_set ?_ (by simp; omega) _))) (hy.sr.keep (by repeat (first | exact Below.refl _ _ | exact Below.refl (World.heap _).size _ | assumption | refine B_alloc ?_ _ | refine B_ext ?_ _ | refine B_drew ?_ | refine B_drewN ?_ _ | refine B_set ?_ (by simp; omega) _))) hy.cap hy.l1 hy.l2 hy.sh).mono ?_; rintro e wq ⟨rfl, zq, rfl⟩)
      go_ret2
      exact .inl ⟨by simp [readP, bk0, HCY.out, hbig], Ret.of (by simp [readP, bk0, HCY.out, hbig]) (by repeat (first | exact Below.refl _ _ | exact Below.refl (World.heap _).size _ | assumption | refine B_alloc ?_ _ | refine B_ext ?_ _ | refine B_drew ?_ | refine B_drewN ?_ _ | refine B_set ?_ (by simp; omega) _))⟩
    · go_wp2_with (first | (go_at_call 75; refine (checkYard_any ss rs _ _ _ _ _ _ _ _ _ _ hy.hn hy.hrn (hy.sl.keep (by repeat (first | exact Below.refl _ _ | exact Below.refl (World.heap _).size _ | assumption | refine B_alloc ?_ _ | refine B_ext ?_ _ | refine B_drew ?_ | refine B_drewN ?_ _ | refine B_set ?_ (by simp; omega) _))) (hy.sr.keep (by repeat (first | exact Below.refl _ _ | exact Below.refl (World.heap _).size _ | assumption | refine B_alloc ?_ _ | refine B_ext ?_ _ | refine B_drew ?_ | refine B_drewN ?_ _ | refine B_set ?_ (by simp; omega) _))) hy.cap hy.l1 hy.l2 hy.sh).mono ?_; rintro e wq ⟨rfl, zq, rfl⟩) | (go_at_call 76; refine (newBook_any _ _ _ _ _ _ _ _ _ _).mono ?_; rintro e wn ⟨bb, rfl, hbk, hbn⟩))
      obtain ⟨hs1, hs2⟩ := checkYard_small (show checkYardP ss rs c0 c1 c2 = 0 by simpa using HCY.out)
      have hB : Below w.heap.size w wn := Below.trans (by repeat (first | exact Below.refl _ _ | exact Below.refl (World.heap _).size _ | assumption | refine B_alloc ?_ _ | refine B_ext ?_ _ | refine B_drew ?_ | refine B_drewN ?_ _ | refine B_set ?_ (by simp; omega) _)) (hbn.mono (by simp [ext_size]; omega))
      have hbk2 := hbk.mono (base' := w.heap.size) (by simp [ext_size]; omega)
      have hR : Hid (readP ss rs (bk0 A n c R rn rc c0 c1 c2) es = addsP ss rs (bk0 A n c R rn rc c0 c1 c2) es) := by
        show _ = _
        rw [readP, if_neg (by have := HCY.out; simpa [bk0] using this), if_neg (by simpa using hbig)]
      clear hbk hbn hcy HCY
      go_loopw [9, 10, 23] (fun _ _ i wr => ∃ (j : Nat) (k : Bk), j ≤ es.length ∧ i = .int .i64 j ∧ addsP ss rs (bk0 A n c R rn rc c0 c1 c2) es = addsP ss rs k (es.drop j) ∧ BookAt wr w.heap.size bb k ∧ Below w.heap.size w wr ∧ k.yard = (A, n, c, R, rn, rc, c0, c1, c2) ∧ Inv k ss ∧ k.st.length ≤ j) (fun _ _ i _ => es.length - (intOf i).toNat)
      case atStart => exact ⟨0, _, Nat.zero_le _, rfl, rfl, hbk2, hB, rfl, inv0 _ _ _ _ _ _ _ _ _ _, Nat.le_refl _⟩
      case round =>
        obtain ⟨j, k, hj, rfl, hf, hbk, hBr, hyd, hiv, hkl⟩ := hrel
        have hYD := Lib.hid hyd
        clear hyd hbk2 hB
        by_cases hlt : j < es.length
        · rw [List.drop_eq_getElem_cons hlt, addsP] at hf
          obtain ⟨b, off, rfl, hb, hc⟩ := (hev.sl.keep hBr).at hlt
          have hnm := hev.sh _ (List.getElem_mem hlt)
          have x0 : wr.cell? ⟨b, off + j * 7, none⟩ = some (.int .i64 es[j].day) := hc 0 _ rfl
          have x1 : wr.cell? ⟨b, off + j * 7 + 1, none⟩ = some (.int .i64 es[j].kind) := hc 1 _ rfl
          have x2 : wr.cell? ⟨b, off + j * 7 + 2, none⟩ = some (.string es[j].site) := hc 2 _ rfl
          have x3 : wr.cell? ⟨b, off + j * 7 + 3, none⟩ = some (.int .i64 es[j].level) := hc 3 _ rfl
          have x4 : wr.cell? ⟨b, off + j * 7 + 4, none⟩ = some (.string es[j].remain) := hc 4 _ rfl
          have x5 : wr.cell? ⟨b, off + j * 7 + 5, none⟩ = some (.int .i64 es[j].container) := hc 5 _ rfl
          have x6 : wr.cell? ⟨b, off + j * 7 + 6, none⟩ = some (.bool es[j].order) := hc 6 _ rfl
          have HF := Lib.hid hf
          have HN := Lib.hid hnm
          clear hc hf hnm
          generalize es[j] = ev at *
          obtain ⟨dy, kd, si, lv, rm, co, od⟩ := ev
          dsimp only at x0 x1 x2 x3 x4 x5 x6 HN
          cases hq : ((errorP k ss rs ⟨dy, kd, si, lv, rm, co, od⟩).2 != 0)
          · have HQ := Lib.hid hq
            clear hq
            go_wp2_with (go_at_call 58; refine (add_any w.heap.size bb k ss rs _ _ _ _ _ _ _ _ (mkEnv (hbk.keep (by repeat (first | exact Below.refl _ _ | exact Below.refl (World.heap _).size _ | assumption | refine B_alloc ?_ _ | refine B_ext ?_ _ | refine B_drew ?_ | refine B_drewN ?_ _ | refine B_set ?_ (by simp; omega) _))) hYD.out (hy.keep (B_alloc hBr _)) hs1 hs2 hiv (by omega)) HN.out.1 HN.out.2).mono ?_; intro e wq hpq; obtain ⟨rfl, hbk3, hB3⟩ := hpq.ok HQ.out; clear hpq)
            go_roundw
            case rel => exact ⟨j + 1, addK k ⟨dy, kd, si, lv, rm, co, od⟩ (errorP k ss rs ⟨dy, kd, si, lv, rm, co, od⟩).1, by omega, by go_num, by rw [HF.out, if_neg (by rw [HQ.out]; exact Bool.false_ne_true)], hbk3, Below.trans (B_alloc hBr _) hB3, hYD.out, inv_add hiv (Prod.ext rfl (by simpa using HQ.out)), by rw [addK_len]; omega⟩
            case measure => simp [intOf]; omega
          · have HQ := Lib.hid hq
            go_wp2_with (go_at_call 58; refine (add_any w.heap.size bb k ss rs _ _ _ _ _ _ _ _ (mkEnv (hbk.keep (by repeat (first | exact Below.refl _ _ | exact Below.refl (World.heap _).size _ | assumption | refine B_alloc ?_ _ | refine B_ext ?_ _ | refine B_drew ?_ | refine B_drewN ?_ _ | refine B_set ?_ (by simp; omega) _))) hYD.out (hy.keep (B_alloc hBr _)) hs1 hs2 hiv (by omega)) HN.out.1 HN.out.2).mono ?_; intro e wq hpq; obtain ⟨rfl, zq, rfl⟩ := hpq.bad HQ.out; clear hpq)
            go_ret2
            exact .inl ⟨by rw [hR.out, HF.out, if_pos HQ.out]; simpa using HQ.out, Ret.of (by rw [hR.out, HF.out, if_pos HQ.out]; rfl) (by repeat (first | exact Below.refl _ _ | exact Below.refl (World.heap _).size _ | assumption | refine B_alloc ?_ _ | refine B_ext ?_ _ | refine B_drew ?_ | refine B_drewN ?_ _ | refine B_set ?_ (by simp; omega) _))⟩
        · rw [List.drop_eq_nil_of_le (by omega), addsP] at hf
          have HF := Lib.hid hf
          clear hf
          go_wp2_with fail
          go_ret2
          exact .inr ⟨by rw [hR.out, HF.out], bb, rfl, by rw [hR.out, HF.out]; exact mkEnv hbk hYD.out (hy.keep hBr) hs1 hs2 hiv (show k.st.length ≤ 1000 by omega), ext_below hBr⟩
  · go_wp2_with (go_at_call 75; refine (checkYard_any ss rs _ _ _ _ _ _ _ _ _ _ hy.hn hy.hrn (hy.sl.keep (by repeat (first | exact Below.refl _ _ | exact Below.refl (World.heap _).size _ | assumption | refine B_alloc ?_ _ | refine B_ext ?_ _ | refine B_drew ?_ | refine B_drewN ?_ _ | refine B_set ?_ (by simp; omega) _))) (hy.sr.keep (by repeat (first | exact Below.refl _ _ | exact Below.refl (World.heap _).size _ | assumption | refine B_alloc ?_ _ | refine B_ext ?_ _ | refine B_drew ?_ | refine B_drewN ?_ _ | refine B_set ?_ (by simp; omega) _))) hy.cap hy.l1 hy.l2 hy.sh).mono ?_; rintro e wq ⟨rfl, zq, rfl⟩)
    go_ret2
    have HCY := Lib.hid hcy
    clear hcy
    have hR : readP ss rs (bk0 A n c R rn rc c0 c1 c2) es = (bk0 A n c R rn rc c0 c1 c2, checkYardP ss rs c0 c1 c2) := by unfold readP; exact if_pos HCY.out
    exact .inl ⟨by rw [hR]; simpa using HCY.out, Ret.of (by rw [hR]; rfl) (by repeat (first | exact Below.refl _ _ | exact Below.refl (World.heap _).size _ | assumption | refine B_alloc ?_ _ | refine B_ext ?_ _ | refine B_drew ?_ | refine B_drewN ?_ _ | refine B_set ?_ (by simp; omega) _))⟩

def UpToPost (w : World) (ss : List Site) (rs : List Rest) (k : Bk) (e : Ending) (w' : World) : Prop :=
  ∃ base bb, e = .returned (.pointer (some ⟨bb, 0, none⟩)) ∧ Hid (w.heap.size ≤ base) ∧ Env w' base bb k ss rs ∧ ∃ z, w' = w.ext z

set_option maxRecDepth 100000 in
set_option maxHeartbeats 2000000 in
theorem upTo_any (ss : List Site) (rs : List Rest) (A R : Option Addr) (n c rn rc : Nat) (c0 c1 c2 : Int) (es : List Event) (L : Option Addr) (ln lc : Nat) (day : Int) (w : World) (hy : YardIn w ss rs A n c R rn rc) (hev : EventsIn w es L ln)
    (hs1 : ss.length ≤ 60) (hs2 : rs.length ≤ 40) (hs3 : es.length ≤ 300) :
    Calls Tryz.prog 56 #[.agg #[.slice A n c, .slice R rn rc, .int .i64 c0, .int .i64 c1, .int .i64 c2], .slice L ln lc, .int .i64 day] w (UpToPost w ss rs (upToP ss rs day (bk0 A n c R rn rc c0 c1 c2) es)) := by
  have hln := hev.hn
  subst hln
  go_enter Tryz.func56, Tryz.ntmps56
  go_wp2_with (go_at_call 76; refine (newBook_any _ _ _ _ _ _ _ _ _ _).mono ?_; rintro e wn ⟨bb, rfl, hbk, hbn⟩)
  have hB : Below w.heap.size w wn := Below.trans (by repeat (first | exact Below.refl _ _ | exact Below.refl (World.heap _).size _ | assumption | refine B_alloc ?_ _ | refine B_ext ?_ _ | refine B_drew ?_ | refine B_drewN ?_ _ | refine B_set ?_ (by simp; omega) _)) (hbn.mono (by simp))
  have hbk2 := hbk.mono (base' := w.heap.size) (by simp)
  clear hbk hbn
  go_loopw [9, 14] (fun _ i wr => ∃ (j : Nat) (k : Bk), j ≤ es.length ∧ i = .int .i64 j ∧ upToP ss rs day (bk0 A n c R rn rc c0 c1 c2) es = upToP ss rs day k (es.drop j) ∧ BookAt wr w.heap.size bb k ∧ Below w.heap.size w wr ∧ k.yard = (A, n, c, R, rn, rc, c0, c1, c2) ∧ Inv k ss ∧ k.st.length ≤ j) (fun _ i _ => es.length - (intOf i).toNat)
  case atStart => exact ⟨0, _, Nat.zero_le _, rfl, rfl, hbk2, hB, rfl, inv0 _ _ _ _ _ _ _ _ _ _, Nat.le_refl _⟩
  case round =>
    obtain ⟨j, k, hj, rfl, hf, hbk, hBr, hyd, hiv, hkl⟩ := hrel
    have hYD := Lib.hid hyd
    clear hyd hbk2 hB
    by_cases hlt : j < es.length
    · rw [List.drop_eq_getElem_cons hlt, upToP] at hf
      obtain ⟨b, off, rfl, hb, hc⟩ := (hev.sl.keep hBr).at hlt
      have hnm := hev.sh _ (List.getElem_mem hlt)
      have x0 : wr.cell? ⟨b, off + j * 7, none⟩ = some (.int .i64 es[j].day) := hc 0 _ rfl
      have x1 : wr.cell? ⟨b, off + j * 7 + 1, none⟩ = some (.int .i64 es[j].kind) := hc 1 _ rfl
      have x2 : wr.cell? ⟨b, off + j * 7 + 2, none⟩ = some (.string es[j].site) := hc 2 _ rfl
      have x3 : wr.cell? ⟨b, off + j * 7 + 3, none⟩ = some (.int .i64 es[j].level) := hc 3 _ rfl
      have x4 : wr.cell? ⟨b, off + j * 7 + 4, none⟩ = some (.string es[j].remain) := hc 4 _ rfl
      have x5 : wr.cell? ⟨b, off + j * 7 + 5, none⟩ = some (.int .i64 es[j].container) := hc 5 _ rfl
      have x6 : wr.cell? ⟨b, off + j * 7 + 6, none⟩ = some (.bool es[j].order) := hc 6 _ rfl
      have HF := Lib.hid hf
      have HN := Lib.hid hnm
      clear hc hf hnm
      generalize es[j] = ev at *
      obtain ⟨dy, kd, si, lv, rm, co, od⟩ := ev
      dsimp only at x0 x1 x2 x3 x4 x5 x6 HN
      cases hq : ((errorP k ss rs ⟨dy, kd, si, lv, rm, co, od⟩).2 != 0)
      · have HQ := Lib.hid hq
        clear hq
        by_cases hd : dy ≤ day
        · go_wp2_with (go_at_call 58; refine (add_any w.heap.size bb k ss rs _ _ _ _ _ _ _ _ (mkEnv (hbk.keep (by repeat (first | exact Below.refl _ _ | exact Below.refl (World.heap _).size _ | assumption | refine B_alloc ?_ _ | refine B_ext ?_ _ | refine B_drew ?_ | refine B_drewN ?_ _ | refine B_set ?_ (by simp; omega) _))) hYD.out (hy.keep (B_alloc hBr _)) hs1 hs2 hiv (by omega)) HN.out.1 HN.out.2).mono ?_; intro e wq hpq; obtain ⟨rfl, hbk3, hB3⟩ := hpq.ok HQ.out; clear hpq)
          go_roundw
          case rel => exact ⟨j + 1, addK k ⟨dy, kd, si, lv, rm, co, od⟩ (errorP k ss rs ⟨dy, kd, si, lv, rm, co, od⟩).1, by omega, by go_num, by rw [HF.out, if_pos (by simpa using hd), if_neg (by rw [HQ.out]; exact Bool.false_ne_true)], hbk3, Below.trans (B_alloc hBr _) hB3, hYD.out, inv_add hiv (Prod.ext rfl (by simpa using HQ.out)), by rw [addK_len]; omega⟩
          case measure => simp [intOf]; omega
        · go_wp2_with fail
          go_roundw
          case rel => exact ⟨j + 1, k, by omega, by go_num, by rw [HF.out, if_neg (by simpa using hd)], hbk.keep (by repeat (first | exact Below.refl _ _ | exact Below.refl (World.heap _).size _ | assumption | refine B_alloc ?_ _ | refine B_ext ?_ _ | refine B_drew ?_ | refine B_drewN ?_ _ | refine B_set ?_ (by simp; omega) _)), B_alloc hBr _, hYD.out, hiv, by omega⟩
          case measure => simp [intOf]; omega
      · have HQ := Lib.hid hq
        by_cases hd : dy ≤ day
        · go_wp2_with (go_at_call 58; refine (add_any w.heap.size bb k ss rs _ _ _ _ _ _ _ _ (mkEnv (hbk.keep (by repeat (first | exact Below.refl _ _ | exact Below.refl (World.heap _).size _ | assumption | refine B_alloc ?_ _ | refine B_ext ?_ _ | refine B_drew ?_ | refine B_drewN ?_ _ | refine B_set ?_ (by simp; omega) _))) hYD.out (hy.keep (B_alloc hBr _)) hs1 hs2 hiv (by omega)) HN.out.1 HN.out.2).mono ?_; intro e wq hpq; obtain ⟨rfl, zq, rfl⟩ := hpq.bad HQ.out; clear hpq)
          go_roundw
          case rel => exact ⟨j + 1, k, by omega, by go_num, by rw [HF.out, if_pos (by simpa using hd), if_pos HQ.out], hbk.keep (by repeat (first | exact Below.refl _ _ | exact Below.refl (World.heap _).size _ | assumption | refine B_alloc ?_ _ | refine B_ext ?_ _ | refine B_drew ?_ | refine B_drewN ?_ _ | refine B_set ?_ (by simp; omega) _)), B_ext (B_alloc hBr _) _, hYD.out, hiv, by omega⟩
          case measure => simp [intOf]; omega
        · go_wp2_with fail
          go_roundw
          case rel => exact ⟨j + 1, k, by omega, by go_num, by rw [HF.out, if_neg (by simpa using hd)], hbk.keep (by repeat (first | exact Below.refl _ _ | exact Below.refl (World.heap _).size _ | assumption | refine B_alloc ?_ _ | refine B_ext ?_ _ | refine B_drew ?_ | refine B_drewN ?_ _ | refine B_set ?_ (by simp; omega) _)), B_alloc hBr _, hYD.out, hiv, by omega⟩
          case measure => simp [intOf]; omega
    · rw [List.drop_eq_nil_of_le (by omega), upToP] at hf
      have HF := Lib.hid hf
      clear hf
      go_wp2_with fail
      go_ret
      exact ⟨_, bb, rfl, Nat.le_refl _, by rw [HF.out]; exact mkEnv hbk hYD.out (hy.keep hBr) hs1 hs2 hiv (show k.st.length ≤ 1000 by omega), ext_below hBr⟩
end Go.Proofs.YtpohkolapgofdaaGreatDoor
namespace Go.Proofs.YtpohkolapgofdaaGreatDoor
open Go.RowKit
attribute [local go_sem] World.cell?_alloc_mark ext_size ext_cell ext_frozen lt_add_r lt_add_r2 lt_add_r3 lt_add_r4 lt_add_r5 lt_add_r6 lt_add_r7 lt_add_r8
attribute [local go_sem] ext_setCell alloc_setCell_lt
theorem B_refl {W : World} : Below W.heap.size W W := Below.refl _ _

def restOfP (k : Bk) (ss : List Site) (rs : List Rest) (nm : ByteArray) : Int × Int :=
  match lotK k nm with
  | none => (0, 6)
  | some l => if l.state != 1 then (0, 28) else match findSite l.site ss with | none => (0, 0) | some s => (restOverP rs s l, 0)
def restOverR (ss : List Site) (rs : List Rest) (p : Bk × Int) (nm : ByteArray) : Int × Int := if p.2 != 0 then (0, p.2) else restOfP p.1 ss rs nm
def ret2 (p : Int × Int) : Value := .tuple #[.int .i64 p.1, .int .i64 p.2]

set_option maxRecDepth 100000 in
set_option maxHeartbeats 2000000 in
theorem gRestOver_any (ss : List Site) (rs : List Rest) (A R : Option Addr) (n c rn rc : Nat) (c0 c1 c2 : Int) (es : List Event) (L : Option Addr) (ln lc : Nat) (nm : ByteArray) (w : World) (hy : YardIn w ss rs A n c R rn rc) (hev : EventsIn w es L ln) :
    Calls Tryz.prog 23 #[.agg #[.slice A n c, .slice R rn rc, .int .i64 c0, .int .i64 c1, .int .i64 c2], .slice L ln lc, .string nm] w (Ret w (ret2 (restOverR ss rs (readP ss rs (bk0 A n c R rn rc c0 c1 c2) es) nm))) := by
  have HR := fun W h1 h2 => read_any ss rs A R n c rn rc c0 c1 c2 es L ln lc W h1 h2
  generalize (readP ss rs (bk0 A n c R rn rc c0 c1 c2) es) = p at *
  obtain ⟨k, er⟩ := p
  go_enter Tryz.func23, Tryz.ntmps23
  cases hq : (er != 0)
  · have HQ := Lib.hid hq
    clear hq
    have hX : restOverR ss rs (k, er) nm = restOfP k ss rs nm := by rw [restOverR, if_neg (by rw [HQ.out]; exact Bool.false_ne_true)]
    rw [hX]
    clear hX
    cases hl : lotK k nm with
    | none =>
      have hY : restOfP k ss rs nm = (0, 6) := by rw [restOfP, hl]
      rw [hY]
      clear hY
      go_wp2_with (first | (go_at_call 48; refine (HR _ (hy.keep (by repeat (first | exact B_refl | exact Below.refl _ _ | assumption | with_reducible refine B_alloc ?_ _ | with_reducible refine B_ext ?_ _ | with_reducible refine B_drew ?_ | with_reducible refine B_drewN ?_ _ | with_reducible refine B_set ?_ (by simp; omega) _))) (hev.keep (by repeat (first | exact B_refl | exact Below.refl _ _ | assumption | with_reducible refine B_alloc ?_ _ | with_reducible refine B_ext ?_ _ | with_reducible refine B_drew ?_ | with_reducible refine B_drewN ?_ _ | with_reducible refine B_set ?_ (by simp; omega) _)))).mono ?_; intro e wq hpq; obtain ⟨base, bb, rfl, hbs, henv, zq, rfl⟩ := hpq.ok HQ.out; clear hpq) | (go_at_call 54; refine (lot_any base bb k ss rs _ _ (henv.keep (by repeat (first | exact B_refl | exact Below.refl _ _ | assumption | with_reducible refine B_alloc ?_ _ | with_reducible refine B_ext ?_ _ | with_reducible refine B_drew ?_ | with_reducible refine B_drewN ?_ _ | with_reducible refine B_set ?_ (by simp; omega) _)))).mono ?_; rintro e wq ⟨rfl, zq2, rfl⟩; rw [hl]; unfold retLot Lot.v))
      go_ret2
      exact Ret.of rfl (by repeat (first | exact B_refl | exact Below.refl _ _ | assumption | with_reducible refine B_alloc ?_ _ | with_reducible refine B_ext ?_ _ | with_reducible refine B_drew ?_ | with_reducible refine B_drewN ?_ _ | with_reducible refine B_set ?_ (by simp; omega) _))
    | some l =>
      obtain ⟨rm, sta, si, lv, co, sc⟩ := l
      cases hs : (sta != 1)
      · have hs2 : sta = 1 := by simpa using hs
        have hY : Hid (∀ s, findSite si ss = some s → restOfP k ss rs nm = (restOverP rs s ⟨rm, sta, si, lv, co, sc⟩, 0)) := fun s hfs => by
          unfold restOfP
          rw [hl]
          dsimp only
          rw [hs, if_neg Bool.false_ne_true, hfs]
        have HS := Lib.hid hs2
        clear hs2
        generalize restOfP k ss rs nm = r at *
        go_wp2_with (first
          | (go_at_call 48; refine (HR _ (hy.keep (by repeat (first | exact B_refl | exact Below.refl _ _ | assumption | with_reducible refine B_alloc ?_ _ | with_reducible refine B_ext ?_ _ | with_reducible refine B_drew ?_ | with_reducible refine B_drewN ?_ _ | with_reducible refine B_set ?_ (by simp; omega) _))) (hev.keep (by repeat (first | exact B_refl | exact Below.refl _ _ | assumption | with_reducible refine B_alloc ?_ _ | with_reducible refine B_ext ?_ _ | with_reducible refine B_drew ?_ | with_reducible refine B_drewN ?_ _ | with_reducible refine B_set ?_ (by simp; omega) _)))).mono ?_; intro e wq hpq; obtain ⟨base, bb, rfl, hbs, henv, zq, rfl⟩ := hpq.ok HQ.out; clear hpq; obtain ⟨s, hfs⟩ := (henv.lies _ _ hl HS.out).1; have HFS := Lib.hid hfs; clear hfs)
          | (go_at_call 54; refine (lot_any base bb k ss rs _ _ (henv.keep (by repeat (first | exact B_refl | exact Below.refl _ _ | assumption | with_reducible refine B_alloc ?_ _ | with_reducible refine B_ext ?_ _ | with_reducible refine B_drew ?_ | with_reducible refine B_drewN ?_ _ | with_reducible refine B_set ?_ (by simp; omega) _)))).mono ?_; rintro e wq ⟨rfl, zq2, rfl⟩; rw [hl]; unfold retLot Lot.v)
          | (go_at_call 55; refine (restOver_any base bb k ss rs _ _ _ _ _ _ s _ (henv.keep (by repeat (first | exact B_refl | exact Below.refl _ _ | assumption | with_reducible refine B_alloc ?_ _ | with_reducible refine B_ext ?_ _ | with_reducible refine B_drew ?_ | with_reducible refine B_drewN ?_ _ | with_reducible refine B_set ?_ (by simp; omega) _))) HFS.out).mono ?_; rintro e wq ⟨rfl, zq, rfl⟩))
        go_ret2
        exact Ret.of (by rw [hY.out s HFS.out]; rfl) (by repeat (first | exact B_refl | exact Below.refl _ _ | assumption | with_reducible refine B_alloc ?_ _ | with_reducible refine B_ext ?_ _ | with_reducible refine B_drew ?_ | with_reducible refine B_drewN ?_ _ | with_reducible refine B_set ?_ (by simp; omega) _))
      · have hY : restOfP k ss rs nm = (0, 28) := by
          unfold restOfP
          rw [hl]
          dsimp only
          rw [hs, if_pos rfl]
        rw [hY]
        clear hY
        go_wp2_with (first | (go_at_call 48; refine (HR _ (hy.keep (by repeat (first | exact B_refl | exact Below.refl _ _ | assumption | with_reducible refine B_alloc ?_ _ | with_reducible refine B_ext ?_ _ | with_reducible refine B_drew ?_ | with_reducible refine B_drewN ?_ _ | with_reducible refine B_set ?_ (by simp; omega) _))) (hev.keep (by repeat (first | exact B_refl | exact Below.refl _ _ | assumption | with_reducible refine B_alloc ?_ _ | with_reducible refine B_ext ?_ _ | with_reducible refine B_drew ?_ | with_reducible refine B_drewN ?_ _ | with_reducible refine B_set ?_ (by simp; omega) _)))).mono ?_; intro e wq hpq; obtain ⟨base, bb, rfl, hbs, henv, zq, rfl⟩ := hpq.ok HQ.out; clear hpq) | (go_at_call 54; refine (lot_any base bb k ss rs _ _ (henv.keep (by repeat (first | exact B_refl | exact Below.refl _ _ | assumption | with_reducible refine B_alloc ?_ _ | with_reducible refine B_ext ?_ _ | with_reducible refine B_drew ?_ | with_reducible refine B_drewN ?_ _ | with_reducible refine B_set ?_ (by simp; omega) _)))).mono ?_; rintro e wq ⟨rfl, zq2, rfl⟩; rw [hl]; unfold retLot Lot.v))
        go_ret2
        exact Ret.of rfl (by repeat (first | exact B_refl | exact Below.refl _ _ | assumption | with_reducible refine B_alloc ?_ _ | with_reducible refine B_ext ?_ _ | with_reducible refine B_drew ?_ | with_reducible refine B_drewN ?_ _ | with_reducible refine B_set ?_ (by simp; omega) _))
  · have HQ := Lib.hid hq
    have hX : restOverR ss rs (k, er) nm = (0, er) := by rw [restOverR, if_pos HQ.out]
    rw [hX]
    clear hX
    go_wp2_with (go_at_call 48; refine (HR _ (hy.keep (by repeat (first | exact B_refl | exact Below.refl _ _ | assumption | with_reducible refine B_alloc ?_ _ | with_reducible refine B_ext ?_ _ | with_reducible refine B_drew ?_ | with_reducible refine B_drewN ?_ _ | with_reducible refine B_set ?_ (by simp; omega) _))) (hev.keep (by repeat (first | exact B_refl | exact Below.refl _ _ | assumption | with_reducible refine B_alloc ?_ _ | with_reducible refine B_ext ?_ _ | with_reducible refine B_drew ?_ | with_reducible refine B_drewN ?_ _ | with_reducible refine B_set ?_ (by simp; omega) _)))).mono ?_; intro e wq hpq; obtain ⟨rfl, zq, rfl⟩ := hpq.bad HQ.out; clear hpq)
    go_ret2
    exact Ret.of rfl (by repeat (first | exact B_refl | exact Below.refl _ _ | assumption | with_reducible refine B_alloc ?_ _ | with_reducible refine B_ext ?_ _ | with_reducible refine B_drew ?_ | with_reducible refine B_drewN ?_ _ | with_reducible refine B_set ?_ (by simp; omega) _))
end Go.Proofs.YtpohkolapgofdaaGreatDoor

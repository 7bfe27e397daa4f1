/- Walk of the reference: the lots behind the accepted beginning; the error of a yard and events. -/
import Derived.Test.YtpohkolapgofdaaGreatLB
import Derived.Test.YtpohkolapgofdaaGreatQ2
namespace Go.Proofs.YtpohkolapgofdaaGreat
open Go.RowKit
attribute [local go_sem] World.cell?_alloc_mark ext_size ext_cell ext_frozen lt_add_r lt_add_r2 lt_add_r3 lt_add_r4 lt_add_r5 lt_add_r6 lt_add_r7 lt_add_r8

/-- What Replay hands back. -/
def ReplayPost (w : World) (r : List Lot × Nat × Int) (e : Ending) (w' : World) : Prop :=
  ∃ v, e = .returned (.tuple #[v, .int .i64 (r.2.1 : Int), .int .i64 r.2.2]) ∧ w'.ownsRow w.heap.size 40 6 v r.1.length (r.1.flatMap Lot.cells) ∧ ∃ z, w' = w.ext z
theorem ReplayPost.form {w w' : World} {p : List Lot × Nat × Int} {e : Ending} (h : ReplayPost w p e w') (hl : p.1.length ≤ 100000) : ∃ A c z, e = .returned (.tuple #[.slice A p.1.length c, .int .i64 (p.2.1 : Int), .int .i64 p.2.2]) ∧ w' = w.ext z ∧ LotsIn w' p.1 A p.1.length ∧ p.1.length ≤ c := by
  obtain ⟨v, rfl, hown, z, rfl⟩ := h
  obtain ⟨A, c, rfl, hS, hc⟩ := own_sl lot_len hown
  exact ⟨A, c, z, rfl, rfl, ⟨rfl, hS, hl⟩, hc⟩
theorem goP_len {c0 c1 c2 : Int} {ss : List Site} {rs : List Rest} : ∀ (es : List Event) (ls : List Lot) (last : Int) (i : Nat), (rGoP c0 c1 c2 ss rs ls last i es).1.length ≤ ls.length + es.length
  | [], _, _, _ => Nat.le_add_right _ _
  | e :: l, ls, last, i => by
    unfold rGoP
    split
    · dsimp only; omega
    · refine Nat.le_trans (goP_len l _ _ _) ?_
      have h : (rNextP c0 c1 c2 ss rs ls last e).1.length ≤ ls.length + 1 := by
        unfold rNextP
        split
        · simp
        split
        · simp
        split
        · simp
        · have hw : ∀ (x : Lot) (l : List Lot), (rWithP x l).length ≤ l.length + 1 := by
            intro x l
            induction l with
            | nil => simp [rWithP]
            | cons y l ih =>
              unfold rWithP
              split
              · simp only [List.length_cons]; omega
              split <;> simp
          exact hw _ _
      simp only [List.length_cons]
      omega
theorem rel_lies {k : Bk} {ls : List Lot} {ss : List Site} (h : Rel k ls ss) (hroom : ∀ s ∈ ss, s.room ≤ 12) : ∀ t ∈ ls, t.state = 1 → (∃ s, findSite t.site ss = some s) ∧ 0 ≤ t.level ∧ t.level ≤ 100000 := fun t ht hs => by
  obtain ⟨s, h1, h2, h3⟩ := h.lies t ht hs
  have := hroom s (findSite_mem h1)
  exact ⟨⟨s, h1⟩, h2, by omega⟩

theorem rel_next {k : Bk} {ls ls2 : List Lot} {ss : List Site} {rs : List Rest} {c0 c1 c2 : Int} {e : Event} (hroom : ∀ s ∈ ss, s.room ≤ 12) (hR : Rel k ls ss) (hI : Inv k ss) (h0 : k.c0 = c0) (h1 : k.c1 = c1) (h2 : k.c2 = c2)
    (hn : rNextP c0 c1 c2 ss rs ls k.day e = (ls2, 0)) : Rel (addK k e (errorP k ss rs e).1) ls2 ss ∧ Inv (addK k e (errorP k ss rs e).1) ss ∧ ls2.length ≤ ls.length + 1 := by
  obtain ⟨g1, g2⟩ := hR.error hroom rs e
  rw [h0, h1, h2, hn] at g1
  have hx : ls2 = rWithP (rLotP ss ls e) ls := by
    unfold rNextP at hn
    split at hn
    · rename_i hc
      simp only [Prod.mk.injEq] at hn
      rw [hn.2] at hc
      simp at hc
    split at hn
    · simp at hn
    split at hn
    · rename_i hc
      simp only [Prod.mk.injEq] at hn
      rw [hn.2] at hc
      simp at hc
    · simp only [Prod.mk.injEq] at hn
      exact hn.1.symm
  subst hx
  refine ⟨hR.add hI hroom g1, inv_add hI (Prod.ext rfl g1), ?_⟩
  have hw : ∀ (x : Lot) (l : List Lot), (rWithP x l).length ≤ l.length + 1 := by
    intro x l
    induction l with
    | nil => simp [rWithP]
    | cons y l ih =>
      unfold rWithP
      split
      · simp only [List.length_cons]; omega
      split <;> simp
  exact hw _ _

set_option maxRecDepth 100000 in
set_option maxHeartbeats 2000000 in
theorem rReplay_any (ss : List Site) (rs : List Rest) (A R : Option Addr) (n c rn rc : Nat) (c0 c1 c2 : Int) (es : List Event) (E : Option Addr) (en ec : Nat) (w : World) (hy : YardIn w ss rs A n c R rn rc) (hev : EventsIn w es E en) (hroom : ∀ s ∈ ss, s.room ≤ 12) :
    Calls Tryz.prog 42 #[.agg #[.slice A n c, .slice R rn rc, .int .i64 c0, .int .i64 c1, .int .i64 c2], .slice E en ec] w (ReplayPost w (rReplayP c0 c1 c2 ss rs es)) := by
  have hen := hev.hn
  subst hen
  have hl1 := hev.l1
  have hr2 : ∀ s ∈ ss, s.room ≤ 100000 := fun s hs => by have := hroom s hs; omega
  go_enter Tryz.func42, Tryz.ntmps42
  by_cases hbig : 300 < (es.length : Int)
  · have hX : rReplayP c0 c1 c2 ss rs es = ([], 0, 8) := by rw [rReplayP, if_pos (by simpa using hbig)]
    rw [hX]
    clear hX
    go_wp2_with fail
    go_ret3
    exact ⟨_, rfl, World.ownsRow_nil _ _ _ _, ext_below (by repeat (first | exact B_refl | exact Below.refl _ _ | assumption | with_reducible refine B_alloc ?_ _ | with_reducible refine B_ext ?_ _ | with_reducible refine B_drew ?_ | with_reducible refine B_drewN ?_ _ | with_reducible refine B_set ?_ (by simp; omega) _))⟩
  · have hX : rReplayP c0 c1 c2 ss rs es = rGoP c0 c1 c2 ss rs [] 0 0 es := by rw [rReplayP, if_neg (by simpa using hbig)]
    rw [hX]
    clear hX
    obtain ⟨T, hT⟩ : ∃ T, rGoP c0 c1 c2 ss rs [] 0 0 es = T := ⟨_, rfl⟩
    rw [hT]
    have HT := Lib.hid hT
    clear hT
    go_wp2_with fail
    obtain ⟨W0, hW0⟩ : ∃ W0, W0 = w.alloc (.cells #[.slice A n c, .slice R rn rc, .int .i64 c0, .int .i64 c1, .int .i64 c2] 26) := ⟨_, rfl⟩
    rw [← hW0]
    have hB : Below w.heap.size w W0 := by rw [hW0]; repeat (first | exact B_refl | exact Below.refl _ _ | assumption | with_reducible refine B_alloc ?_ _ | with_reducible refine B_ext ?_ _ | with_reducible refine B_drew ?_ | with_reducible refine B_drewN ?_ _ | with_reducible refine B_set ?_ (by simp; omega) _)
    have hblk : W0.heap[w.heap.size]? = some (.cells #[.slice A n c, .slice R rn rc, .int .i64 c0, .int .i64 c1, .int .i64 c2] 26) := by rw [hW0]; exact heap_alloc_new _ _
    have hz : W0.heap.size = w.heap.size + 1 := by rw [hW0]; simp
    clear hW0
    go_loopw [7, 8, 9] (fun v la i wr => ∃ (j : Nat) (k : Bk) (d : Int) (ls : List Lot) (A' : Option Addr) (c' : Nat), j ≤ es.length ∧ i = .int .i64 j ∧ la = .int .i64 d ∧ v = .slice A' ls.length c' ∧ Hid (d = k.day ∧ T = rGoP c0 c1 c2 ss rs ls k.day j (es.drop j) ∧ Rel k ls ss ∧ Inv k ss ∧ k.c0 = c0 ∧ k.c1 = c1 ∧ k.c2 = c2 ∧ ls.length ≤ j) ∧ wr.ownsRow w.heap.size 40 6 (.slice A' ls.length c') ls.length (ls.flatMap Lot.cells) ∧ Sl wr 6 Lot.cells A' ls ∧ ls.length ≤ c' ∧ Below (w.heap.size + 1) W0 wr) (fun _ _ i _ => es.length - (intOf i).toNat)
    case atStart => exact ⟨0, bk0 A n c R rn rc c0 c1 c2, 0, [], none, 0, Nat.zero_le _, rfl, rfl, rfl, ⟨rfl, HT.out.symm, rel0 _ _ _ _ _ _ _ _ _ _, inv0 _ _ _ _ _ _ _ _ _ _, rfl, rfl, rfl, Nat.le_refl _⟩, World.ownsRow_nil _ _ _ _, Sl.nil, Nat.le_refl _, Below.refl _ _⟩
    case round =>
      obtain ⟨j, k, d, ls, A', c', hj, rfl, rfl, rfl, HR, hown, hS, hc', hBr⟩ := hrel
      have hllen : ls.length ≤ 100000 := by have := HR.out.2.2.2.2.2.2.2; omega
      by_cases hlt : j < es.length
      · have hbw : Below w.heap.size w wr := hB.trans (hBr.mono (by omega))
        obtain ⟨b, off, rfl, hb, hc⟩ := (hev.sl.keep hbw).at hlt
        have hnm := hev.sh _ (List.getElem_mem hlt)
        have x0 : wr.cell? ⟨b, off + j * 7, none⟩ = some (.int .i64 es[j].day) := hc 0 _ rfl
        have x1 : wr.cell? ⟨b, off + j * 7 + 1, none⟩ = some (.int .i64 es[j].kind) := hc 1 _ rfl
        have x2 : wr.cell? ⟨b, off + j * 7 + 2, none⟩ = some (.string es[j].site) := hc 2 _ rfl
        have x3 : wr.cell? ⟨b, off + j * 7 + 3, none⟩ = some (.int .i64 es[j].level) := hc 3 _ rfl
        have x4 : wr.cell? ⟨b, off + j * 7 + 4, none⟩ = some (.string es[j].remain) := hc 4 _ rfl
        have x5 : wr.cell? ⟨b, off + j * 7 + 5, none⟩ = some (.int .i64 es[j].container) := hc 5 _ rfl
        have x6 : wr.cell? ⟨b, off + j * 7 + 6, none⟩ = some (.bool es[j].order) := hc 6 _ rfl
        have HN := Lib.hid hnm
        have hlt2 : (j : Int) < (es.length : Int) := by omega
        have hj0 : (0 : Int) ≤ (j : Int) := by omega
        have HD := Lib.hid (List.drop_eq_getElem_cons hlt)
        have k0 := (hBr.block _ (by omega)).trans hblk
        have g0 : wr.cell? ⟨w.heap.size, 0, none⟩ = some (.slice A n c) := by simp [World.cell?, k0]
        have g1 : wr.cell? ⟨w.heap.size, 1, none⟩ = some (.slice R rn rc) := by simp [World.cell?, k0]
        have g2 : wr.cell? ⟨w.heap.size, 2, none⟩ = some (.int .i64 c0) := by simp [World.cell?, k0]
        have g3 : wr.cell? ⟨w.heap.size, 3, none⟩ = some (.int .i64 c1) := by simp [World.cell?, k0]
        have g4 : wr.cell? ⟨w.heap.size, 4, none⟩ = some (.int .i64 c2) := by simp [World.cell?, k0]
        have hzb : b < wr.heap.size := hb
        have hzr : w.heap.size < wr.heap.size := by have := hBr.size; omega
        have hl10 : ls.length ≤ 10000 := by have := HR.out.2.2.2.2.2.2.2; omega
        clear hc hnm k0 hblk
        generalize es[j] = ev at *
        obtain ⟨dy, kd, si, lv, rm, co, od⟩ := ev
        dsimp only at x0 x1 x2 x3 x4 x5 x6 HN
        obtain ⟨⟨ls2, er⟩, hP⟩ : ∃ p, rNextP c0 c1 c2 ss rs ls d ⟨dy, kd, si, lv, rm, co, od⟩ = p := ⟨_, rfl⟩
        have HP := Lib.hid hP
        clear hP
        cases her : (er != 0)
        · have her0 : er = 0 := by simpa using her
          subst her0
          clear her
          go_wp2_with fail
          go_region_held3 (fun w' => w'.cell? ⟨w.heap.size, 0, none⟩ = some (.slice A n c) ∧ w'.cell? ⟨w.heap.size, 1, none⟩ = some (.slice R rn rc) ∧ w'.cell? ⟨w.heap.size, 2, none⟩ = some (.int .i64 c0) ∧ w'.cell? ⟨w.heap.size, 3, none⟩ = some (.int .i64 c1) ∧ w'.cell? ⟨w.heap.size, 4, none⟩ = some (.int .i64 c2)
              ∧ w'.cell? ⟨b, off + j * 7, none⟩ = some (.int .i64 dy) ∧ w'.cell? ⟨b, off + j * 7 + 1, none⟩ = some (.int .i64 kd) ∧ w'.cell? ⟨b, off + j * 7 + 2, none⟩ = some (.string si) ∧ w'.cell? ⟨b, off + j * 7 + 3, none⟩ = some (.int .i64 lv) ∧ w'.cell? ⟨b, off + j * 7 + 4, none⟩ = some (.string rm) ∧ w'.cell? ⟨b, off + j * 7 + 5, none⟩ = some (.int .i64 co) ∧ w'.cell? ⟨b, off + j * 7 + 6, none⟩ = some (.bool od))
            ((refine ⟨cell_kept hzr g0 ?_, cell_kept hzr g1 ?_, cell_kept hzr g2 ?_, cell_kept hzr g3 ?_, cell_kept hzr g4 ?_, cell_kept hzb x0 ?_, cell_kept hzb x1 ?_, cell_kept hzb x2 ?_, cell_kept hzb x3 ?_, cell_kept hzb x4 ?_, cell_kept hzb x5 ?_, cell_kept hzb x6 ?_⟩ <;> ((repeat (first | exact B_refl | exact Below.refl _ _ | assumption | with_reducible refine B_alloc ?_ _ | with_reducible refine B_ext ?_ _ | with_reducible refine B_drew ?_ | with_reducible refine B_drewN ?_ _ | with_reducible refine B_set ?_ (by simp; omega) _)); done)))
            (first
              | (go_at_call 71; refine (rNext_any ss rs _ _ _ _ _ _ _ _ _ ls _ _ _ _ _ _ _ _ _ _ _ _ ((hy.keep hbw).keep (m := wr.heap.size) ?q1) ⟨rfl, hS.keep (n := wr.heap.size) ?q2, hllen⟩ hc' hl10 hr2 (rel_lies HR.out.2.2.1 hroom) HN.out.1 HN.out.2).mono ?_
                 case q1 => repeat (first | exact B_refl | exact Below.refl _ _ | assumption | with_reducible refine B_alloc ?_ _ | with_reducible refine B_ext ?_ _ | with_reducible refine B_drew ?_ | with_reducible refine B_drewN ?_ _ | with_reducible refine B_set ?_ (by simp; omega) _)
                 case q2 => repeat (first | exact B_refl | exact Below.refl _ _ | assumption | with_reducible refine B_alloc ?_ _ | with_reducible refine B_ext ?_ _ | with_reducible refine B_drew ?_ | with_reducible refine B_drewN ?_ _ | with_reducible refine B_set ?_ (by simp; omega) _)
                 intro e wq hq
                 rw [HP.out] at hq
                 obtain ⟨A2, k2, zn, rfl, rfl, hown2, hS2, hc2⟩ := hq.bad
                 clear hq))
          go_wp2_with fail
          (refine wp_region_ext_lit (by kernel_rfl) (by kernel_rfl) ?_
           repeat (first | go_big_quiet_skip | (go_big_quiet_want; go_big_quiet_op; first | go_big_quiet_on | (apply Exists.intro; refine ⟨fun _ => ?_, ?_⟩; (fail); go_big_quiet_on)))
           refine wpQuiet_nil ?_
           rintro _ ⟨zq, rfl⟩)
          go_wp2_with fail
          have hrel2 : Hid (dy = (addK k ⟨dy, kd, si, lv, rm, co, od⟩ (errorP k ss rs ⟨dy, kd, si, lv, rm, co, od⟩).1).day ∧ T = rGoP c0 c1 c2 ss rs ls2 (addK k ⟨dy, kd, si, lv, rm, co, od⟩ (errorP k ss rs ⟨dy, kd, si, lv, rm, co, od⟩).1).day (j + 1) (es.drop (j + 1)) ∧ Rel (addK k ⟨dy, kd, si, lv, rm, co, od⟩ (errorP k ss rs ⟨dy, kd, si, lv, rm, co, od⟩).1) ls2 ss ∧ Inv (addK k ⟨dy, kd, si, lv, rm, co, od⟩ (errorP k ss rs ⟨dy, kd, si, lv, rm, co, od⟩).1) ss ∧ k.c0 = c0 ∧ k.c1 = c1 ∧ k.c2 = c2 ∧ ls2.length ≤ j + 1) := by
            obtain ⟨q1, q2, q3, q4, q5, q6, q7, q8⟩ := HR.out
            have hn := HP.out
            rw [q1] at hn
            obtain ⟨r1, r2, r3⟩ := rel_next hroom q3 q4 q5 q6 q7 hn
            refine ⟨rfl, ?_, r1, r2, q5, q6, q7, by omega⟩
            rw [q2, HD.out, rGoP, hn]
            simp
            rfl
          go_roundw
          case rel => exact ⟨j + 1, _, _, ls2, _, _, by omega, by go_num, rfl, rfl, hrel2, own_mono' (own_ext hown2 _) (by simp; omega), hS2.keep (n := (wr.drew.ext zn).heap.size) (by repeat (first | exact B_refl | exact Below.refl _ _ | assumption | with_reducible refine B_alloc ?_ _ | with_reducible refine B_ext ?_ _ | with_reducible refine B_drew ?_ | with_reducible refine B_drewN ?_ _ | with_reducible refine B_set ?_ (by simp; omega) _)), hc2, (hBr.trans (Below.mono (by repeat (first | exact B_refl | exact Below.refl _ _ | assumption | with_reducible refine B_alloc ?_ _ | with_reducible refine B_ext ?_ _ | with_reducible refine B_drew ?_ | with_reducible refine B_drewN ?_ _ | with_reducible refine B_set ?_ (by simp; omega) _)) (show w.heap.size + 1 ≤ wr.heap.size by omega)))⟩
          case measure => simp [intOf]; omega
        · go_wp2_with fail
          go_region_held3 (fun w' => w'.cell? ⟨w.heap.size, 0, none⟩ = some (.slice A n c) ∧ w'.cell? ⟨w.heap.size, 1, none⟩ = some (.slice R rn rc) ∧ w'.cell? ⟨w.heap.size, 2, none⟩ = some (.int .i64 c0) ∧ w'.cell? ⟨w.heap.size, 3, none⟩ = some (.int .i64 c1) ∧ w'.cell? ⟨w.heap.size, 4, none⟩ = some (.int .i64 c2)
              ∧ w'.cell? ⟨b, off + j * 7, none⟩ = some (.int .i64 dy) ∧ w'.cell? ⟨b, off + j * 7 + 1, none⟩ = some (.int .i64 kd) ∧ w'.cell? ⟨b, off + j * 7 + 2, none⟩ = some (.string si) ∧ w'.cell? ⟨b, off + j * 7 + 3, none⟩ = some (.int .i64 lv) ∧ w'.cell? ⟨b, off + j * 7 + 4, none⟩ = some (.string rm) ∧ w'.cell? ⟨b, off + j * 7 + 5, none⟩ = some (.int .i64 co) ∧ w'.cell? ⟨b, off + j * 7 + 6, none⟩ = some (.bool od))
            ((refine ⟨cell_kept hzr g0 ?_, cell_kept hzr g1 ?_, cell_kept hzr g2 ?_, cell_kept hzr g3 ?_, cell_kept hzr g4 ?_, cell_kept hzb x0 ?_, cell_kept hzb x1 ?_, cell_kept hzb x2 ?_, cell_kept hzb x3 ?_, cell_kept hzb x4 ?_, cell_kept hzb x5 ?_, cell_kept hzb x6 ?_⟩ <;> ((repeat (first | exact B_refl | exact Below.refl _ _ | assumption | with_reducible refine B_alloc ?_ _ | with_reducible refine B_ext ?_ _ | with_reducible refine B_drew ?_ | with_reducible refine B_drewN ?_ _ | with_reducible refine B_set ?_ (by simp; omega) _)); done)))
            (first
              | (go_at_call 71; refine (rNext_any ss rs _ _ _ _ _ _ _ _ _ ls _ _ _ _ _ _ _ _ _ _ _ _ ((hy.keep hbw).keep (m := wr.heap.size) ?q1) ⟨rfl, hS.keep (n := wr.heap.size) ?q2, hllen⟩ hc' hl10 hr2 (rel_lies HR.out.2.2.1 hroom) HN.out.1 HN.out.2).mono ?_
                 case q1 => repeat (first | exact B_refl | exact Below.refl _ _ | assumption | with_reducible refine B_alloc ?_ _ | with_reducible refine B_ext ?_ _ | with_reducible refine B_drew ?_ | with_reducible refine B_drewN ?_ _ | with_reducible refine B_set ?_ (by simp; omega) _)
                 case q2 => repeat (first | exact B_refl | exact Below.refl _ _ | assumption | with_reducible refine B_alloc ?_ _ | with_reducible refine B_ext ?_ _ | with_reducible refine B_drew ?_ | with_reducible refine B_drewN ?_ _ | with_reducible refine B_set ?_ (by simp; omega) _)
                 intro e wq hq
                 rw [HP.out] at hq
                 obtain ⟨A2, k2, zn, rfl, rfl, hown2, hS2, hc2⟩ := hq.bad
                 clear hq))
          go_wp2_with fail
          go_ret3
          obtain ⟨q1, q2, q3, q4, q5, q6, q7, q8⟩ := HR.out
          have hn := HP.out
          rw [q1] at hn
          rw [q2, HD.out, rGoP, hn]
          rw [if_pos her]
          exact ⟨_, rfl, own_keep hown (n := wr.heap.size) (by repeat (first | exact B_refl | exact Below.refl _ _ | assumption | with_reducible refine B_alloc ?_ _ | with_reducible refine B_ext ?_ _ | with_reducible refine B_drew ?_ | with_reducible refine B_drewN ?_ _ | with_reducible refine B_set ?_ (by simp; omega) _)), ext_below (hbw.trans (Below.mono (by repeat (first | exact B_refl | exact Below.refl _ _ | assumption | with_reducible refine B_alloc ?_ _ | with_reducible refine B_ext ?_ _ | with_reducible refine B_drew ?_ | with_reducible refine B_drewN ?_ _ | with_reducible refine B_set ?_ (by simp; omega) _)) (show w.heap.size ≤ wr.heap.size by omega)))⟩
      · have hje : j = es.length := by omega
        have HJ := Lib.hid (show T = (ls, j, 0) by
          have := HR.out.2.1
          rw [List.drop_eq_nil_of_le (by omega), rGoP] at this
          exact this)
        have hbw : Below w.heap.size w wr := hB.trans (hBr.mono (by omega))
        subst hje
        go_wp2_with fail
        go_ret3
        rw [HJ.out]
        exact ⟨_, rfl, hown, ext_below hbw⟩
end Go.Proofs.YtpohkolapgofdaaGreat

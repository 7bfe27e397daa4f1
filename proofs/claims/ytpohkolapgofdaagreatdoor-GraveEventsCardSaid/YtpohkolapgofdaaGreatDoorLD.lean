/- Walk of the reference: the lots behind the accepted beginning; the error of a yard and events. -/
/- Walks: the reference's error of a yard and events; few events. -/
import Derived.Test.YtpohkolapgofdaaGreatDoorLB
import Derived.Test.YtpohkolapgofdaaGreatDoorQ2
namespace Go.Proofs.YtpohkolapgofdaaGreatDoor
open Go.RowKit
attribute [local go_sem] World.cell?_alloc_mark ext_size ext_cell ext_frozen lt_add_r lt_add_r2 lt_add_r3 lt_add_r4 lt_add_r5 lt_add_r6 lt_add_r7 lt_add_r8

/-- What Replay hands back. -/
def ReplayPost (w : World) (r : List Lot × Nat × Int) (e : Ending) (w' : World) : Prop :=
  ∃ v, e = .returned (.tuple #[v, .int .i64 (r.2.1 : Int), .int .i64 r.2.2]) ∧ w'.ownsRow w.heap.size 107 6 v r.1.length (r.1.flatMap Lot.cells) ∧ ∃ z, w' = w.ext z
theorem ReplayPost.form {w w' : World} {p : List Lot × Nat × Int} {e : Ending} (h : ReplayPost w p e w') (hl : p.1.length ≤ 100000) : ∃ A c z, e = .returned (.tuple #[.slice A p.1.length c, .int .i64 (p.2.1 : Int), .int .i64 p.2.2]) ∧ w' = w.ext z ∧ LotsIn w' p.1 A p.1.length ∧ p.1.length ≤ c := by
  obtain ⟨v, rfl, hown, z, rfl⟩ := h
  obtain ⟨A, c, rfl, hS, hc⟩ := own_sl lot_len hown
  exact ⟨A, c, z, rfl, rfl, ⟨rfl, hS, hl⟩, hc⟩
theorem goP_len {c0 c1 c2 : Int} {ss : List Site} {rs : List Rest} : ∀ (es : List Event) (ls : List Lot) (last : Int) (i : Nat), (rGoP c0 c1 c2 ss rs ls last i es).1.length ≤ ls.length + es.length
  | [], _, _, _ => Nat.le_add_right _ _
  | e :: l, ls, last, i => by
    unfold rGoP
    split
    · dsimp only; omega
    · refine Nat.le_trans (goP_len l _ _ _) ?_
      have h : (rNextP c0 c1 c2 ss rs ls last e).1.length ≤ ls.length + 1 := by
        unfold rNextP
        split
        · simp
        split
        · simp
        split
        · simp
        · have hw : ∀ (x : Lot) (l : List Lot), (rWithP x l).length ≤ l.length + 1 := by
            intro x l
            induction l with
            | nil => simp [rWithP]
            | cons y l ih =>
              unfold rWithP
              split
              · simp only [List.length_cons]; omega
              split <;> simp
          exact hw _ _
      simp only [List.length_cons]
      omega
theorem rel_lies {k : Bk} {ls : List Lot} {ss : List Site} (h : Rel k ls ss) (hroom : ∀ s ∈ ss, s.room ≤ 12) : ∀ t ∈ ls, t.state = 1 → (∃ s, findSite t.site ss = some s) ∧ 0 ≤ t.level ∧ t.level ≤ 100000 := fun t ht hs => by
  obtain ⟨s, h1, h2, h3⟩ := h.lies t ht hs
  have := hroom s (findSite_mem h1)
  exact ⟨⟨s, h1⟩, h2, by omega⟩

theorem rel_next {k : Bk} {ls ls2 : List Lot} {ss : List Site} {rs : List Rest} {c0 c1 c2 : Int} {e : Event} (hroom : ∀ s ∈ ss, s.room ≤ 12) (hR : Rel k ls ss) (hI : Inv k ss) (h0 : k.c0 = c0) (h1 : k.c1 = c1) (h2 : k.c2 = c2)
    (hn : rNextP c0 c1 c2 ss rs ls k.day e = (ls2, 0)) : Rel (addK k e (errorP k ss rs e).1) ls2 ss ∧ Inv (addK k e (errorP k ss rs e).1) ss ∧ ls2.length ≤ ls.length + 1 := by
  obtain ⟨g1, g2⟩ := hR.error hroom rs e
  rw [h0, h1, h2, hn] at g1
  have hx : ls2 = rWithP (rLotP ss ls e) ls := by
    unfold rNextP at hn
    split at hn
    · rename_i hc
      simp only [Prod.mk.injEq] at hn
      rw [hn.2] at hc
      simp at hc
    split at hn
    · simp at hn
    split at hn
    · rename_i hc
      simp only [Prod.mk.injEq] at hn
      rw [hn.2] at hc
      simp at hc
    · simp only [Prod.mk.injEq] at hn
      exact hn.1.symm
  subst hx
  refine ⟨hR.add hI hroom g1, inv_add hI (Prod.ext rfl g1), ?_⟩
  have hw : ∀ (x : Lot) (l : List Lot), (rWithP x l).length ≤ l.length + 1 := by
    intro x l
    induction l with
    | nil => simp [rWithP]
    | cons y l ih =>
      unfold rWithP
      split
      · simp only [List.length_cons]; omega
      split <;> simp
  exact hw _ _

set_option maxRecDepth 100000 in
set_option maxHeartbeats 2000000 in
theorem rReplay_any (ss : List Site) (rs : List Rest) (A R : Option Addr) (n c rn rc : Nat) (c0 c1 c2 : Int) (es : List Event) (E : Option Addr) (en ec : Nat) (w : World) (hy : YardIn w ss rs A n c R rn rc) (hev : EventsIn w es E en) (hroom : ∀ s ∈ ss, s.room ≤ 12) :
    Calls Tryz.prog 53 #[.agg #[.slice A n c, .slice R rn rc, .int .i64 c0, .int .i64 c1, .int .i64 c2], .slice E en ec] w (ReplayPost w (rReplayP c0 c1 c2 ss rs es)) := by
  have hen := hev.hn
  subst hen
  have hl1 := hev.l1
  have hr2 : ∀ s ∈ ss, s.room ≤ 100000 := fun s hs => by have := hroom s hs; omega
  go_enter Tryz.func53, Tryz.ntmps53
  by_cases hbig : 300 < (es.length : Int)
  · have hX : rReplayP c0 c1 c2 ss rs es = ([], 0, 8) := by rw [rReplayP, if_pos (by simpa using hbig)]
    rw [hX]
    clear hX
    go_wp2_with fail
    go_ret3
    exact ⟨_, rfl, World.ownsRow_nil _ _ _ _, ext_below (by repeat (first | exact B_refl | exact Below.refl _ _ | assumption | with_reducible refine B_alloc ?_ _ | with_reducible refine B_ext ?_ _ | with_reducible refine B_drew ?_ | with_reducible refine B_drewN ?_ _ | with_reducible refine B_set ?_ (by simp; omega) _))⟩
  · have hX : rReplayP c0 c1 c2 ss rs es = rGoP c0 c1 c2 ss rs [] 0 0 es := by rw [rReplayP, if_neg (by simpa using hbig)]
    rw [hX]
    clear hX
    obtain ⟨T, hT⟩ : ∃ T, rGoP c0 c1 c2 ss rs [] 0 0 es = T := ⟨_, rfl⟩
    rw [hT]
    have HT := Lib.hid hT
    clear hT
    go_wp2_with fail
    obtain ⟨W0, hW0⟩ : ∃ W0, W0 = w.alloc (.cells #[.slice A n c, .slice R rn rc, .int .i64 c0, .int .i64 c1, .int .i64 c2] 40) := ⟨_, rfl⟩
    rw [← hW0]
    have hB : Below w.heap.size w W0 := by rw [hW0]; repeat (first | exact B_refl | exact Below.refl _ _ | assumption | with_reducible refine B_alloc ?_ _ | with_reducible refine B_ext ?_ _ | with_reducible refine B_drew ?_ | with_reducible refine B_drewN ?_ _ | with_reducible refine B_set ?_ (by simp; omega) _)
    have hblk : W0.heap[w.heap.size]? = some (.cells #[.slice A n c, .slice R rn rc, .int .i64 c0, .int .i64 c1, .int .i64 c2] 40) := by rw [hW0]; exact heap_alloc_new _ _
    have hz : W0.heap.size = w.heap.size + 1 := by rw [hW0]; simp
    clear hW0
    go_loopw [7, 8, 9] (fun v la i wr => ∃ (j : Nat) (k : Bk) (d : Int) (ls : List Lot) (A' : Option Addr) (c' : Nat), j ≤ es.length ∧ i = .int .i64 j ∧ la = .int .i64 d ∧ v = .slice A' ls.length c' ∧ Hid (d = k.day ∧ T = rGoP c0 c1 c2 ss rs ls k.day j (es.drop j) ∧ Rel k ls ss ∧ Inv k ss ∧ k.c0 = c0 ∧ k.c1 = c1 ∧ k.c2 = c2 ∧ ls.length ≤ j) ∧ wr.ownsRow w.heap.size 107 6 (.slice A' ls.length c') ls.length (ls.flatMap Lot.cells) ∧ Sl wr 6 Lot.cells A' ls ∧ ls.length ≤ c' ∧ Below (w.heap.size + 1) W0 wr) (fun _ _ i _ => es.length - (intOf i).toNat)
    case atStart => exact ⟨0, bk0 A n c R rn rc c0 c1 c2, 0, [], none, 0, Nat.zero_le _, rfl, rfl, rfl, ⟨rfl, HT.out.symm, rel0 _ _ _ _ _ _ _ _ _ _, inv0 _ _ _ _ _ _ _ _ _ _, rfl, rfl, rfl, Nat.le_refl _⟩, World.ownsRow_nil _ _ _ _, Sl.nil, Nat.le_refl _, Below.refl _ _⟩
    case round =>
      obtain ⟨j, k, d, ls, A', c', hj, rfl, rfl, rfl, HR, hown, hS, hc', hBr⟩ := hrel
      have hllen : ls.length ≤ 100000 := by have := HR.out.2.2.2.2.2.2.2; omega
      by_cases hlt : j < es.length
      · have hbw : Below w.heap.size w wr := hB.trans (hBr.mono (by omega))
        obtain ⟨b, off, rfl, hb, hc⟩ := (hev.sl.keep hbw).at hlt
        have hnm := hev.sh _ (List.getElem_mem hlt)
        have x0 : wr.cell? ⟨b, off + j * 7, none⟩ = some (.int .i64 es[j].day) := hc 0 _ rfl
        have x1 : wr.cell? ⟨b, off + j * 7 + 1, none⟩ = some (.int .i64 es[j].kind) := hc 1 _ rfl
        have x2 : wr.cell? ⟨b, off + j * 7 + 2, none⟩ = some (.string es[j].site) := hc 2 _ rfl
        have x3 : wr.cell? ⟨b, off + j * 7 + 3, none⟩ = some (.int .i64 es[j].level) := hc 3 _ rfl
        have x4 : wr.cell? ⟨b, off + j * 7 + 4, none⟩ = some (.string es[j].remain) := hc 4 _ rfl
        have x5 : wr.cell? ⟨b, off + j * 7 + 5, none⟩ = some (.int .i64 es[j].container) := hc 5 _ rfl
        have x6 : wr.cell? ⟨b, off + j * 7 + 6, none⟩ = some (.bool es[j].order) := hc 6 _ rfl
        have HN := Lib.hid hnm
        have hlt2 : (j : Int) < (es.length : Int) := by omega
        have hj0 : (0 : Int) ≤ (j : Int) := by omega
        have HD := Lib.hid (List.drop_eq_getElem_cons hlt)
        have k0 := (hBr.block _ (by omega)).trans hblk
        have g0 : wr.cell? ⟨w.heap.size, 0, none⟩ = some (.slice A n c) := by simp [World.cell?, k0]
        have g1 : wr.cell? ⟨w.heap.size, 1, none⟩ = some (.slice R rn rc) := by simp [World.cell?, k0]
        have g2 : wr.cell? ⟨w.heap.size, 2, none⟩ = some (.int .i64 c0) := by simp [World.cell?, k0]
        have g3 : wr.cell? ⟨w.heap.size, 3, none⟩ = some (.int .i64 c1) := by simp [World.cell?, k0]
        have g4 : wr.cell? ⟨w.heap.size, 4, none⟩ = some (.int .i64 c2) := by simp [World.cell?, k0]
        have hzb : b < wr.heap.size := hb
        have hzr : w.heap.size < wr.heap.size := by have := hBr.size; omega
        have hl10 : ls.length ≤ 10000 := by have := HR.out.2.2.2.2.2.2.2; omega
        clear hc hnm k0 hblk
        generalize es[j] = ev at *
        obtain ⟨dy, kd, si, lv, rm, co, od⟩ := ev
        dsimp only at x0 x1 x2 x3 x4 x5 x6 HN
        obtain ⟨⟨ls2, er⟩, hP⟩ : ∃ p, rNextP c0 c1 c2 ss rs ls d ⟨dy, kd, si, lv, rm, co, od⟩ = p := ⟨_, rfl⟩
        have HP := Lib.hid hP
        clear hP
        cases her : (er != 0)
        · have her0 : er = 0 := by simpa using her
          subst her0
          clear her
          go_wp2_with fail
          go_region_held3 (fun w' => w'.cell? ⟨w.heap.size, 0, none⟩ = some (.slice A n c) ∧ w'.cell? ⟨w.heap.size, 1, none⟩ = some (.slice R rn rc) ∧ w'.cell? ⟨w.heap.size, 2, none⟩ = some (.int .i64 c0) ∧ w'.cell? ⟨w.heap.size, 3, none⟩ = some (.int .i64 c1) ∧ w'.cell? ⟨w.heap.size, 4, none⟩ = some (.int .i64 c2)
              ∧ w'.cell? ⟨b, off + j * 7, none⟩ = some (.int .i64 dy) ∧ w'.cell? ⟨b, off + j * 7 + 1, none⟩ = some (.int .i64 kd) ∧ w'.cell? ⟨b, off + j * 7 + 2, none⟩ = some (.string si) ∧ w'.cell? ⟨b, off + j * 7 + 3, none⟩ = some (.int .i64 lv) ∧ w'.cell? ⟨b, off + j * 7 + 4, none⟩ = some (.string rm) ∧ w'.cell? ⟨b, off + j * 7 + 5, none⟩ = some (.int .i64 co) ∧ w'.cell? ⟨b, off + j * 7 + 6, none⟩ = some (.bool od))
            ((refine ⟨cell_kept hzr g0 ?_, cell_kept hzr g1 ?_, cell_kept hzr g2 ?_, cell_kept hzr g3 ?_, cell_kept hzr g4 ?_, cell_kept hzb x0 ?_, cell_kept hzb x1 ?_, cell_kept hzb x2 ?_, cell_kept hzb x3 ?_, cell_kept hzb x4 ?_, cell_kept hzb x5 ?_, cell_kept hzb x6 ?_⟩ <;> ((repeat (first | exact B_refl | exact Below.refl _ _ | assumption | with_reducible refine B_alloc ?_ _ | with_reducible refine B_ext ?_ _ | with_reducible refine B_drew ?_ | with_reducible refine B_drewN ?_ _ | with_reducible refine B_set ?_ (by simp; omega) _)); done)))
            (first
              | (go_at_call 80; refine (rNext_any ss rs _ _ _ _ _ _ _ _ _ ls _ _ _ _ _ _ _ _ _ _ _ _ ((hy.keep hbw).keep (m := wr.heap.size) ?q1) ⟨rfl, hS.keep (n := wr.heap.size) ?q2, hllen⟩ hc' hl10 hr2 (rel_lies HR.out.2.2.1 hroom) HN.out.1 HN.out.2).mono ?_
                 case q1 => repeat (first | exact B_refl | exact Below.refl _ _ | assumption | with_reducible refine B_alloc ?_ _ | with_reducible refine B_ext ?_ _ | with_reducible refine B_drew ?_ | with_reducible refine B_drewN ?_ _ | with_reducible refine B_set ?_ (by simp; omega) _)
                 case q2 => repeat (first | exact B_refl | exact Below.refl _ _ | assumption | with_reducible refine B_alloc ?_ _ | with_reducible refine B_ext ?_ _ | with_reducible refine B_drew ?_ | with_reducible refine B_drewN ?_ _ | with_reducible refine B_set ?_ (by simp; omega) _)
                 intro e wq hq
                 rw [HP.out] at hq
                 obtain ⟨A2, k2, zn, rfl, rfl, hown2, hS2, hc2⟩ := hq.bad
                 clear hq))
          go_wp2_with fail
          (refine wp_region_ext_lit (by kernel_rfl) (by kernel_rfl) ?_
           repeat (first | go_big_quiet_skip | (go_big_quiet_want; go_big_quiet_op; first | go_big_quiet_on | (apply Exists.intro; refine ⟨fun _ => ?_, ?_⟩; (fail); go_big_quiet_on)))
           refine wpQuiet_nil ?_
           rintro _ ⟨zq, rfl⟩)
          go_wp2_with fail
          have hrel2 : Hid (dy = (addK k ⟨dy, kd, si, lv, rm, co, od⟩ (errorP k ss rs ⟨dy, kd, si, lv, rm, co, od⟩).1).day ∧ T = rGoP c0 c1 c2 ss rs ls2 (addK k ⟨dy, kd, si, lv, rm, co, od⟩ (errorP k ss rs ⟨dy, kd, si, lv, rm, co, od⟩).1).day (j + 1) (es.drop (j + 1)) ∧ Rel (addK k ⟨dy, kd, si, lv, rm, co, od⟩ (errorP k ss rs ⟨dy, kd, si, lv, rm, co, od⟩).1) ls2 ss ∧ Inv (addK k ⟨dy, kd, si, lv, rm, co, od⟩ (errorP k ss rs ⟨dy, kd, si, lv, rm, co, od⟩).1) ss ∧ k.c0 = c0 ∧ k.c1 = c1 ∧ k.c2 = c2 ∧ ls2.length ≤ j + 1) := by
            obtain ⟨q1, q2, q3, q4, q5, q6, q7, q8⟩ := HR.out
            have hn := HP.out
            rw [q1] at hn
            obtain ⟨r1, r2, r3⟩ := rel_next hroom q3 q4 q5 q6 q7 hn
            refine ⟨rfl, ?_, r1, r2, q5, q6, q7, by omega⟩
            rw [q2, HD.out, rGoP, hn]
            simp
            rfl
          go_roundw
          case rel => exact ⟨j + 1, _, _, ls2, _, _, by omega, by go_num, rfl, rfl, hrel2, own_mono' (own_ext hown2 _) (by simp; omega), hS2.keep (n := (wr.drew.ext zn).heap.size) (by repeat (first | exact B_refl | exact Below.refl _ _ | assumption | with_reducible refine B_alloc ?_ _ | with_reducible refine B_ext ?_ _ | with_reducible refine B_drew ?_ | with_reducible refine B_drewN ?_ _ | with_reducible refine B_set ?_ (by simp; omega) _)), hc2, (hBr.trans (Below.mono (by repeat (first | exact B_refl | exact Below.refl _ _ | assumption | with_reducible refine B_alloc ?_ _ | with_reducible refine B_ext ?_ _ | with_reducible refine B_drew ?_ | with_reducible refine B_drewN ?_ _ | with_reducible refine B_set ?_ (by simp; omega) _)) (show w.heap.size + 1 ≤ wr.heap.size by omega)))⟩
          case measure => simp [intOf]; omega
        · go_wp2_with fail
          go_region_held3 (fun w' => w'.cell? ⟨w.heap.size, 0, none⟩ = some (.slice A n c) ∧ w'.cell? ⟨w.heap.size, 1, none⟩ = some (.slice R rn rc) ∧ w'.cell? ⟨w.heap.size, 2, none⟩ = some (.int .i64 c0) ∧ w'.cell? ⟨w.heap.size, 3, none⟩ = some (.int .i64 c1) ∧ w'.cell? ⟨w.heap.size, 4, none⟩ = some (.int .i64 c2)
              ∧ w'.cell? ⟨b, off + j * 7, none⟩ = some (.int .i64 dy) ∧ w'.cell? ⟨b, off + j * 7 + 1, none⟩ = some (.int .i64 kd) ∧ w'.cell? ⟨b, off + j * 7 + 2, none⟩ = some (.string si) ∧ w'.cell? ⟨b, off + j * 7 + 3, none⟩ = some (.int .i64 lv) ∧ w'.cell? ⟨b, off + j * 7 + 4, none⟩ = some (.string rm) ∧ w'.cell? ⟨b, off + j * 7 + 5, none⟩ = some (.int .i64 co) ∧ w'.cell? ⟨b, off + j * 7 + 6, none⟩ = some (.bool od))
            ((refine ⟨cell_kept hzr g0 ?_, cell_kept hzr g1 ?_, cell_kept hzr g2 ?_, cell_kept hzr g3 ?_, cell_kept hzr g4 ?_, cell_kept hzb x0 ?_, cell_kept hzb x1 ?_, cell_kept hzb x2 ?_, cell_kept hzb x3 ?_, cell_kept hzb x4 ?_, cell_kept hzb x5 ?_, cell_kept hzb x6 ?_⟩ <;> ((repeat (first | exact B_refl | exact Below.refl _ _ | assumption | with_reducible refine B_alloc ?_ _ | with_reducible refine B_ext ?_ _ | with_reducible refine B_drew ?_ | with_reducible refine B_drewN ?_ _ | with_reducible refine B_set ?_ (by simp; omega) _)); done)))
            (first
              | (go_at_call 80; refine (rNext_any ss rs _ _ _ _ _ _ _ _ _ ls _ _ _ _ _ _ _ _ _ _ _ _ ((hy.keep hbw).keep (m := wr.heap.size) ?q1) ⟨rfl, hS.keep (n := wr.heap.size) ?q2, hllen⟩ hc' hl10 hr2 (rel_lies HR.out.2.2.1 hroom) HN.out.1 HN.out.2).mono ?_
                 case q1 => repeat (first | exact B_refl | exact Below.refl _ _ | assumption | with_reducible refine B_alloc ?_ _ | with_reducible refine B_ext ?_ _ | with_reducible refine B_drew ?_ | with_reducible refine B_drewN ?_ _ | with_reducible refine B_set ?_ (by simp; omega) _)
                 case q2 => repeat (first | exact B_refl | exact Below.refl _ _ | assumption | with_reducible refine B_alloc ?_ _ | with_reducible refine B_ext ?_ _ | with_reducible refine B_drew ?_ | with_reducible refine B_drewN ?_ _ | with_reducible refine B_set ?_ (by simp; omega) _)
                 intro e wq hq
                 rw [HP.out] at hq
                 obtain ⟨A2, k2, zn, rfl, rfl, hown2, hS2, hc2⟩ := hq.bad
                 clear hq))
          go_wp2_with fail
          go_ret3
          obtain ⟨q1, q2, q3, q4, q5, q6, q7, q8⟩ := HR.out
          have hn := HP.out
          rw [q1] at hn
          rw [q2, HD.out, rGoP, hn]
          rw [if_pos her]
          exact ⟨_, rfl, own_keep hown (n := wr.heap.size) (by repeat (first | exact B_refl | exact Below.refl _ _ | assumption | with_reducible refine B_alloc ?_ _ | with_reducible refine B_ext ?_ _ | with_reducible refine B_drew ?_ | with_reducible refine B_drewN ?_ _ | with_reducible refine B_set ?_ (by simp; omega) _)), ext_below (hbw.trans (Below.mono (by repeat (first | exact B_refl | exact Below.refl _ _ | assumption | with_reducible refine B_alloc ?_ _ | with_reducible refine B_ext ?_ _ | with_reducible refine B_drew ?_ | with_reducible refine B_drewN ?_ _ | with_reducible refine B_set ?_ (by simp; omega) _)) (show w.heap.size ≤ wr.heap.size by omega)))⟩
      · have hje : j = es.length := by omega
        have HJ := Lib.hid (show T = (ls, j, 0) by
          have := HR.out.2.1
          rw [List.drop_eq_nil_of_le (by omega), rGoP] at this
          exact this)
        have hbw : Below w.heap.size w wr := hB.trans (hBr.mono (by omega))
        subst hje
        go_wp2_with fail
        go_ret3
        rw [HJ.out]
        exact ⟨_, rfl, hown, ext_below hbw⟩
end Go.Proofs.YtpohkolapgofdaaGreatDoor
namespace Go.Proofs.YtpohkolapgofdaaGreatDoor
open Go.RowKit
attribute [local go_sem] World.cell?_alloc_mark ext_size ext_cell ext_frozen lt_add_r lt_add_r2 lt_add_r3 lt_add_r4 lt_add_r5 lt_add_r6 lt_add_r7 lt_add_r8

theorem yard_rooms {ss : List Site} {rs : List Rest} {c0 c1 c2 : Int} (h : checkYardP ss rs c0 c1 c2 = 0) : ∀ s ∈ ss, s.room ≤ 12 := fun s hs => (checkSite_room (yard_room h s hs)).2.1
/-- What read makes of a yard and events is what the reference says. -/
theorem read_check (ss : List Site) (rs : List Rest) (A R : Option Addr) (n c rn rc : Nat) (c0 c1 c2 : Int) (es : List Event) :
    (readP ss rs (bk0 A n c R rn rc c0 c1 c2) es).2 = rCheckP c0 c1 c2 ss rs es ∧ (rCheckP c0 c1 c2 ss rs es = 0 → Rel (readP ss rs (bk0 A n c R rn rc c0 c1 c2) es).1 (rReplayP c0 c1 c2 ss rs es).1 ss ∧ Inv (readP ss rs (bk0 A n c R rn rc c0 c1 c2) es).1 ss ∧
      (readP ss rs (bk0 A n c R rn rc c0 c1 c2) es).1 = (addsP ss rs (bk0 A n c R rn rc c0 c1 c2) es).1 ∧ (addsP ss rs (bk0 A n c R rn rc c0 c1 c2) es).2 = 0 ∧ checkYardP ss rs c0 c1 c2 = 0 ∧ es.length ≤ 300) := by
  have hrd : readP ss rs (bk0 A n c R rn rc c0 c1 c2) es = if checkYardP ss rs c0 c1 c2 != 0 then (bk0 A n c R rn rc c0 c1 c2, checkYardP ss rs c0 c1 c2) else if decide (300 < (es.length : Int)) then (bk0 A n c R rn rc c0 c1 c2, 8) else addsP ss rs (bk0 A n c R rn rc c0 c1 c2) es := rfl
  rw [hrd]
  unfold rCheckP
  by_cases hc0 : checkYardP ss rs c0 c1 c2 = 0
  · have hroom := yard_rooms hc0
    have hc : ¬ (checkYardP ss rs c0 c1 c2 != 0) = true := by simp [hc0]
    rw [if_neg hc, if_neg hc]
    unfold rReplayP
    by_cases hb : 300 < (es.length : Int)
    · have hb2 : decide (300 < (es.length : Int)) = true := by simpa using hb
      rw [if_pos hb2, if_pos hb2]
      exact ⟨rfl, fun h => by simp at h⟩
    · have hb2 : ¬ decide (300 < (es.length : Int)) = true := by simpa using hb
      rw [if_neg hb2, if_neg hb2]
      obtain ⟨h1, h2, h3, h4⟩ := play_same (rs := rs) hroom es (bk0 A n c R rn rc c0 c1 c2) [] 0 (rel0 _ _ _ _ _ _ _ _ _ _) (inv0 _ _ _ _ _ _ _ _ _ _) rfl rfl rfl
      rw [adds_play ss rs es _ 0]
      refine ⟨by rw [h3]; rfl, fun h => ⟨h1, h2, rfl, ?_, hc0, by omega⟩⟩
      dsimp only
      rw [h3]; exact h
  · have hc : (checkYardP ss rs c0 c1 c2 != 0) = true := by simpa using hc0
    rw [if_pos hc, if_pos hc]
    exact ⟨rfl, fun h => absurd h hc0⟩
/-- The book on a day says what the reference's lots on that day say. -/
theorem upTo_check {ss : List Site} {rs : List Rest} {A R : Option Addr} {n c rn rc : Nat} {c0 c1 c2 : Int} {es : List Event} (h : rCheckP c0 c1 c2 ss rs es = 0) (day : Int) :
    upToP ss rs day (bk0 A n c R rn rc c0 c1 c2) es = (addsP ss rs (bk0 A n c R rn rc c0 c1 c2) (upToE day es)).1 ∧ Rel (upToP ss rs day (bk0 A n c R rn rc c0 c1 c2) es) (rReplayP c0 c1 c2 ss rs (upToE day es)).1 ss ∧ Inv (upToP ss rs day (bk0 A n c R rn rc c0 c1 c2) es) ss ∧
      (addsP ss rs (bk0 A n c R rn rc c0 c1 c2) (upToE day es)).2 = 0 := by
  obtain ⟨_, _, _, h4, h5, h6⟩ := (read_check ss rs A R n c rn rc c0 c1 c2 es).2 h
  obtain ⟨g1, g2⟩ := upTo_same (day := day) es _ h4
  have hroom := yard_rooms h5
  obtain ⟨k1, k2, k3, k4⟩ := play_same (rs := rs) hroom (upToE day es) (bk0 A n c R rn rc c0 c1 c2) [] 0 (rel0 _ _ _ _ _ _ _ _ _ _) (inv0 _ _ _ _ _ _ _ _ _ _) rfl rfl rfl
  have hlen : (upToE day es).length ≤ es.length := (List.takeWhile_prefix _).length_le
  refine ⟨g1, ?_, ?_, g2⟩
  · rw [g1, adds_play ss rs _ _ 0, rReplayP, if_neg (by rw [decide_eq_true_eq]; omega)]
    exact k1
  · rw [g1, adds_play ss rs _ _ 0]
    exact k2

set_option maxRecDepth 100000 in
set_option maxHeartbeats 2000000 in
theorem rCheck_any (ss : List Site) (rs : List Rest) (A R : Option Addr) (n c rn rc : Nat) (c0 c1 c2 : Int) (es : List Event) (E : Option Addr) (en ec : Nat) (w : World) (hy : YardIn w ss rs A n c R rn rc) (hev : EventsIn w es E en) :
    Calls Tryz.prog 21 #[.agg #[.slice A n c, .slice R rn rc, .int .i64 c0, .int .i64 c1, .int .i64 c2], .slice E en ec] w (Ret w (.int .i64 (rCheckP c0 c1 c2 ss rs es))) := by
  go_enter Tryz.func21, Tryz.ntmps21
  cases hc : (checkYardP ss rs c0 c1 c2 != 0)
  · have hc0 : checkYardP ss rs c0 c1 c2 = 0 := by simpa using hc
    have HR := Lib.hid (yard_rooms hc0)
    have hX : rCheckP c0 c1 c2 ss rs es = (rReplayP c0 c1 c2 ss rs es).2.2 := by rw [rCheckP, if_neg (by simp [hc0])]
    rw [hX]
    clear hX hc0
    go_wp2_with (first
      | (go_at_call 52; refine (rCheckYard_any' ss rs _ _ _ _ _ _ _ _ _ _ (hy.keep (m := w.heap.size) (by repeat (first | exact B_refl | exact Below.refl _ _ | assumption | with_reducible refine B_alloc ?_ _ | with_reducible refine B_ext ?_ _ | with_reducible refine B_drew ?_ | with_reducible refine B_drewN ?_ _ | with_reducible refine B_set ?_ (by simp; omega) _)))).mono ?_; rintro e wq ⟨rfl, zr, rfl⟩)
      | (go_at_call 53; refine (rReplay_any ss rs _ _ _ _ _ _ _ _ _ es _ _ _ _ (hy.keep (m := w.heap.size) (by repeat (first | exact B_refl | exact Below.refl _ _ | assumption | with_reducible refine B_alloc ?_ _ | with_reducible refine B_ext ?_ _ | with_reducible refine B_drew ?_ | with_reducible refine B_drewN ?_ _ | with_reducible refine B_set ?_ (by simp; omega) _))) (hev.keep (m := w.heap.size) (by repeat (first | exact B_refl | exact Below.refl _ _ | assumption | with_reducible refine B_alloc ?_ _ | with_reducible refine B_ext ?_ _ | with_reducible refine B_drew ?_ | with_reducible refine B_drewN ?_ _ | with_reducible refine B_set ?_ (by simp; omega) _))) HR.out).mono ?_; rintro e wq ⟨v, rfl, _, zp, rfl⟩))
    go_ret
    exact Ret.of rfl (by repeat (first | exact B_refl | exact Below.refl _ _ | assumption | with_reducible refine B_alloc ?_ _ | with_reducible refine B_ext ?_ _ | with_reducible refine B_drew ?_ | with_reducible refine B_drewN ?_ _ | with_reducible refine B_set ?_ (by simp; omega) _))
  · have hX : rCheckP c0 c1 c2 ss rs es = checkYardP ss rs c0 c1 c2 := by rw [rCheckP, if_pos hc]
    rw [hX]
    clear hX
    go_wp2_with (go_at_call 52; refine (rCheckYard_any' ss rs _ _ _ _ _ _ _ _ _ _ (hy.keep (m := w.heap.size) (by repeat (first | exact B_refl | exact Below.refl _ _ | assumption | with_reducible refine B_alloc ?_ _ | with_reducible refine B_ext ?_ _ | with_reducible refine B_drew ?_ | with_reducible refine B_drewN ?_ _ | with_reducible refine B_set ?_ (by simp; omega) _)))).mono ?_; rintro e wq ⟨rfl, zr, rfl⟩)
    go_ret
    exact Ret.of rfl (by repeat (first | exact B_refl | exact Below.refl _ _ | assumption | with_reducible refine B_alloc ?_ _ | with_reducible refine B_ext ?_ _ | with_reducible refine B_drew ?_ | with_reducible refine B_drewN ?_ _ | with_reducible refine B_set ?_ (by simp; omega) _))

def fewN (n : Nat) : Bool := !((decide (16 < (n : Int)) && decide ((n : Int) ≤ 300)) || decide (303 < (n : Int)))
def shortP : List Event → Bool
  | [] => true
  | e :: l => if decide (30 < (e.site.size : Int)) || decide (30 < (e.remain.size : Int)) then false else shortP l
def fewP (es : List Event) : Bool := if fewN es.length then shortP es else false
theorem shortP_all : ∀ {es : List Event}, shortP es = true → ∀ e ∈ es, e.site.size ≤ 30 ∧ e.remain.size ≤ 30
  | [], _, _, h => by cases h
  | e :: l, h, x, hx => by
    unfold shortP at h
    split at h
    · cases h
    · rename_i hn
      rcases List.mem_cons.1 hx with rfl | hx
      · simp at hn; omega
      · exact shortP_all h x hx
structure EventsRaw (w : World) (es : List Event) (A : Option Addr) (n : Nat) : Prop where
  hn : n = es.length
  sl : Sl w 7 Event.cells A es
theorem EventsRaw.keep {w W : World} {es : List Event} {A : Option Addr} {n : Nat} (h : EventsRaw w es A n) {m : Nat} (hb : Below m w W) (hm : w.heap.size ≤ m := by first | exact Nat.le_refl _ | omega) : EventsRaw W es A n := ⟨h.hn, h.sl.keep hb hm⟩
theorem few_events {w : World} {es : List Event} {A : Option Addr} {n : Nat} (hy : EventsRaw w es A n) (h : fewP es = true) : EventsIn w es A n ∧ es.length ≤ 303 ∧ (es.length ≤ 16 ∨ 300 < es.length) := by
  unfold fewP at h
  split at h
  · rename_i hs
    have h1 : es.length ≤ 303 ∧ (es.length ≤ 16 ∨ 300 < es.length) := by simp [fewN] at hs; omega
    exact ⟨⟨hy.hn, hy.sl, by omega, fun s hs => by have := shortP_all h s hs; omega⟩, h1⟩
  · cases h

set_option maxRecDepth 100000 in
set_option maxHeartbeats 2000000 in
theorem few_any (es : List Event) (E : Option Addr) (en ec : Nat) (w : World) (hy : EventsRaw w es E en) :
    Calls Tryz.prog 13 #[.slice E en ec] w (Ret w (.bool (fewP es))) := by
  have h1 := hy.hn
  subst h1
  go_enter Tryz.func13, Tryz.ntmps13
  cases hsm : fewN es.length
  · have hX : fewP es = false := by rw [fewP, hsm]; rfl
    rw [hX]
    clear hX
    have H := Lib.hid hsm
    clear hsm
    go_wp2_with fail
    all_goals first
      | (go_ret; exact Ret.of rfl (by repeat (first | exact B_refl | exact Below.refl _ _ | assumption | with_reducible refine B_alloc ?_ _ | with_reducible refine B_ext ?_ _ | with_reducible refine B_drew ?_ | with_reducible refine B_drewN ?_ _ | with_reducible refine B_set ?_ (by simp; omega) _)))
      | (exfalso; have := H.out; simp [fewN] at this; omega)
  · have hX : fewP es = shortP es := by rw [fewP, hsm]; rfl
    rw [hX]
    clear hX
    have H := Lib.hid hsm
    clear hsm
    go_wp2_with fail
    all_goals first
      | (go_loop [3] (fun i => ∃ k : Nat, k ≤ es.length ∧ i = .int .i64 k ∧ shortP es = shortP (es.drop k)) (fun i => es.length - (intOf i).toNat)
         case atStart => exact ⟨0, Nat.zero_le _, rfl, rfl⟩
         case round =>
           obtain ⟨k, hk, rfl, hf⟩ := hrel
           by_cases hlt : k < es.length
           · rw [List.drop_eq_getElem_cons hlt, shortP] at hf
             obtain ⟨b, off, rfl, hb, hc⟩ := (hy.sl.keep (n := w.heap.size) (by repeat (first | exact B_refl | exact Below.refl _ _ | assumption | with_reducible refine B_alloc ?_ _ | with_reducible refine B_ext ?_ _ | with_reducible refine B_drew ?_ | with_reducible refine B_drewN ?_ _ | with_reducible refine B_set ?_ (by simp; omega) _))).at hlt
             have x2 : w.cell? ⟨b, off + k * 7 + 2, none⟩ = some (.string es[k].site) := hc 2 _ rfl
             have x4 : w.cell? ⟨b, off + k * 7 + 4, none⟩ = some (.string es[k].remain) := hc 4 _ rfl
             have HF := Lib.hid hf
             have hlt2 : (k : Int) < (es.length : Int) := by omega
             clear hf hc
             generalize es[k].site = nm at *
             generalize es[k].remain = rm at *
             by_cases q1 : 30 < (nm.size : Int)
             · go_wp2_with fail
               go_ret
               exact Ret.of (bool_eq (by rw [HF.out, if_pos (by simp [q1])])) (by repeat (first | exact B_refl | exact Below.refl _ _ | assumption | with_reducible refine B_alloc ?_ _ | with_reducible refine B_ext ?_ _ | with_reducible refine B_drew ?_ | with_reducible refine B_drewN ?_ _ | with_reducible refine B_set ?_ (by simp; omega) _))
             · by_cases q2 : 30 < (rm.size : Int)
               · go_wp2_with fail
                 go_ret
                 exact Ret.of (bool_eq (by rw [HF.out, if_pos (by simp [q2])])) (by repeat (first | exact B_refl | exact Below.refl _ _ | assumption | with_reducible refine B_alloc ?_ _ | with_reducible refine B_ext ?_ _ | with_reducible refine B_drew ?_ | with_reducible refine B_drewN ?_ _ | with_reducible refine B_set ?_ (by simp; omega) _))
               · go_wp2_with fail
                 go_round
                 case rel => exact ⟨k + 1, by omega, by go_num, by rw [HF.out, if_neg (by simp; omega)]⟩
                 case measure => simp [intOf]; omega
           · rw [List.drop_eq_nil_of_le (by omega), shortP] at hf
             have HF := Lib.hid hf
             clear hf
             go_wp2_with fail
             go_ret
             exact Ret.of (bool_eq (by rw [HF.out])) (by repeat (first | exact B_refl | exact Below.refl _ _ | assumption | with_reducible refine B_alloc ?_ _ | with_reducible refine B_ext ?_ _ | with_reducible refine B_drew ?_ | with_reducible refine B_drewN ?_ _ | with_reducible refine B_set ?_ (by simp; omega) _)))
      | (exfalso; have := H.out; simp [fewN] at this; omega)
end Go.Proofs.YtpohkolapgofdaaGreatDoor

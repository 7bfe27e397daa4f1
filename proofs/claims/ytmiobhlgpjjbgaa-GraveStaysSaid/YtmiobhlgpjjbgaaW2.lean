/- Walk: the law GraveYards. -/
import Derived.Test.YtmiobhlgpjjbgaaW1
import Derived.Test.YtmiobhlgpjjbgaaC2
import Derived.Deep.RegionHeld3
namespace Go.Proofs.Ytmiobhlgpjjbgaa
open Go.RowKit
attribute [local go_sem] World.cell?_alloc_mark ext_size ext_cell ext_frozen lt_add_r lt_add_r2 lt_add_r3 lt_add_r4 lt_add_r5 lt_add_r6 lt_add_r7 lt_add_r8

def smallN (n m : Nat) : Bool := !((decide (5 < (n : Int)) && decide ((n : Int) ≤ 60)) || decide (63 < (n : Int)) || (decide (6 < (m : Int)) && decide ((m : Int) ≤ 40)) || decide (43 < (m : Int)))
def namesP : List Site → Bool
  | [] => true
  | s :: l => if decide (30 < (s.name.size : Int)) then false else namesP l
def smallP (ss : List Site) (rs : List Rest) : Bool := if smallN ss.length rs.length then namesP ss else false
/-- A yard that came in, of whatever size. -/
structure YardRaw (w : World) (ss : List Site) (rs : List Rest) (A : Option Addr) (n c : Nat) (R : Option Addr) (rn rc : Nat) : Prop where
  hn : n = ss.length
  hrn : rn = rs.length
  sl : Sl w 6 Site.cells A ss
  sr : Sl w 3 Rest.cells R rs
  cap : ss.length ≤ c

set_option maxRecDepth 100000 in
set_option maxHeartbeats 2000000 in
theorem small_any (ss : List Site) (rs : List Rest) (A R : Option Addr) (n c rn rc : Nat) (c0 c1 c2 : Int) (w : World) (hy : YardRaw w ss rs A n c R rn rc) :
    Calls Try.prog 13 #[.agg #[.slice A n c, .slice R rn rc, .int .i64 c0, .int .i64 c1, .int .i64 c2]] w (Ret w (.bool (smallP ss rs))) := by
  have h1 := hy.hn
  have h2 := hy.hrn
  subst h1 h2
  go_enter Try.func13, Try.ntmps13
  cases hsm : smallN ss.length rs.length
  · have hX : smallP ss rs = false := by rw [smallP, hsm]; rfl
    rw [hX]
    clear hX
    have H := Lib.hid hsm
    clear hsm
    go_wp2_with fail
    all_goals first
      | (go_ret; exact Ret.of rfl (by repeat (first | exact B_refl | exact Below.refl _ _ | assumption | with_reducible refine B_alloc ?_ _ | with_reducible refine B_ext ?_ _ | with_reducible refine B_drew ?_ | with_reducible refine B_drewN ?_ _ | with_reducible refine B_set ?_ (by simp; omega) _)))
      | (exfalso; have := H.out; simp [smallN] at this; omega)
  · have hX : smallP ss rs = namesP ss := by rw [smallP, hsm]; rfl
    rw [hX]
    clear hX
    have H := Lib.hid hsm
    clear hsm
    go_wp2_with fail
    all_goals first
      | (go_loop [3] (fun i => ∃ k : Nat, k ≤ ss.length ∧ i = .int .i64 k ∧ namesP ss = namesP (ss.drop k)) (fun i => ss.length - (intOf i).toNat)
         case atStart => exact ⟨0, Nat.zero_le _, rfl, rfl⟩
         case round =>
           obtain ⟨k, hk, rfl, hf⟩ := hrel
           by_cases hlt : k < ss.length
           · rw [List.drop_eq_getElem_cons hlt, namesP] at hf
             obtain ⟨b, off, rfl, hb, hc⟩ := (hy.sl.keep (n := w.heap.size) (by repeat (first | exact B_refl | exact Below.refl _ _ | assumption | with_reducible refine B_alloc ?_ _ | with_reducible refine B_ext ?_ _ | with_reducible refine B_drew ?_ | with_reducible refine B_drewN ?_ _ | with_reducible refine B_set ?_ (by simp; omega) _))).at hlt
             have x0 : w.cell? ⟨b, off + k * 6, none⟩ = some (.string ss[k].name) := hc 0 _ rfl
             have HF := Lib.hid hf
             have hlt2 : (k : Int) < (ss.length : Int) := by omega
             clear hf hc
             generalize ss[k].name = nm at *
             go_wp2_with fail
             · go_ret
               exact Ret.of (bool_eq (by rw [HF.out, if_pos (by simpa using ‹_›)])) (by repeat (first | exact B_refl | exact Below.refl _ _ | assumption | with_reducible refine B_alloc ?_ _ | with_reducible refine B_ext ?_ _ | with_reducible refine B_drew ?_ | with_reducible refine B_drewN ?_ _ | with_reducible refine B_set ?_ (by simp; omega) _))
             · go_round
               case rel => exact ⟨k + 1, by omega, by go_num, by rw [HF.out, if_neg (by simpa using ‹_›)]⟩
               case measure => simp [intOf]; omega
           · rw [List.drop_eq_nil_of_le (by omega), namesP] at hf
             have HF := Lib.hid hf
             clear hf
             go_wp2_with fail
             go_ret
             exact Ret.of (bool_eq (by rw [HF.out])) (by repeat (first | exact B_refl | exact Below.refl _ _ | assumption | with_reducible refine B_alloc ?_ _ | with_reducible refine B_ext ?_ _ | with_reducible refine B_drew ?_ | with_reducible refine B_drewN ?_ _ | with_reducible refine B_set ?_ (by simp; omega) _)))
      | (exfalso; have := H.out; simp [smallN] at this; omega)

theorem namesP_all : ∀ {ss : List Site}, namesP ss = true → ∀ s ∈ ss, s.name.size ≤ 30
  | [], _, _, h => by cases h
  | s :: l, h, x, hx => by
    unfold namesP at h
    split at h
    · cases h
    · rename_i hn
      rcases List.mem_cons.1 hx with rfl | hx
      · simp at hn; omega
      · exact namesP_all h x hx
theorem small_yard {w : World} {ss : List Site} {rs : List Rest} {A R : Option Addr} {n c rn rc : Nat} (hy : YardRaw w ss rs A n c R rn rc) (h : smallP ss rs = true) : YardIn w ss rs A n c R rn rc ∧ ss.length ≤ 63 ∧ rs.length ≤ 43 := by
  unfold smallP at h
  split at h
  · rename_i hs
    have h1 : ss.length ≤ 63 := by simp [smallN] at hs; omega
    have h2 : rs.length ≤ 43 := by simp [smallN] at hs; omega
    exact ⟨⟨hy.hn, hy.hrn, hy.sl, hy.sr, hy.cap, by omega, by omega, fun s hs => by have := namesP_all h s hs; omega⟩, h1, h2⟩
  · cases h
theorem YardRaw.keep {w W : World} {ss : List Site} {rs : List Rest} {A R : Option Addr} {n c rn rc : Nat} (h : YardRaw w ss rs A n c R rn rc) {m : Nat} (hb : Below m w W) (hm : w.heap.size ≤ m := by first | exact Nat.le_refl _ | omega) : YardRaw W ss rs A n c R rn rc :=
  ⟨h.hn, h.hrn, h.sl.keep hb hm, h.sr.keep hb hm, h.cap⟩
theorem rCheckSite_any' (nm : ByteArray) (k so d st r : Int) (w : World) (hs : nm.size ≤ 100000) :
    Calls Try.prog 15 #[.agg #[.string nm, .int .i64 k, .int .i64 so, .int .i64 d, .int .i64 st, .int .i64 r]] w (Ret w (.int .i64 (checkSiteP nm k so d st r))) := by
  rw [checkSite_same]; exact rCheckSite_any nm k so d st r w hs
theorem rCheckYard_any' (ss : List Site) (rs : List Rest) (A R : Option Addr) (n c rn rc : Nat) (c0 c1 c2 : Int) (w : World) (hy : YardIn w ss rs A n c R rn rc) :
    Calls Try.prog 18 #[.agg #[.slice A n c, .slice R rn rc, .int .i64 c0, .int .i64 c1, .int .i64 c2]] w (Ret w (.int .i64 (checkYardP ss rs c0 c1 c2))) := by
  rw [checkYard_same]; exact rCheckYard_any ss rs A R n c rn rc c0 c1 c2 w hy.hn hy.hrn hy.sl hy.sr hy.l1 hy.l2 hy.sh

set_option maxRecDepth 100000 in
set_option maxHeartbeats 2000000 in
theorem graveYards_any (ss : List Site) (rs : List Rest) (A R : Option Addr) (n c rn rc : Nat) (c0 c1 c2 : Int) (w : World) (hy : YardRaw w ss rs A n c R rn rc) :
    Calls Try.prog 3 #[.agg #[.slice A n c, .slice R rn rc, .int .i64 c0, .int .i64 c1, .int .i64 c2]] w (Ret w (.bool true)) := by
  have h1 := hy.hn
  have h2 := hy.hrn
  subst h1 h2
  go_enter Try.func3, Try.ntmps3
  cases hsm : smallP ss rs
  · go_wp2_with (first
      | (go_at_call 12; refine (awake_any _).mono ?_; rintro e wq ⟨rfl, za, rfl⟩)
      | (go_at_call 13; refine (small_any ss rs _ _ _ _ _ _ _ _ _ _ (hy.keep (by repeat (first | exact B_refl | exact Below.refl _ _ | assumption | with_reducible refine B_alloc ?_ _ | with_reducible refine B_ext ?_ _ | with_reducible refine B_drew ?_ | with_reducible refine B_drewN ?_ _ | with_reducible refine B_set ?_ (by simp; omega) _)))).mono ?_; rintro e wq ⟨rfl, zs, rfl⟩; rw [hsm]))
    go_ret
    exact Ret.of rfl (by repeat (first | exact B_refl | exact Below.refl _ _ | assumption | with_reducible refine B_alloc ?_ _ | with_reducible refine B_ext ?_ _ | with_reducible refine B_drew ?_ | with_reducible refine B_drewN ?_ _ | with_reducible refine B_set ?_ (by simp; omega) _))
  · obtain ⟨hyi, hl1, hl2⟩ := small_yard hy hsm
    go_wp2_with (first
      | (go_at_call 12; refine (awake_any _).mono ?_; rintro e wq ⟨rfl, za, rfl⟩)
      | (go_at_call 13; refine (small_any ss rs _ _ _ _ _ _ _ _ _ _ (hy.keep (by repeat (first | exact B_refl | exact Below.refl _ _ | assumption | with_reducible refine B_alloc ?_ _ | with_reducible refine B_ext ?_ _ | with_reducible refine B_drew ?_ | with_reducible refine B_drewN ?_ _ | with_reducible refine B_set ?_ (by simp; omega) _)))).mono ?_; rintro e wq ⟨rfl, zs, rfl⟩; rw [hsm]))
    generalize hW0 : World.ext (World.ext (w.alloc (.cells #[.slice A ss.length c, .slice R rs.length rc, .int .i64 c0, .int .i64 c1, .int .i64 c2] 26)) za) zs = W0
    have hB : Below w.heap.size w W0 := by rw [← hW0]; repeat (first | exact B_refl | exact Below.refl _ _ | assumption | with_reducible refine B_alloc ?_ _ | with_reducible refine B_ext ?_ _ | with_reducible refine B_drew ?_ | with_reducible refine B_drewN ?_ _ | with_reducible refine B_set ?_ (by simp; omega) _)
    have hblk : W0.heap[w.heap.size]? = some (.cells #[.slice A ss.length c, .slice R rs.length rc, .int .i64 c0, .int .i64 c1, .int .i64 c2] 26) := by rw [← hW0]; (repeat (first | with_reducible exact G_new _ _ _ (by simp) | with_reducible exact G_new _ _ _ (by simp [ext_size]) | with_reducible refine G_drew ?_ | with_reducible refine G_ext ?_ | with_reducible refine G_alloc ?_))
    have hz := blk_lt hblk
    have g0 : W0.cell? ⟨w.heap.size, 0, none⟩ = some (.slice A ss.length c) := by simp [World.cell?, hblk]
    have g1 : W0.cell? ⟨w.heap.size, 1, none⟩ = some (.slice R rs.length rc) := by simp [World.cell?, hblk]
    have g2 : W0.cell? ⟨w.heap.size, 2, none⟩ = some (.int .i64 c0) := by simp [World.cell?, hblk]
    have g3 : W0.cell? ⟨w.heap.size, 3, none⟩ = some (.int .i64 c1) := by simp [World.cell?, hblk]
    have g4 : W0.cell? ⟨w.heap.size, 4, none⟩ = some (.int .i64 c2) := by simp [World.cell?, hblk]
    clear hW0 hblk hsm hy
    go_loopw [3] (fun i wr => ∃ k : Nat, k ≤ ss.length ∧ i = .int .i64 k ∧ ∃ z, wr = W0.ext z) (fun i _ => ss.length - (intOf i).toNat)
    case atStart => exact ⟨0, Nat.zero_le _, rfl, ext_below (Below.refl _ _)⟩
    case round =>
      obtain ⟨k, hk, rfl, z, rfl⟩ := hrel
      by_cases hlt : k < ss.length ∧ k < 5
      · obtain ⟨hlt, hk5⟩ := hlt
        obtain ⟨b, off, rfl, hb, hc⟩ := (hyi.sl.keep (n := w.heap.size) hB).at hlt
        have x0 : W0.cell? ⟨b, off + k * 6, none⟩ = some (.string ss[k].name) := hc 0 _ rfl
        have x1 : W0.cell? ⟨b, off + k * 6 + 1, none⟩ = some (.int .i64 ss[k].kind) := hc 1 _ rfl
        have x2 : W0.cell? ⟨b, off + k * 6 + 2, none⟩ = some (.int .i64 ss[k].soil) := hc 2 _ rfl
        have x3 : W0.cell? ⟨b, off + k * 6 + 3, none⟩ = some (.int .i64 ss[k].depth) := hc 3 _ rfl
        have x4 : W0.cell? ⟨b, off + k * 6 + 4, none⟩ = some (.int .i64 ss[k].step) := hc 4 _ rfl
        have x5 : W0.cell? ⟨b, off + k * 6 + 5, none⟩ = some (.int .i64 ss[k].room) := hc 5 _ rfl
        have HSH := Lib.hid (hyi.sh _ (List.getElem_mem hlt))
        have hlt2 : (k : Int) < (ss.length : Int) := by omega
        have hlt5 : (k : Int) < 5 := by omega
        clear hc
        generalize ss[k] = s at *
        obtain ⟨nm, kd, so, d, st, r⟩ := s
        dsimp only at x0 x1 x2 x3 x4 x5 HSH
        go_wp2_with fail
        (refine wp_region_ext_lit (by kernel_rfl) (by kernel_rfl) ?_
         repeat (first | go_big_quiet_skip | (go_big_quiet_want; go_big_quiet_op; first | go_big_quiet_on | (apply Exists.intro; refine ⟨fun _ => ?_, ?_⟩; (first | (go_at_call 14; exact quietx (checkSite_any _ _ _ _ _ _ _ HSH.out)) | (go_at_call 15; exact quietx (rCheckSite_any' _ _ _ _ _ _ _ HSH.out))); go_big_quiet_on)))
         refine wpQuiet_nil ?_
         rintro _ ⟨zq, rfl⟩)
        go_wp2_with fail
        go_roundw
        case rel => exact ⟨k + 1, by omega, by go_num, ext_below (by repeat (first | exact B_refl | exact Below.refl _ _ | assumption | with_reducible refine B_alloc ?_ _ | with_reducible refine B_ext ?_ _ | with_reducible refine B_drew ?_ | with_reducible refine B_drewN ?_ _ | with_reducible refine B_set ?_ (by simp; omega) _))⟩
        case measure => simp [intOf]; omega
      · have hc63 : ss.length ≤ 100000 := by omega
        have hc43 : rs.length ≤ 100000 := by omega
        have hlt' : (ss.length : Int) ≤ k ∨ 5 ≤ (k : Int) := by omega
        clear hlt
        go_wp2_with fail
        all_goals try (exfalso; omega)
        all_goals
          go_region_held3 (fun w' => w'.cell? ⟨w.heap.size, 0, none⟩ = some (.slice A ss.length c) ∧ w'.cell? ⟨w.heap.size, 1, none⟩ = some (.slice R rs.length rc) ∧ w'.cell? ⟨w.heap.size, 2, none⟩ = some (.int .i64 c0) ∧ w'.cell? ⟨w.heap.size, 3, none⟩ = some (.int .i64 c1) ∧ w'.cell? ⟨w.heap.size, 4, none⟩ = some (.int .i64 c2))
            ((refine ⟨?_, ?_, ?_, ?_, ?_⟩ <;> (simp [go_sem, g0, g1, g2, g3, g4, hz]; done)))
            (first
              | (go_at_call 17; refine (copyYard_any ss rs _ _ _ _ _ _ _ _ _ _ (hyi.keep (m := w.heap.size) ?q1)).mono ?_
                 case q1 => repeat (first | exact B_refl | exact Below.refl _ _ | assumption | with_reducible refine B_alloc ?_ _ | with_reducible refine B_ext ?_ _ | with_reducible refine B_drew ?_ | with_reducible refine B_drewN ?_ _ | with_reducible refine B_set ?_ (by simp; omega) _)
                 intro e wq hq; obtain ⟨A2, k2, R2, r2, rfl, hy2, zc, rfl⟩ := hq.form hc63 hc43 hyi.sh; clear hq)
              | (go_at_call 16; refine (checkYard_any ss rs _ _ _ _ _ _ _ _ _ _ rfl rfl (hy2.sl.keep ?q1) (hy2.sr.keep ?q2) hy2.cap hc63 hc43 hyi.sh).mono ?_
                 case q1 => repeat (first | exact B_refl | exact Below.refl _ _ | assumption | with_reducible refine B_alloc ?_ _ | with_reducible refine B_ext ?_ _ | with_reducible refine B_drew ?_ | with_reducible refine B_drewN ?_ _ | with_reducible refine B_set ?_ (by simp; omega) _)
                 case q2 => repeat (first | exact B_refl | exact Below.refl _ _ | assumption | with_reducible refine B_alloc ?_ _ | with_reducible refine B_ext ?_ _ | with_reducible refine B_drew ?_ | with_reducible refine B_drewN ?_ _ | with_reducible refine B_set ?_ (by simp; omega) _)
                 rintro e wq ⟨rfl, zd, rfl⟩)
              | (go_at_call 18; refine (rCheckYard_any' ss rs _ _ _ _ _ _ _ _ _ _ (hyi.keep (m := w.heap.size) ?q1)).mono ?_
                 case q1 => repeat (first | exact B_refl | exact Below.refl _ _ | assumption | with_reducible refine B_alloc ?_ _ | with_reducible refine B_ext ?_ _ | with_reducible refine B_drew ?_ | with_reducible refine B_drewN ?_ _ | with_reducible refine B_set ?_ (by simp; omega) _)
                 rintro e wq ⟨rfl, zr, rfl⟩))
        all_goals go_wp2_with fail
        all_goals go_ret
        all_goals exact Ret.of rfl (by repeat (first | exact B_refl | exact Below.refl _ _ | assumption | with_reducible refine B_alloc ?_ _ | with_reducible refine B_ext ?_ _ | with_reducible refine B_drew ?_ | with_reducible refine B_drewN ?_ _ | with_reducible refine B_set ?_ (by simp; omega) _))
end Go.Proofs.Ytmiobhlgpjjbgaa

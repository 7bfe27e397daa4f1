/- Walk: the law GraveYards. -/
import Derived.Test.YtpohkolapgofdaaGreatDoorW1
import Derived.Test.YtpohkolapgofdaaGreatDoorC2
import Derived.Deep.RegionHeld3
namespace Go.Proofs.YtpohkolapgofdaaGreatDoor
open Go.RowKit
attribute [local go_sem] World.cell?_alloc_mark ext_size ext_cell ext_frozen lt_add_r lt_add_r2 lt_add_r3 lt_add_r4 lt_add_r5 lt_add_r6 lt_add_r7 lt_add_r8

def smallN (n m : Nat) : Bool := !((decide (5 < (n : Int)) && decide ((n : Int) ≤ 60)) || decide (63 < (n : Int)) || (decide (6 < (m : Int)) && decide ((m : Int) ≤ 40)) || decide (43 < (m : Int)))
def namesP : List Site → Bool
  | [] => true
  | s :: l => if decide (30 < (s.name.size : Int)) then false else namesP l
def smallP (ss : List Site) (rs : List Rest) : Bool := if smallN ss.length rs.length then namesP ss else false
/-- A yard that came in, of whatever size. -/
structure YardRaw (w : World) (ss : List Site) (rs : List Rest) (A : Option Addr) (n c : Nat) (R : Option Addr) (rn rc : Nat) : Prop where
  hn : n = ss.length
  hrn : rn = rs.length
  sl : Sl w 6 Site.cells A ss
  sr : Sl w 3 Rest.cells R rs
  cap : ss.length ≤ c

set_option maxRecDepth 100000 in
set_option maxHeartbeats 2000000 in
theorem small_any (ss : List Site) (rs : List Rest) (A R : Option Addr) (n c rn rc : Nat) (c0 c1 c2 : Int) (w : World) (hy : YardRaw w ss rs A n c R rn rc) :
    Calls Tryz.prog 12 #[.agg #[.slice A n c, .slice R rn rc, .int .i64 c0, .int .i64 c1, .int .i64 c2]] w (Ret w (.bool (smallP ss rs))) := by
  have h1 := hy.hn
  have h2 := hy.hrn
  subst h1 h2
  go_enter Tryz.func12, Tryz.ntmps12
  cases hsm : smallN ss.length rs.length
  · have hX : smallP ss rs = false := by rw [smallP, hsm]; rfl
    rw [hX]
    clear hX
    have H := Lib.hid hsm
    clear hsm
    go_wp2_with fail
    all_goals first
      | (go_ret; exact Ret.of rfl (by repeat (first | exact B_refl | exact Below.refl _ _ | assumption | with_reducible refine B_alloc ?_ _ | with_reducible refine B_ext ?_ _ | with_reducible refine B_drew ?_ | with_reducible refine B_drewN ?_ _ | with_reducible refine B_set ?_ (by simp; omega) _)))
      | (exfalso; have := H.out; simp [smallN] at this; omega)
  · have hX : smallP ss rs = namesP ss := by rw [smallP, hsm]; rfl
    rw [hX]
    clear hX
    have H := Lib.hid hsm
    clear hsm
    go_wp2_with fail
    all_goals first
      | (go_loop [3] (fun i => ∃ k : Nat, k ≤ ss.length ∧ i = .int .i64 k ∧ namesP ss = namesP (ss.drop k)) (fun i => ss.length - (intOf i).toNat)
         case atStart => exact ⟨0, Nat.zero_le _, rfl, rfl⟩
         case round =>
           obtain ⟨k, hk, rfl, hf⟩ := hrel
           by_cases hlt : k < ss.length
           · rw [List.drop_eq_getElem_cons hlt, namesP] at hf
             obtain ⟨b, off, rfl, hb, hc⟩ := (hy.sl.keep (n := w.heap.size) (by repeat (first | exact B_refl | exact Below.refl _ _ | assumption | with_reducible refine B_alloc ?_ _ | with_reducible refine B_ext ?_ _ | with_reducible refine B_drew ?_ | with_reducible refine B_drewN ?_ _ | with_reducible refine B_set ?_ (by simp; omega) _))).at hlt
             have x0 : w.cell? ⟨b, off + k * 6, none⟩ = some (.string ss[k].name) := hc 0 _ rfl
             have HF := Lib.hid hf
             have hlt2 : (k : Int) < (ss.length : Int) := by omega
             clear hf hc
             generalize ss[k].name = nm at *
             go_wp2_with fail
             · go_ret
               exact Ret.of (bool_eq (by rw [HF.out, if_pos (by simpa using ‹_›)])) (by repeat (first | exact B_refl | exact Below.refl _ _ | assumption | with_reducible refine B_alloc ?_ _ | with_reducible refine B_ext ?_ _ | with_reducible refine B_drew ?_ | with_reducible refine B_drewN ?_ _ | with_reducible refine B_set ?_ (by simp; omega) _))
             · go_round
               case rel => exact ⟨k + 1, by omega, by go_num, by rw [HF.out, if_neg (by simpa using ‹_›)]⟩
               case measure => simp [intOf]; omega
           · rw [List.drop_eq_nil_of_le (by omega), namesP] at hf
             have HF := Lib.hid hf
             clear hf
             go_wp2_with fail
             go_ret
             exact Ret.of (bool_eq (by rw [HF.out])) (by repeat (first | exact B_refl | exact Below.refl _ _ | assumption | with_reducible refine B_alloc ?_ _ | with_reducible refine B_ext ?_ _ | with_reducible refine B_drew ?_ | with_reducible refine B_drewN ?_ _ | with_reducible refine B_set ?_ (by simp; omega) _)))
      | (exfalso; have := H.out; simp [smallN] at this; omega)

theorem namesP_all : ∀ {ss : List Site}, namesP ss = true → ∀ s ∈ ss, s.name.size ≤ 30
  | [], _, _, h => by cases h
  | s :: l, h, x, hx => by
    unfold namesP at h
    split at h
    · cases h
    · rename_i hn
      rcases List.mem_cons.1 hx with rfl | hx
      · simp at hn; omega
      · exact namesP_all h x hx
theorem small_yard {w : World} {ss : List Site} {rs : List Rest} {A R : Option Addr} {n c rn rc : Nat} (hy : YardRaw w ss rs A n c R rn rc) (h : smallP ss rs = true) : YardIn w ss rs A n c R rn rc ∧ ss.length ≤ 63 ∧ rs.length ≤ 43 := by
  unfold smallP at h
  split at h
  · rename_i hs
    have h1 : ss.length ≤ 63 := by simp [smallN] at hs; omega
    have h2 : rs.length ≤ 43 := by simp [smallN] at hs; omega
    exact ⟨⟨hy.hn, hy.hrn, hy.sl, hy.sr, hy.cap, by omega, by omega, fun s hs => by have := namesP_all h s hs; omega⟩, h1, h2⟩
  · cases h
theorem YardRaw.keep {w W : World} {ss : List Site} {rs : List Rest} {A R : Option Addr} {n c rn rc : Nat} (h : YardRaw w ss rs A n c R rn rc) {m : Nat} (hb : Below m w W) (hm : w.heap.size ≤ m := by first | exact Nat.le_refl _ | omega) : YardRaw W ss rs A n c R rn rc :=
  ⟨h.hn, h.hrn, h.sl.keep hb hm, h.sr.keep hb hm, h.cap⟩
theorem rCheckSite_any' (nm : ByteArray) (k so d st r : Int) (w : World) (hs : nm.size ≤ 100000) :
    Calls Tryz.prog 79 #[.agg #[.string nm, .int .i64 k, .int .i64 so, .int .i64 d, .int .i64 st, .int .i64 r]] w (Ret w (.int .i64 (checkSiteP nm k so d st r))) := by
  rw [checkSite_same]; exact rCheckSite_any nm k so d st r w hs
theorem rCheckYard_any' (ss : List Site) (rs : List Rest) (A R : Option Addr) (n c rn rc : Nat) (c0 c1 c2 : Int) (w : World) (hy : YardIn w ss rs A n c R rn rc) :
    Calls Tryz.prog 52 #[.agg #[.slice A n c, .slice R rn rc, .int .i64 c0, .int .i64 c1, .int .i64 c2]] w (Ret w (.int .i64 (checkYardP ss rs c0 c1 c2))) := by
  rw [checkYard_same]; exact rCheckYard_any ss rs A R n c rn rc c0 c1 c2 w hy.hn hy.hrn hy.sl hy.sr hy.l1 hy.l2 hy.sh

end Go.Proofs.YtpohkolapgofdaaGreatDoor

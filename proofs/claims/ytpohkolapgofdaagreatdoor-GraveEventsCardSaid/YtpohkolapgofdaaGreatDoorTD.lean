/- Walks of the reference: a word as a number; an event's text. -/
import Derived.Test.YtpohkolapgofdaaGreatDoorTC
namespace Go.Proofs.YtpohkolapgofdaaGreatDoor
open Go.RowKit
attribute [local go_sem] World.cell?_alloc_mark ext_size ext_cell ext_frozen lt_add_r lt_add_r2 lt_add_r3 lt_add_r4 lt_add_r5 lt_add_r6 lt_add_r7 lt_add_r8

def atR (ws : List ByteArray) (k : Nat) : Int := numR ((ws.map bs).getD k [])
set_option maxRecDepth 100000 in
set_option maxHeartbeats 2000000 in
theorem rAt_any (ws : List ByteArray) (A : Option Addr) (c k : Nat) (w : World) (hS : Sl w 1 strCells A ws) (hl : ws.length ≤ 100001) (hsz : ∀ x ∈ ws, x.size ≤ 100000) (hk : k ≤ 10) :
    Calls Tryz.prog 33 #[.slice A ws.length c, .int .i64 k] w (Ret w (.int .i64 (atR ws k))) := by
  have HSZ := Lib.hid hsz
  clear hsz
  go_enter Tryz.func33, Tryz.ntmps33
  by_cases hlt : k < ws.length
  · obtain ⟨b, off, rfl, hb, hc0⟩ := hS.at hlt
    have hlt2 : (k : Int) < (ws.length : Int) := by omega
    have hk0 : (0 : Int) ≤ (k : Int) := by omega
    have x0 : w.cell? ⟨b, off + k, none⟩ = some (.string ws[k]) := by simpa using hc0 0 _ rfl
    have hx : ws[k].size ≤ 100000 := HSZ.out _ (List.getElem_mem hlt)
    have hA : atR ws k = numR (bs ws[k]) := by
      unfold atR
      rw [List.getD_eq_getElem?_getD, List.getElem?_map, List.getElem?_eq_getElem hlt]
      rfl
    rw [hA]
    clear hA hc0
    generalize ws[k] = x at *
    go_wp2_with (go_at_call 64; refine (number_any _ _ hx).mono ?_; rintro e wq ⟨rfl, z1, rfl⟩)
    go_ret
    exact Ret.of rfl (by repeat (first | exact B_refl | exact Below.refl _ _ | assumption | with_reducible refine B_alloc ?_ _ | with_reducible refine B_ext ?_ _ | with_reducible refine B_drew ?_ | with_reducible refine B_drewN ?_ _ | with_reducible refine B_set ?_ (by simp; omega) _))
  · have hA : atR ws k = 0 := by
      unfold atR
      rw [List.getD_eq_getElem?_getD, List.getElem?_eq_none (by rw [List.length_map]; omega)]
      rfl
    rw [hA]
    have hlt2 : ¬ (k : Int) < (ws.length : Int) := by omega
    clear hA
    go_wp2_with fail
    go_ret
    exact Ret.of rfl (by repeat (first | exact B_refl | exact Below.refl _ _ | assumption | with_reducible refine B_alloc ?_ _ | with_reducible refine B_ext ?_ _ | with_reducible refine B_drew ?_ | with_reducible refine B_drewN ?_ _ | with_reducible refine B_set ?_ (by simp; omega) _))
end Go.Proofs.YtpohkolapgofdaaGreatDoor

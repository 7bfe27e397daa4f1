/- Walk of the program: a number is read. -/
/- Walk of the program: a word of a text read as a number. -/
import Derived.Test.YtpohkolapgofdaaGreatDoorTK
import Derived.Lib.AtoiAllCases
namespace Go.Proofs.YtpohkolapgofdaaGreatDoor
open Go.RowKit
attribute [local go_sem] World.cell?_alloc_mark ext_size ext_cell ext_frozen lt_add_r lt_add_r2 lt_add_r3 lt_add_r4 lt_add_r5 lt_add_r6 lt_add_r7 lt_add_r8

def NumPost (w : World) (n : Int) (e : Ending) (w' : World) : Prop := ∃ b, e = .returned (.tuple #[.int .i64 n, .bool b]) ∧ ∃ z, w' = w.ext z
theorem bytes_below (w : World) (e : TypeId) (s : ByteArray) : Below w.heap.size w (Lib.bytesWorld w e s) :=
  ⟨rfl, rfl, rfl, by rw [Lib.bytesWorld_size]; omega, fun j hj => Lib.bytesWorld_at_old w e s j hj⟩
theorem numP_of {s : ByteArray} : numP (bs s) = match Lib.atoiAll s.data.toList with | .ok v => v | .range => Lib.atoiSat s.data.toList | _ => 0 := rfl
set_option maxRecDepth 100000 in
set_option maxHeartbeats 2000000 in
theorem pnumber_any (s : ByteArray) (w : World) (hL : Laid w) (hs : s.size ≤ 1000) : Calls Tryz.prog 63 #[.string s] w (NumPost w (numP (bs s))) := by
  cases hc : Lib.atoiAll s.data.toList with
  | ok v =>
    have hn : numP (bs s) = v := by rw [numP_of, hc]
    rw [hn]
    have hb := Lib.atoiAll_bounds hc
    go_enter Tryz.func63, Tryz.ntmps63
    cases hq : ((toB (Lib.itoa v)).toList == s.toList)
    · go_wp2_with (first | (go_at_call 89; refine (Tryz.strconv_Atoi_ok s (by omega) v hc _).mono ?_; rintro e wq ⟨rfl, hw⟩; obtain ⟨z1, rfl⟩ : ∃ z, wq = w.ext z := ext_below (by rcases hw with rfl | ⟨t, rfl⟩ <;> first | exact Below.refl _ _ | exact bytes_below _ _ _)) | (go_at_call 34; refine (pdecimal_any v _ (hL.keep (n := w.heap.size) (by repeat (first | exact B_refl | exact Below.refl _ _ | assumption | with_reducible refine B_alloc ?_ _ | with_reducible refine B_ext ?_ _ | with_reducible refine B_drew ?_ | with_reducible refine B_drewN ?_ _ | with_reducible refine B_set ?_ (by simp; omega) _))) hb.1 hb.2).mono ?_; rintro e wq ⟨rfl, z2, rfl⟩) | (go_at_call 90; refine (Tryz.strings_TrimPrefix _ _ _).mono ?_; rintro e wq ⟨rfl, rfl⟩))
      go_ret2
      exact ⟨_, rfl, ext_below (by repeat (first | exact B_refl | exact Below.refl _ _ | assumption | with_reducible refine B_alloc ?_ _ | with_reducible refine B_ext ?_ _ | with_reducible refine B_drew ?_ | with_reducible refine B_drewN ?_ _ | with_reducible refine B_set ?_ (by simp; omega) _))⟩
    · go_wp2_with (first | (go_at_call 89; refine (Tryz.strconv_Atoi_ok s (by omega) v hc _).mono ?_; rintro e wq ⟨rfl, hw⟩; obtain ⟨z1, rfl⟩ : ∃ z, wq = w.ext z := ext_below (by rcases hw with rfl | ⟨t, rfl⟩ <;> first | exact Below.refl _ _ | exact bytes_below _ _ _)) | (go_at_call 34; refine (pdecimal_any v _ (hL.keep (n := w.heap.size) (by repeat (first | exact B_refl | exact Below.refl _ _ | assumption | with_reducible refine B_alloc ?_ _ | with_reducible refine B_ext ?_ _ | with_reducible refine B_drew ?_ | with_reducible refine B_drewN ?_ _ | with_reducible refine B_set ?_ (by simp; omega) _))) hb.1 hb.2).mono ?_; rintro e wq ⟨rfl, z2, rfl⟩) | (go_at_call 90; refine (Tryz.strings_TrimPrefix _ _ _).mono ?_; rintro e wq ⟨rfl, rfl⟩))
      go_ret2
      exact ⟨_, rfl, ext_below (by repeat (first | exact B_refl | exact Below.refl _ _ | assumption | with_reducible refine B_alloc ?_ _ | with_reducible refine B_ext ?_ _ | with_reducible refine B_drew ?_ | with_reducible refine B_drewN ?_ _ | with_reducible refine B_set ?_ (by simp; omega) _))⟩
  | range =>
    have hn : numP (bs s) = Lib.atoiSat s.data.toList := by rw [numP_of, hc]
    rw [hn]
    obtain ⟨ev, he, hv⟩ := hL.rng
    go_enter Tryz.func63, Tryz.ntmps63
    go_wp2_with (go_at_call 89; refine (Tryz.strconv_Atoi_range s (by omega) hc ev _ he hv).mono ?_; rintro e wq ⟨N, rfl, -, -, hB⟩; obtain ⟨z1, rfl⟩ : ∃ z, wq = w.ext z := ext_below hB; clear hB)
    go_ret2
    exact ⟨_, rfl, ext_below (by repeat (first | exact B_refl | exact Below.refl _ _ | assumption | with_reducible refine B_alloc ?_ _ | with_reducible refine B_ext ?_ _ | with_reducible refine B_drew ?_ | with_reducible refine B_drewN ?_ _ | with_reducible refine B_set ?_ (by simp; omega) _))⟩
  | _ =>
    have hn : numP (bs s) = 0 := by rw [numP_of, hc]
    rw [hn]
    obtain ⟨ev, he, hv⟩ := hL.syn
    go_enter Tryz.func63, Tryz.ntmps63
    go_wp2_with (go_at_call 89; refine (Tryz.strconv_Atoi_bad s (by omega) (by rw [hc]; intro v e; cases e) (by rw [hc]; intro e; cases e) ev _ he hv).mono ?_; rintro e wq ⟨N, rfl, -, -, hB⟩; obtain ⟨z1, rfl⟩ : ∃ z, wq = w.ext z := ext_below hB; clear hB)
    go_ret2
    exact ⟨_, rfl, ext_below (by repeat (first | exact B_refl | exact Below.refl _ _ | assumption | with_reducible refine B_alloc ?_ _ | with_reducible refine B_ext ?_ _ | with_reducible refine B_drew ?_ | with_reducible refine B_drewN ?_ _ | with_reducible refine B_set ?_ (by simp; omega) _))⟩
end Go.Proofs.YtpohkolapgofdaaGreatDoor
namespace Go.Proofs.YtpohkolapgofdaaGreatDoor
open Go.RowKit
attribute [local go_sem] World.cell?_alloc_mark ext_size ext_cell ext_frozen lt_add_r lt_add_r2 lt_add_r3 lt_add_r4 lt_add_r5 lt_add_r6 lt_add_r7 lt_add_r8

theorem wordAt_bs (ws : List ByteArray) (k : Nat) : bs (wordAt ws k) = (ws.map bs).getD k [] := by
  unfold wordAt
  rw [List.getD_eq_getElem?_getD, List.getD_eq_getElem?_getD, List.getElem?_map]
  cases ws[k]? <;> rfl
set_option maxRecDepth 100000 in
set_option maxHeartbeats 2000000 in
theorem numeral_any (ws : List ByteArray) (A : Option Addr) (c k b pb : Nat) (w : World) (hL : Laid w) (hS : Sl w 1 strCells A ws) (hl : ws.length ≤ 100001) (hsz : ∀ x ∈ ws, x.size ≤ 1000) (hk : k ≤ 10) (hb : w.cell? ⟨b, 0, none⟩ = some (.slice A ws.length c))
    (hpb : w.cell? ⟨pb, 0, none⟩ = some (.func (.func 61) #[] #[.pointer (some ⟨b, 0, none⟩)])) :
    Calls Tryz.prog 62 #[.int .i64 k, .pointer (some ⟨pb, 0, none⟩)] w (Ret w (.int .i64 (numP (bs (wordAt ws k))))) := by
  have hx : (wordAt ws k).size ≤ 1000 := by
    unfold wordAt
    rw [List.getD_eq_getElem?_getD]
    cases hq : ws[k]? with
    | none => decide
    | some x => exact hsz x (List.mem_of_getElem? hq)
  have HSZ := Lib.hid hsz
  clear hsz
  go_enter Tryz.func62, Tryz.ntmps62
  go_wp2_with (first
    | (go_at_call 61; refine (word_any ws A c k b _ hS hl hk hb).mono ?_; rintro e wq ⟨rfl, z1, rfl⟩)
    | (go_at_call 63; refine (pnumber_any _ _ (hL.keep (n := w.heap.size) (by repeat (first | exact B_refl | exact Below.refl _ _ | assumption | with_reducible refine B_alloc ?_ _ | with_reducible refine B_ext ?_ _ | with_reducible refine B_drew ?_ | with_reducible refine B_drewN ?_ _ | with_reducible refine B_set ?_ (by simp; omega) _))) hx).mono ?_; rintro e wq ⟨bo, rfl, z2, rfl⟩))
  go_ret
  exact Ret.of rfl (by repeat (first | exact B_refl | exact Below.refl _ _ | assumption | with_reducible refine B_alloc ?_ _ | with_reducible refine B_ext ?_ _ | with_reducible refine B_drew ?_ | with_reducible refine B_drewN ?_ _ | with_reducible refine B_set ?_ (by simp; omega) _))
end Go.Proofs.YtpohkolapgofdaaGreatDoor

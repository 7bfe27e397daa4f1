/- Walk: how many burials are left at a site. -/
import Derived.Test.YtpohkolapgofdaaGreatF9
namespace Go.Proofs.YtpohkolapgofdaaGreat
open Go.RowKit Go.Shelf
attribute [local go_sem] World.cell?_alloc_mark ext_size ext_cell ext_frozen lt_add_r lt_add_r2 lt_add_r3 lt_add_r4 lt_add_r5 lt_add_r6 lt_add_r7 lt_add_r8
attribute [local go_sem] Oper.semAt_some

def leftR (p : Bk × Int) (ss : List Site) (nm : ByteArray) (co : Int) : Int × Int :=
  if wsErr p ss nm != 0 then (0, wsErr p ss nm) else if !inR co 0 2 then (0, 2) else
  match findSite nm ss with
  | none => (0, 0)
  | some s => if s.kind == 3 then (0, 15) else ((freeTo p.1 ss nm co s.room.toNat).length, 0)
theorem wsErr_some {p : Bk × Int} {ss : List Site} {nm : ByteArray} (h : (wsErr p ss nm != 0) = false) : ∃ s, findSite nm ss = some s := by
  unfold wsErr at h
  cases hf : findSite nm ss with
  | some s => exact ⟨s, rfl⟩
  | none =>
    rw [hf] at h
    exfalso
    split at h
    · rename_i h1
      rw [h1] at h
      cases h
    · simp at h

theorem wsErr_zero {p : Bk × Int} {ss : List Site} {nm : ByteArray} (h : (wsErr p ss nm != 0) = false) : p.2 = 0 := by
  unfold wsErr at h
  split at h
  · rename_i h1
    rw [h1] at h
    cases h
  · rename_i h1
    simpa using h1
theorem readP_rooms {ss : List Site} {rs : List Rest} {A R : Option Addr} {n c rn rc : Nat} {c0 c1 c2 : Int} {es : List Event} (h : (readP ss rs (bk0 A n c R rn rc c0 c1 c2) es).2 = 0) : ∀ s ∈ ss, 1 ≤ s.room ∧ s.room ≤ 12 := by
  have hc : checkYardP ss rs c0 c1 c2 = 0 := by
    unfold readP at h
    split at h
    · exact h
    · rename_i h1
      simpa [bk0] using h1
  intro s hs
  have := checkSite_room (yard_room hc s hs)
  omega

end Go.Proofs.YtpohkolapgofdaaGreat

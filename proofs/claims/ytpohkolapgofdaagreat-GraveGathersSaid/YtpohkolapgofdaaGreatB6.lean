/- Walks: the day on which a remain's rest is over; where a remain is. -/
import Derived.Test.YtpohkolapgofdaaGreatB5
namespace Go.Proofs.YtpohkolapgofdaaGreat
open Go.RowKit
attribute [local go_sem] World.cell?_alloc_mark ext_size ext_cell ext_frozen lt_add_r lt_add_r2 lt_add_r3 lt_add_r4 lt_add_r5 lt_add_r6 lt_add_r7 lt_add_r8
attribute [local go_sem] ext_setCell alloc_setCell_lt
theorem B_refl {W : World} : Below W.heap.size W W := Below.refl _ _

def restOfP (k : Bk) (ss : List Site) (rs : List Rest) (nm : ByteArray) : Int × Int :=
  match lotK k nm with
  | none => (0, 6)
  | some l => if l.state != 1 then (0, 28) else match findSite l.site ss with | none => (0, 0) | some s => (restOverP rs s l, 0)
def restOverR (ss : List Site) (rs : List Rest) (p : Bk × Int) (nm : ByteArray) : Int × Int := if p.2 != 0 then (0, p.2) else restOfP p.1 ss rs nm
def ret2 (p : Int × Int) : Value := .tuple #[.int .i64 p.1, .int .i64 p.2]

set_option maxRecDepth 100000 in
set_option maxHeartbeats 2000000 in
theorem gRestOver_any (ss : List Site) (rs : List Rest) (A R : Option Addr) (n c rn rc : Nat) (c0 c1 c2 : Int) (es : List Event) (L : Option Addr) (ln lc : Nat) (nm : ByteArray) (w : World) (hy : YardIn w ss rs A n c R rn rc) (hev : EventsIn w es L ln) :
    Calls Tryz.prog 21 #[.agg #[.slice A n c, .slice R rn rc, .int .i64 c0, .int .i64 c1, .int .i64 c2], .slice L ln lc, .string nm] w (Ret w (ret2 (restOverR ss rs (readP ss rs (bk0 A n c R rn rc c0 c1 c2) es) nm))) := by
  have HR := fun W h1 h2 => read_any ss rs A R n c rn rc c0 c1 c2 es L ln lc W h1 h2
  generalize (readP ss rs (bk0 A n c R rn rc c0 c1 c2) es) = p at *
  obtain ⟨k, er⟩ := p
  go_enter Tryz.func21, Tryz.ntmps21
  cases hq : (er != 0)
  · have HQ := Lib.hid hq
    clear hq
    have hX : restOverR ss rs (k, er) nm = restOfP k ss rs nm := by rw [restOverR, if_neg (by rw [HQ.out]; exact Bool.false_ne_true)]
    rw [hX]
    clear hX
    cases hl : lotK k nm with
    | none =>
      have hY : restOfP k ss rs nm = (0, 6) := by rw [restOfP, hl]
      rw [hY]
      clear hY
      go_wp2_with (first | (go_at_call 46; refine (HR _ (hy.keep (by repeat (first | exact B_refl | exact Below.refl _ _ | assumption | with_reducible refine B_alloc ?_ _ | with_reducible refine B_ext ?_ _ | with_reducible refine B_drew ?_ | with_reducible refine B_drewN ?_ _ | with_reducible refine B_set ?_ (by simp; omega) _))) (hev.keep (by repeat (first | exact B_refl | exact Below.refl _ _ | assumption | with_reducible refine B_alloc ?_ _ | with_reducible refine B_ext ?_ _ | with_reducible refine B_drew ?_ | with_reducible refine B_drewN ?_ _ | with_reducible refine B_set ?_ (by simp; omega) _)))).mono ?_; intro e wq hpq; obtain ⟨base, bb, rfl, hbs, henv, zq, rfl⟩ := hpq.ok HQ.out; clear hpq) | (go_at_call 36; refine (lot_any base bb k ss rs _ _ (henv.keep (by repeat (first | exact B_refl | exact Below.refl _ _ | assumption | with_reducible refine B_alloc ?_ _ | with_reducible refine B_ext ?_ _ | with_reducible refine B_drew ?_ | with_reducible refine B_drewN ?_ _ | with_reducible refine B_set ?_ (by simp; omega) _)))).mono ?_; rintro e wq ⟨rfl, zq2, rfl⟩; rw [hl]; unfold retLot Lot.v))
      go_ret2
      exact Ret.of rfl (by repeat (first | exact B_refl | exact Below.refl _ _ | assumption | with_reducible refine B_alloc ?_ _ | with_reducible refine B_ext ?_ _ | with_reducible refine B_drew ?_ | with_reducible refine B_drewN ?_ _ | with_reducible refine B_set ?_ (by simp; omega) _))
    | some l =>
      obtain ⟨rm, sta, si, lv, co, sc⟩ := l
      cases hs : (sta != 1)
      · have hs2 : sta = 1 := by simpa using hs
        have hY : Hid (∀ s, findSite si ss = some s → restOfP k ss rs nm = (restOverP rs s ⟨rm, sta, si, lv, co, sc⟩, 0)) := fun s hfs => by
          unfold restOfP
          rw [hl]
          dsimp only
          rw [hs, if_neg Bool.false_ne_true, hfs]
        have HS := Lib.hid hs2
        clear hs2
        generalize restOfP k ss rs nm = r at *
        go_wp2_with (first
          | (go_at_call 46; refine (HR _ (hy.keep (by repeat (first | exact B_refl | exact Below.refl _ _ | assumption | with_reducible refine B_alloc ?_ _ | with_reducible refine B_ext ?_ _ | with_reducible refine B_drew ?_ | with_reducible refine B_drewN ?_ _ | with_reducible refine B_set ?_ (by simp; omega) _))) (hev.keep (by repeat (first | exact B_refl | exact Below.refl _ _ | assumption | with_reducible refine B_alloc ?_ _ | with_reducible refine B_ext ?_ _ | with_reducible refine B_drew ?_ | with_reducible refine B_drewN ?_ _ | with_reducible refine B_set ?_ (by simp; omega) _)))).mono ?_; intro e wq hpq; obtain ⟨base, bb, rfl, hbs, henv, zq, rfl⟩ := hpq.ok HQ.out; clear hpq; obtain ⟨s, hfs⟩ := (henv.lies _ _ hl HS.out).1; have HFS := Lib.hid hfs; clear hfs)
          | (go_at_call 36; refine (lot_any base bb k ss rs _ _ (henv.keep (by repeat (first | exact B_refl | exact Below.refl _ _ | assumption | with_reducible refine B_alloc ?_ _ | with_reducible refine B_ext ?_ _ | with_reducible refine B_drew ?_ | with_reducible refine B_drewN ?_ _ | with_reducible refine B_set ?_ (by simp; omega) _)))).mono ?_; rintro e wq ⟨rfl, zq2, rfl⟩; rw [hl]; unfold retLot Lot.v)
          | (go_at_call 47; refine (restOver_any base bb k ss rs _ _ _ _ _ _ s _ (henv.keep (by repeat (first | exact B_refl | exact Below.refl _ _ | assumption | with_reducible refine B_alloc ?_ _ | with_reducible refine B_ext ?_ _ | with_reducible refine B_drew ?_ | with_reducible refine B_drewN ?_ _ | with_reducible refine B_set ?_ (by simp; omega) _))) HFS.out).mono ?_; rintro e wq ⟨rfl, zq, rfl⟩))
        go_ret2
        exact Ret.of (by rw [hY.out s HFS.out]; rfl) (by repeat (first | exact B_refl | exact Below.refl _ _ | assumption | with_reducible refine B_alloc ?_ _ | with_reducible refine B_ext ?_ _ | with_reducible refine B_drew ?_ | with_reducible refine B_drewN ?_ _ | with_reducible refine B_set ?_ (by simp; omega) _))
      · have hY : restOfP k ss rs nm = (0, 28) := by
          unfold restOfP
          rw [hl]
          dsimp only
          rw [hs, if_pos rfl]
        rw [hY]
        clear hY
        go_wp2_with (first | (go_at_call 46; refine (HR _ (hy.keep (by repeat (first | exact B_refl | exact Below.refl _ _ | assumption | with_reducible refine B_alloc ?_ _ | with_reducible refine B_ext ?_ _ | with_reducible refine B_drew ?_ | with_reducible refine B_drewN ?_ _ | with_reducible refine B_set ?_ (by simp; omega) _))) (hev.keep (by repeat (first | exact B_refl | exact Below.refl _ _ | assumption | with_reducible refine B_alloc ?_ _ | with_reducible refine B_ext ?_ _ | with_reducible refine B_drew ?_ | with_reducible refine B_drewN ?_ _ | with_reducible refine B_set ?_ (by simp; omega) _)))).mono ?_; intro e wq hpq; obtain ⟨base, bb, rfl, hbs, henv, zq, rfl⟩ := hpq.ok HQ.out; clear hpq) | (go_at_call 36; refine (lot_any base bb k ss rs _ _ (henv.keep (by repeat (first | exact B_refl | exact Below.refl _ _ | assumption | with_reducible refine B_alloc ?_ _ | with_reducible refine B_ext ?_ _ | with_reducible refine B_drew ?_ | with_reducible refine B_drewN ?_ _ | with_reducible refine B_set ?_ (by simp; omega) _)))).mono ?_; rintro e wq ⟨rfl, zq2, rfl⟩; rw [hl]; unfold retLot Lot.v))
        go_ret2
        exact Ret.of rfl (by repeat (first | exact B_refl | exact Below.refl _ _ | assumption | with_reducible refine B_alloc ?_ _ | with_reducible refine B_ext ?_ _ | with_reducible refine B_drew ?_ | with_reducible refine B_drewN ?_ _ | with_reducible refine B_set ?_ (by simp; omega) _))
  · have HQ := Lib.hid hq
    have hX : restOverR ss rs (k, er) nm = (0, er) := by rw [restOverR, if_pos HQ.out]
    rw [hX]
    clear hX
    go_wp2_with (go_at_call 46; refine (HR _ (hy.keep (by repeat (first | exact B_refl | exact Below.refl _ _ | assumption | with_reducible refine B_alloc ?_ _ | with_reducible refine B_ext ?_ _ | with_reducible refine B_drew ?_ | with_reducible refine B_drewN ?_ _ | with_reducible refine B_set ?_ (by simp; omega) _))) (hev.keep (by repeat (first | exact B_refl | exact Below.refl _ _ | assumption | with_reducible refine B_alloc ?_ _ | with_reducible refine B_ext ?_ _ | with_reducible refine B_drew ?_ | with_reducible refine B_drewN ?_ _ | with_reducible refine B_set ?_ (by simp; omega) _)))).mono ?_; intro e wq hpq; obtain ⟨rfl, zq, rfl⟩ := hpq.bad HQ.out; clear hpq)
    go_ret2
    exact Ret.of rfl (by repeat (first | exact B_refl | exact Below.refl _ _ | assumption | with_reducible refine B_alloc ?_ _ | with_reducible refine B_ext ?_ _ | with_reducible refine B_drew ?_ | with_reducible refine B_drewN ?_ _ | with_reducible refine B_set ?_ (by simp; omega) _))
end Go.Proofs.YtpohkolapgofdaaGreat

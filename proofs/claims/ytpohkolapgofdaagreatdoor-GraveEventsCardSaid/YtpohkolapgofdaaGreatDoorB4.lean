/- Walk: an event is added to the book. -/
import Derived.Test.YtpohkolapgofdaaGreatDoorB3
import Derived.Test.YtpohkolapgofdaaGreatDoorK3
import Derived.Deep.RegionLaw
namespace Go.Proofs.YtpohkolapgofdaaGreatDoor
open Go.RowKit
attribute [local go_sem] World.cell?_alloc_mark ext_size ext_cell ext_frozen lt_add_r lt_add_r2 lt_add_r3 lt_add_r4 lt_add_r5 lt_add_r6 lt_add_r7 lt_add_r8
attribute [local go_sem] ext_setCell alloc_setCell_lt

/-- The stays behind an event that closes the stay i. -/
def closeAt (i : Option Int) (day : Int) (st : List Stay) : List Stay := match i with | none => st | some i => st.modify i.toNat fun s => { s with till := day }
def addK (k : Bk) (e : Event) (l : Lot) : Bk :=
  { k with st := closeAt (mget eqS e.remain k.m) e.day k.st ++ [⟨l, -1⟩], m := mput eqS e.remain (k.st.length : Int) k.m, day := e.day }
def AddPost (w : World) (base bb : Nat) (k : Bk) (p : Lot × Int) (ev : Event) (e : Ending) (w' : World) : Prop :=
  (p.2 ≠ 0 ∧ Ret w (.int .i64 p.2) e w') ∨ (p.2 = 0 ∧ e = .returned (.int .i64 0) ∧ BookAt w' base bb (addK k ev p.1) ∧ Below base w w')

theorem und_stays : Tryz.prog.underlying 139 = some (.slice 144) := by kernel_rfl
theorem info_stay : (Tryz.prog.info? 144).map (fun i => (i.zero, i.size, i.bytes)) = some (some (.agg #[.string ⟨#[]⟩, .int .i64 0, .string ⟨#[]⟩, .int .i64 0, .int .i64 0, .int .i64 0, .int .i64 0]), 7, 72) := by kernel_rfl
theorem wpList_putSI {P : Program} {ops : Array Oper} {rest : List Oper} {o : Oper} {a : Act} {Q : Exit → Act → World → Prop} {w : World} {b : Nat} {m : List (ByteArray × Int)} {k : ByteArray} {n : Int} (hg : o.guard = none) (x i u : Operand)
    (ho : o.op = .mapUpdate 140 x i u) (hx : a.eval x = .map (some b)) (hi : a.eval i = ekS k) (hu : a.eval u = evI n) (hm : MapAt w b ekS evI m)
    (hP : P = Tryz.prog := by rfl)
    (hK : ∀ w', MapAt w' b ekS evI (mput eqS k n m) → w.grownBy w' (some b) → (∀ p : Addr, p.block < w.heap.size → p.block ≠ b → w'.cell? p = w.cell? p) → wpList P ops Q rest (a.put o.dst undef) w') : wpList P ops Q (o :: rest) a w := by
  subst hP
  obtain ⟨w', h1, h2, h3⟩ := run_update mapSI hm k n
  exact wpList_update_run hg x i u ho _ _ _ hx hi hu w' h1 (hK w' h2 h3 fun p h4 h5 => h3.cell_far p h4 (by simpa using h5))


set_option maxRecDepth 100000 in
set_option maxHeartbeats 2000000 in
theorem add_any (base bb : Nat) (k : Bk) (ss : List Site) (rs : List Rest) (dy kd : Int) (si : ByteArray) (l : Int) (rm : ByteArray) (c : Int) (o : Bool) (w : World) (he : Env w base bb k ss rs) (hs : si.size ≤ 100000) (hr : rm.size ≤ 100000) :
    Calls Tryz.prog 58 #[.pointer (some ⟨bb, 0, none⟩), .agg #[.int .i64 dy, .int .i64 kd, .string si, .int .i64 l, .string rm, .int .i64 c, .bool o]] w (AddPost w base bb k (errorP k ss rs ⟨dy, kd, si, l, rm, c, o⟩) ⟨dy, kd, si, l, rm, c, o⟩) := by
  have HS := Lib.hid hs
  have HR := Lib.hid hr
  clear hs hr
  have HE := fun W (hW : Env W base bb k ss rs) => error_any base bb k ss rs dy kd si l rm c o W hW HS.out HR.out
  obtain ⟨v, bm, hblk, hown, hm, hbb, hbm⟩ := he.bk
  obtain ⟨A, cc, rfl, hS, hcap⟩ := own_sl stay_len hown
  have hlt : bb < w.heap.size := (Array.getElem?_eq_some_iff.1 hblk).1
  have g5 : w.cell? ⟨bb, 5, none⟩ = some (.slice A k.st.length cc) := by simp [World.cell?, hblk]
  have g7 : w.cell? ⟨bb, 7, none⟩ = some (.int .i64 k.day) := by simp [World.cell?, hblk]
  have g6 : w.cell? ⟨bb, 6, none⟩ = some (.map (some bm)) := by simp [World.cell?, hblk]
  have hl3 := he.l3
  have hgood := he.good rm
  generalize errorP k ss rs ⟨dy, kd, si, l, rm, c, o⟩ = p at *
  obtain ⟨⟨orm, ost, osi, olv, oco, osc⟩, er⟩ := p
  go_enter Tryz.func58, Tryz.ntmps58
  by_cases h0 : er = 0
  · subst h0
    have hlk : ∀ o z o' z', (Instr.lookup 140 (.map (some bm)) (.string rm) true).run Tryz.prog ((((w.alloc o).ext z).alloc o').ext z') = .ok (.tuple #[.int .i64 ((mget eqS rm k.m).getD 0), .bool (mget eqS rm k.m).isSome]) ((((w.alloc o).ext z).alloc o').ext z') := fun o z o' z' => run_lookup_ok mapSI ((((hm.alloc o).ext z).alloc o').ext z') rm
    cases hq : mget eqS rm k.m with
    | none =>
      simp only [hq] at hlk
      go_wp2_with (go_at_call 85; refine (HE _ (he.keep (by repeat (first | exact Below.refl _ _ | exact Below.refl (World.heap _).size _ | assumption | refine B_alloc ?_ _ | refine B_ext ?_ _ | refine B_drew ?_ | refine B_drewN ?_ _ | refine B_set ?_ (by simp; omega) _)))).mono ?_; rintro e wq ⟨rfl, z1, rfl⟩; unfold retErr Lot.v)
      (refine wp_region_ext_lit (by kernel_rfl) (by kernel_rfl) ?_
       repeat (first | go_big_quiet_skip | (go_big_quiet_want; go_big_quiet_op; first | go_big_quiet_on | (apply Exists.intro; refine ⟨fun _ => ?_, ?_⟩; (fail); go_big_quiet_on)))
       refine wpQuiet_nil ?_
       rintro _ ⟨zq, rfl⟩)
      go_wp2_with fail
      generalize hW0 : World.ext (((w.alloc (.cells #[.int .i64 dy, .int .i64 kd, .string si, .int .i64 l, .string rm, .int .i64 c, .bool o] 23)).ext z1).alloc (.cells #[.string orm, .int .i64 ost, .string osi, .int .i64 olv, .int .i64 oco, .int .i64 osc] 107)) zq = W0
      have hB0 : Below base w W0 := by rw [← hW0]; exact (Below.mono (by repeat (first | exact Below.refl _ _ | exact Below.refl (World.heap _).size _ | assumption | refine B_alloc ?_ _ | refine B_ext ?_ _ | refine B_drew ?_ | refine B_drewN ?_ _ | refine B_set ?_ (by simp; omega) _) : Below w.heap.size w _) (by omega))
      have hbB : Below w.heap.size w W0 := by rw [← hW0]; repeat (first | exact Below.refl _ _ | exact Below.refl (World.heap _).size _ | assumption | refine B_alloc ?_ _ | refine B_ext ?_ _ | refine B_drew ?_ | refine B_drewN ?_ _ | refine B_set ?_ (by simp; omega) _)
      have heB : Below (w.alloc (.cells #[.int .i64 dy, .int .i64 kd, .string si, .int .i64 l, .string rm, .int .i64 c, .bool o] 23)).heap.size (w.alloc (.cells #[.int .i64 dy, .int .i64 kd, .string si, .int .i64 l, .string rm, .int .i64 c, .bool o] 23)) W0 := by rw [← hW0]; repeat (first | exact Below.refl _ _ | exact Below.refl (World.heap _).size _ | assumption | refine B_alloc ?_ _ | refine B_ext ?_ _ | refine B_drew ?_ | refine B_drewN ?_ _ | refine B_set ?_ (by simp; omega) _)
      have hlB : Below ((((w.alloc (.cells #[.int .i64 dy, .int .i64 kd, .string si, .int .i64 l, .string rm, .int .i64 c, .bool o] 23)).ext z1).alloc (.cells #[.string orm, .int .i64 ost, .string osi, .int .i64 olv, .int .i64 oco, .int .i64 osc] 107))).heap.size (((w.alloc (.cells #[.int .i64 dy, .int .i64 kd, .string si, .int .i64 l, .string rm, .int .i64 c, .bool o] 23)).ext z1).alloc (.cells #[.string orm, .int .i64 ost, .string osi, .int .i64 olv, .int .i64 oco, .int .i64 osc] 107)) W0 := by rw [← hW0]; repeat (first | exact Below.refl _ _ | exact Below.refl (World.heap _).size _ | assumption | refine B_alloc ?_ _ | refine B_ext ?_ _ | refine B_drew ?_ | refine B_drewN ?_ _ | refine B_set ?_ (by simp; omega) _)
      have hb0 := (hbB.block bb hlt).trans hblk
      have he0 := (heB.block w.heap.size (by simp)).trans (heap_alloc_new w _)
      have hl0 := (hlB.block _ (by simp)).trans (heap_alloc_new _ _)
      have hm0 : MapAt W0 bm ekS evI k.m := hm.keep (hbB.block bm hm.lt)
      have hown0 := own_keep hown hbB
      have hL5 : ((w.alloc (.cells #[.int .i64 dy, .int .i64 kd, .string si, .int .i64 l, .string rm, .int .i64 c, .bool o] 23)).ext z1).heap.size = w.heap.size + 1 + z1.os.size := by simp [ext_size]
      rw [hL5] at hl0
      generalize w.heap.size + 1 + z1.os.size = L5 at *
      clear hbB heB hlB hL5 hW0
      have HK : Hid ({ k with st := k.st ++ [⟨⟨orm, ost, osi, olv, oco, osc⟩, -1⟩], m := mput eqS rm (k.st.length : Int) k.m, day := dy } = addK k ⟨dy, kd, si, l, rm, c, o⟩ ⟨orm, ost, osi, olv, oco, osc⟩) := by
        show _ = _
        rw [addK, hq]; rfl
      obtain ⟨st0, hs0⟩ : ∃ st0, st0 = k.st := ⟨_, rfl⟩
      have hst : st0.length = k.st.length := by rw [hs0]
      rw [show (k.st.flatMap Stay.cells) = st0.flatMap Stay.cells by rw [hs0]] at hown0
      rw [show k.st ++ [(⟨⟨orm, ost, osi, olv, oco, osc⟩, -1⟩ : Stay)] = st0 ++ [⟨⟨orm, ost, osi, olv, oco, osc⟩, -1⟩] by rw [hs0]] at HK
      clear hs0 hlk hgood
      have c5 : W0.cell? ⟨bb, 5, none⟩ = some (.slice A k.st.length cc) := by simp [World.cell?, hb0]
      have c6 : W0.cell? ⟨bb, 6, none⟩ = some (.map (some bm)) := by simp [World.cell?, hb0]
      have e4 : W0.cell? ⟨w.heap.size, 4, none⟩ = some (.string rm) := by simp [World.cell?, he0]
      have hlb := blk_lt hb0
      have hle := blk_lt he0
      have hll := blk_lt hl0
      (refine wp_region_quiet_tail 11 (by kernel_rfl) (by kernel_rfl) ?_
       simp only [List.take_succ_cons, List.take_zero, List.drop_succ_cons, List.drop_zero]
       repeat (first | go_big_quiet_skip | (go_big_quiet_want; go_big_quiet_op; first | go_big_quiet_on | (apply Exists.intro; refine ⟨fun _ => ?_, ?_⟩; (fail); go_big_quiet_on)))
       refine wpQuiet_nil ?_
       rintro _ ⟨zq, rfl⟩)
      refine wpList_putSI (k := rm) (n := (k.st.length : Int)) (b := bm) (m := k.m) rfl _ _ _ rfl rfl rfl rfl (by repeat (first | exact hm0 | refine MapAt.ext ?_ _ | refine MapAt.alloc ?_ _)) rfl fun wu hmu hgu _ => ?_
      have hb1 := (hgu.block bb (by rw [ext_size]; omega) (by have := blk_ne_map hb0 hm0; simpa using this)).trans ((ext_heap_lt _ _ _ hlb).trans hb0)
      have he1 := (hgu.block w.heap.size (by rw [ext_size]; omega) (by have := blk_ne_map he0 hm0; simpa using this)).trans ((ext_heap_lt _ _ _ hle).trans he0)
      have hl1 := (hgu.block L5 (by rw [ext_size]; omega) (by have := blk_ne_map hl0 hm0; simpa using this)).trans ((ext_heap_lt _ _ _ hll).trans hl0)
      have hown2 := (own_ext hown0 zq).kept hgu (.inr (Ne.symm (own_ne_map hown0 hm0)))
      have hBu : Below base w wu := grown_below (B_ext hB0 zq (by omega)) hgu hbm (by omega)
      obtain ⟨i0, hi0, hz0, hz1, hz2⟩ := info_parts info_stay
      have hbu := blk_lt hb1
      have heu := blk_lt he1
      have hlu := blk_lt hl1
      have hbase : base ≤ wu.heap.size := by omega
      have hob := own_ne hown2 hb1 (by decide)
      have hob2 := own_ne hown2 he1 (by decide)
      have c5 : wu.cell? ⟨bb, 5, none⟩ = some (.slice A k.st.length cc) := by simp [World.cell?, hb1]
      have d0 : wu.cell? ⟨L5, 0, none⟩ = some (.string orm) := by simp [World.cell?, hl1]
      have d1 : wu.cell? ⟨L5, 1, none⟩ = some (.int .i64 ost) := by simp [World.cell?, hl1]
      have d2 : wu.cell? ⟨L5, 2, none⟩ = some (.string osi) := by simp [World.cell?, hl1]
      have d3 : wu.cell? ⟨L5, 3, none⟩ = some (.int .i64 olv) := by simp [World.cell?, hl1]
      have d4 : wu.cell? ⟨L5, 4, none⟩ = some (.int .i64 oco) := by simp [World.cell?, hl1]
      have d5 : wu.cell? ⟨L5, 5, none⟩ = some (.int .i64 osc) := by simp [World.cell?, hl1]
      clear hgu hown0 hm0 hb0 he0 hl0 hB0 c6 e4 hlb hle hll
      refine wpList_nil ?_
      go_wp2_with fail
      go_region_law (refine step_append_lies _ (by rfl) _ _ _ (by rfl) base 144 i0 _ 7 72 und_stays hi0 hz0 hz1 hz2 rfl (by omega) _ k.st.length (st0.flatMap Stay.cells) (by rfl) ((hown2.alloc _).drew) ⟨wu.heap.size, 0, none⟩ 1 1 [.string orm, .int .i64 ost, .string osi, .int .i64 olv, .int .i64 oco, .int .i64 osc, .int .i64 (-1)] (by rfl) (by rfl) (World.news_of_block (cs := #[.string orm, .int .i64 ost, .string osi, .int .i64 olv, .int .i64 oco, .int .i64 osc, .int .i64 (-1)]) (t := 144) (fr := (0, 0)) (heap_alloc_new wu _)) (by simp [Value.oneCell']) (by omega) (by simp [maxLen]; omega) (by omega) (by first | (simp; done) | (simp; omega)) (wu.heap.size + 1) (by simp) ?_; intro gg cap w1 hown1 hgrow hat hlt1; have hb2 := (hgrow.block bb (by first | (simp; done) | (simp; omega)) hob).trans ((Below.heap_alloc wu _ bb hbu).trans hb1); have he2 := (hgrow.block w.heap.size (by first | (simp; done) | (simp; omega)) hob2).trans ((Below.heap_alloc wu _ _ heu).trans he1); have x5 : w1.cell? ⟨bb, 5, none⟩ = some (.slice A k.st.length cc) := (by simp [World.cell?, hb2]); have z5 : w1.frozen? ⟨bb, 5, none⟩ = false := (by simp [World.frozen?, hb2]); have x6 : w1.cell? ⟨w.heap.size, 0, none⟩ = some (.int .i64 dy) := (by simp [World.cell?, he2]); have x7 : w1.cell? ⟨bb, 7, none⟩ = some (.int .i64 k.day) := (by simp [World.cell?, hb2]); have z7 : w1.frozen? ⟨bb, 7, none⟩ = false := (by simp [World.frozen?, hb2]))
      all_goals go_wp2_with fail
      all_goals go_ret
      all_goals (refine .inr ⟨rfl, rfl, ?_, ?_⟩)
      all_goals first
        | (refine B_set (B_set ?_ (by first | (simp; done) | (simp; omega)) _) (by first | (simp; done) | (simp; omega)) _
           exact Below.grown (B_drew (B_alloc hBu _ (by omega))) hgrow (by first | (simp; done) | (simp; omega)) (fun g hg => (hown2.lt g hg).1))
        | (have hm1 : MapAt w1 bm ekS evI (mput eqS rm (↑k.st.length) k.m) := (hmu.alloc _).drew.keep (hgrow.block bm (by simp; have := hmu.lt; omega) (own_ne_map hown2 hmu))
           have hown3 : w1.ownsRow base 144 7 (Value.slice (some { block := gg, off := 0 }) (k.st.length + 1) cap) (st0 ++ [(⟨⟨orm, ost, osi, olv, oco, osc⟩, -1⟩ : Stay)]).length ((st0 ++ [(⟨⟨orm, ost, osi, olv, oco, osc⟩, -1⟩ : Stay)]).flatMap Stay.cells) := by
             rw [List.length_append, hst, List.flatMap_append]
             exact hown1
           have hfin := book_stored (dy := dy) hb2 hown3 hm1 hbb hbm
           rw [← HK.out]; exact hfin)
    | some i =>
      obtain ⟨j, hij, hj⟩ := hgood i hq
      subst hij
      simp only [hq] at hlk
      have HQ := Lib.hid hq
      clear hq
      have hj2 : (j : Int) < (k.st.length : Int) := by omega
      go_wp2_with (go_at_call 85; refine (HE _ (he.keep (by repeat (first | exact Below.refl _ _ | exact Below.refl (World.heap _).size _ | assumption | refine B_alloc ?_ _ | refine B_ext ?_ _ | refine B_drew ?_ | refine B_drewN ?_ _ | refine B_set ?_ (by simp; omega) _)))).mono ?_; rintro e wq ⟨rfl, z1, rfl⟩; unfold retErr Lot.v)
      (refine wp_region_ext_lit (by kernel_rfl) (by kernel_rfl) ?_
       repeat (first | go_big_quiet_skip | (go_big_quiet_want; go_big_quiet_op; first | go_big_quiet_on | (apply Exists.intro; refine ⟨fun _ => ?_, ?_⟩; (fail); go_big_quiet_on)))
       refine wpQuiet_nil ?_
       rintro _ ⟨zq, rfl⟩)
      go_wp2_with fail
      generalize hW0 : World.ext (((w.alloc (.cells #[.int .i64 dy, .int .i64 kd, .string si, .int .i64 l, .string rm, .int .i64 c, .bool o] 23)).ext z1).alloc (.cells #[.string orm, .int .i64 ost, .string osi, .int .i64 olv, .int .i64 oco, .int .i64 osc] 107)) zq = W0
      have hB0 : Below base w W0 := by rw [← hW0]; exact (Below.mono (by repeat (first | exact Below.refl _ _ | exact Below.refl (World.heap _).size _ | assumption | refine B_alloc ?_ _ | refine B_ext ?_ _ | refine B_drew ?_ | refine B_drewN ?_ _ | refine B_set ?_ (by simp; omega) _) : Below w.heap.size w _) (by omega))
      have hbB : Below w.heap.size w W0 := by rw [← hW0]; repeat (first | exact Below.refl _ _ | exact Below.refl (World.heap _).size _ | assumption | refine B_alloc ?_ _ | refine B_ext ?_ _ | refine B_drew ?_ | refine B_drewN ?_ _ | refine B_set ?_ (by simp; omega) _)
      have heB : Below (w.alloc (.cells #[.int .i64 dy, .int .i64 kd, .string si, .int .i64 l, .string rm, .int .i64 c, .bool o] 23)).heap.size (w.alloc (.cells #[.int .i64 dy, .int .i64 kd, .string si, .int .i64 l, .string rm, .int .i64 c, .bool o] 23)) W0 := by rw [← hW0]; repeat (first | exact Below.refl _ _ | exact Below.refl (World.heap _).size _ | assumption | refine B_alloc ?_ _ | refine B_ext ?_ _ | refine B_drew ?_ | refine B_drewN ?_ _ | refine B_set ?_ (by simp; omega) _)
      have hlB : Below ((((w.alloc (.cells #[.int .i64 dy, .int .i64 kd, .string si, .int .i64 l, .string rm, .int .i64 c, .bool o] 23)).ext z1).alloc (.cells #[.string orm, .int .i64 ost, .string osi, .int .i64 olv, .int .i64 oco, .int .i64 osc] 107))).heap.size (((w.alloc (.cells #[.int .i64 dy, .int .i64 kd, .string si, .int .i64 l, .string rm, .int .i64 c, .bool o] 23)).ext z1).alloc (.cells #[.string orm, .int .i64 ost, .string osi, .int .i64 olv, .int .i64 oco, .int .i64 osc] 107)) W0 := by rw [← hW0]; repeat (first | exact Below.refl _ _ | exact Below.refl (World.heap _).size _ | assumption | refine B_alloc ?_ _ | refine B_ext ?_ _ | refine B_drew ?_ | refine B_drewN ?_ _ | refine B_set ?_ (by simp; omega) _)
      have hb0 := (hbB.block bb hlt).trans hblk
      have he0 := (heB.block w.heap.size (by simp)).trans (heap_alloc_new w _)
      have hl0 := (hlB.block _ (by simp)).trans (heap_alloc_new _ _)
      have hm0 : MapAt W0 bm ekS evI k.m := hm.keep (hbB.block bm hm.lt)
      have hown0 := own_keep hown hbB
      have hL5 : ((w.alloc (.cells #[.int .i64 dy, .int .i64 kd, .string si, .int .i64 l, .string rm, .int .i64 c, .bool o] 23)).ext z1).heap.size = w.heap.size + 1 + z1.os.size := by simp [ext_size]
      rw [hL5] at hl0
      generalize w.heap.size + 1 + z1.os.size = L5 at *
      clear hbB heB hlB hL5 hW0
      obtain ⟨g, cap, hv, hbg, hglt⟩ := hown0.form (by omega)
      simp only [Value.slice.injEq, true_and] at hv
      obtain ⟨rfl, rfl⟩ := hv
      have c5 : W0.cell? ⟨bb, 5, none⟩ = some (.slice (some ⟨g, 0, none⟩) k.st.length cc) := by simp [World.cell?, hb0]
      have e0 : W0.cell? ⟨w.heap.size, 0, none⟩ = some (.int .i64 dy) := by simp [World.cell?, he0]
      have hsc := (hown0.cellAt (j * 7 + 6) (by omega)).trans (flat_at Stay.cells 7 stay_len k.st j _ (List.getElem?_eq_getElem hj) 6 _ rfl)
      have hsf := hown0.frozenAt (j * 7 + 6)
      have hlb := blk_lt hb0
      have hle := blk_lt he0
      clear hlk hgood
      (refine wp_region_quiet_tail 9 (by kernel_rfl) (by kernel_rfl) ?_
       simp only [List.take_succ_cons, List.take_zero, List.drop_succ_cons, List.drop_zero]
       repeat (first | go_big_quiet_skip | (go_big_quiet_want; go_big_quiet_op; first | go_big_quiet_on | (apply Exists.intro; refine ⟨fun _ => ?_, ?_⟩; (fail); go_big_quiet_on)))
       refine wpQuiet_nil ?_
       rintro _ ⟨zq, rfl⟩)
      go_wp2_with fail
      generalize hX : World.ext (W0.setCell ⟨g, j * 7 + 6, none⟩ (.int .i64 dy)) zq = W9
      have hbg2 := own_ne hown0 hb0 (by decide)
      have heg2 := own_ne hown0 he0 (by decide)
      have hlg2 := own_ne hown0 hl0 (by decide)
      have hmg2 := own_ne_map hown0 hm0
      obtain ⟨hst1, hst2⟩ := hown0.stored (j * 7 + 6) (.int .i64 dy)
      have hgX : W0.grownBy W9 (some g) := by rw [← hX]; exact grown_ext hst2 zq
      have hb1 := (hgX.block bb (blk_lt hb0) (by simpa [Value.ownBlock] using hbg2)).trans hb0
      have he1 := (hgX.block w.heap.size (blk_lt he0) (by simpa [Value.ownBlock] using heg2)).trans he0
      have hl1 := (hgX.block L5 (blk_lt hl0) (by simpa [Value.ownBlock] using hlg2)).trans hl0
      have hm1 : MapAt W9 bm ekS evI k.m := hm0.keep (hgX.block bm hm0.lt (by simpa [Value.ownBlock] using hmg2))
      have hown1 := own_ext hst1 zq
      rw [hX, flat_set dy k.st j hj] at hown1
      have hB1 : Below base w W9 := grown_below hB0 hgX hbg (by omega)
      obtain ⟨st0, hs0⟩ : ∃ st0, st0 = k.st.modify j fun s => { s with till := dy } := ⟨_, rfl⟩
      rw [← hs0] at hown1
      have hst : st0.length = k.st.length := by rw [hs0, List.length_modify]
      have HK : Hid ({ k with st := st0 ++ [⟨⟨orm, ost, osi, olv, oco, osc⟩, -1⟩], m := mput eqS rm (k.st.length : Int) k.m, day := dy } = addK k ⟨dy, kd, si, l, rm, c, o⟩ ⟨orm, ost, osi, olv, oco, osc⟩) := by
        show _ = _
        rw [addK, HQ.out, hs0]; rfl
      clear hs0 hst1 hst2 hgX hX hbg2 heg2 hlg2 hmg2 hown0 hm0 hb0 he0 hl0 hB0 c5 e0 hsc hsf hlb hle
      have hb0 := hb1
      have he0 := he1
      have hl0 := hl1
      have hm0 := hm1
      have hown0 := hown1
      have hB0 := hB1
      clear hb1 he1 hl1 hm1 hown1 hB1
      have c5 : W9.cell? ⟨bb, 5, none⟩ = some (.slice (some ⟨g, 0, none⟩) k.st.length cc) := by simp [World.cell?, hb0]
      have c6 : W9.cell? ⟨bb, 6, none⟩ = some (.map (some bm)) := by simp [World.cell?, hb0]
      have e4 : W9.cell? ⟨w.heap.size, 4, none⟩ = some (.string rm) := by simp [World.cell?, he0]
      have hlb := blk_lt hb0
      have hle := blk_lt he0
      have hll := blk_lt hl0
      (refine wp_region_quiet_tail 11 (by kernel_rfl) (by kernel_rfl) ?_
       simp only [List.take_succ_cons, List.take_zero, List.drop_succ_cons, List.drop_zero]
       repeat (first | go_big_quiet_skip | (go_big_quiet_want; go_big_quiet_op; first | go_big_quiet_on | (apply Exists.intro; refine ⟨fun _ => ?_, ?_⟩; (fail); go_big_quiet_on)))
       refine wpQuiet_nil ?_
       rintro _ ⟨zq, rfl⟩)
      refine wpList_putSI (k := rm) (n := (k.st.length : Int)) (b := bm) (m := k.m) rfl _ _ _ rfl rfl rfl rfl (by repeat (first | exact hm0 | refine MapAt.ext ?_ _ | refine MapAt.alloc ?_ _)) rfl fun wu hmu hgu _ => ?_
      have hb1 := (hgu.block bb (by rw [ext_size]; omega) (by have := blk_ne_map hb0 hm0; simpa using this)).trans ((ext_heap_lt _ _ _ hlb).trans hb0)
      have he1 := (hgu.block w.heap.size (by rw [ext_size]; omega) (by have := blk_ne_map he0 hm0; simpa using this)).trans ((ext_heap_lt _ _ _ hle).trans he0)
      have hl1 := (hgu.block L5 (by rw [ext_size]; omega) (by have := blk_ne_map hl0 hm0; simpa using this)).trans ((ext_heap_lt _ _ _ hll).trans hl0)
      have hown2 := (own_ext hown0 zq).kept hgu (.inr (Ne.symm (own_ne_map hown0 hm0)))
      have hBu : Below base w wu := grown_below (B_ext hB0 zq (by omega)) hgu hbm (by omega)
      obtain ⟨i0, hi0, hz0, hz1, hz2⟩ := info_parts info_stay
      have hbu := blk_lt hb1
      have heu := blk_lt he1
      have hlu := blk_lt hl1
      have hbase : base ≤ wu.heap.size := by omega
      have hob := own_ne hown2 hb1 (by decide)
      have hob2 := own_ne hown2 he1 (by decide)
      have c5 : wu.cell? ⟨bb, 5, none⟩ = some (.slice (some ⟨g, 0, none⟩) k.st.length cc) := by simp [World.cell?, hb1]
      have d0 : wu.cell? ⟨L5, 0, none⟩ = some (.string orm) := by simp [World.cell?, hl1]
      have d1 : wu.cell? ⟨L5, 1, none⟩ = some (.int .i64 ost) := by simp [World.cell?, hl1]
      have d2 : wu.cell? ⟨L5, 2, none⟩ = some (.string osi) := by simp [World.cell?, hl1]
      have d3 : wu.cell? ⟨L5, 3, none⟩ = some (.int .i64 olv) := by simp [World.cell?, hl1]
      have d4 : wu.cell? ⟨L5, 4, none⟩ = some (.int .i64 oco) := by simp [World.cell?, hl1]
      have d5 : wu.cell? ⟨L5, 5, none⟩ = some (.int .i64 osc) := by simp [World.cell?, hl1]
      clear hgu hown0 hm0 hb0 he0 hl0 hB0 c6 e4 hlb hle hll
      refine wpList_nil ?_
      go_wp2_with fail
      go_region_law (refine step_append_lies _ (by rfl) _ _ _ (by rfl) base 144 i0 _ 7 72 und_stays hi0 hz0 hz1 hz2 rfl (by omega) _ k.st.length (st0.flatMap Stay.cells) (by rfl) ((hown2.alloc _).drew) ⟨wu.heap.size, 0, none⟩ 1 1 [.string orm, .int .i64 ost, .string osi, .int .i64 olv, .int .i64 oco, .int .i64 osc, .int .i64 (-1)] (by rfl) (by rfl) (World.news_of_block (cs := #[.string orm, .int .i64 ost, .string osi, .int .i64 olv, .int .i64 oco, .int .i64 osc, .int .i64 (-1)]) (t := 144) (fr := (0, 0)) (heap_alloc_new wu _)) (by simp [Value.oneCell']) (by omega) (by simp [maxLen]; omega) (by omega) (by first | (simp; done) | (simp; omega)) (wu.heap.size + 1) (by simp) ?_; intro gg cap w1 hown1 hgrow hat hlt1; have hb2 := (hgrow.block bb (by first | (simp; done) | (simp; omega)) hob).trans ((Below.heap_alloc wu _ bb hbu).trans hb1); have he2 := (hgrow.block w.heap.size (by first | (simp; done) | (simp; omega)) hob2).trans ((Below.heap_alloc wu _ _ heu).trans he1); have x5 : w1.cell? ⟨bb, 5, none⟩ = some (.slice (some ⟨g, 0, none⟩) k.st.length cc) := (by simp [World.cell?, hb2]); have z5 : w1.frozen? ⟨bb, 5, none⟩ = false := (by simp [World.frozen?, hb2]); have x6 : w1.cell? ⟨w.heap.size, 0, none⟩ = some (.int .i64 dy) := (by simp [World.cell?, he2]); have x7 : w1.cell? ⟨bb, 7, none⟩ = some (.int .i64 k.day) := (by simp [World.cell?, hb2]); have z7 : w1.frozen? ⟨bb, 7, none⟩ = false := (by simp [World.frozen?, hb2]))
      all_goals go_wp2_with fail
      all_goals go_ret
      all_goals (refine .inr ⟨rfl, rfl, ?_, ?_⟩)
      all_goals first
        | (refine B_set (B_set ?_ (by first | (simp; done) | (simp; omega)) _) (by first | (simp; done) | (simp; omega)) _
           exact Below.grown (B_drew (B_alloc hBu _ (by omega))) hgrow (by first | (simp; done) | (simp; omega)) (fun g hg => (hown2.lt g hg).1))
        | (have hm1 : MapAt w1 bm ekS evI (mput eqS rm (↑k.st.length) k.m) := (hmu.alloc _).drew.keep (hgrow.block bm (by simp; have := hmu.lt; omega) (own_ne_map hown2 hmu))
           have hown3 : w1.ownsRow base 144 7 (Value.slice (some { block := gg, off := 0 }) (k.st.length + 1) cap) (st0 ++ [(⟨⟨orm, ost, osi, olv, oco, osc⟩, -1⟩ : Stay)]).length ((st0 ++ [(⟨⟨orm, ost, osi, olv, oco, osc⟩, -1⟩ : Stay)]).flatMap Stay.cells) := by
             rw [List.length_append, hst, List.flatMap_append]
             exact hown1
           have hfin := book_stored (dy := dy) hb2 hown3 hm1 hbb hbm
           rw [← HK.out]; exact hfin)
  · go_wp2_with (go_at_call 85; refine (HE _ (he.keep (by repeat (first | exact Below.refl _ _ | exact Below.refl (World.heap _).size _ | assumption | refine B_alloc ?_ _ | refine B_ext ?_ _ | refine B_drew ?_ | refine B_drewN ?_ _ | refine B_set ?_ (by simp; omega) _)))).mono ?_; rintro e wq ⟨rfl, zq, rfl⟩; unfold retErr Lot.v)
    go_ret
    exact .inl ⟨h0, Ret.of rfl (by repeat (first | exact Below.refl _ _ | exact Below.refl (World.heap _).size _ | assumption | refine B_alloc ?_ _ | refine B_ext ?_ _ | refine B_drew ?_ | refine B_drewN ?_ _ | refine B_set ?_ (by simp; omega) _))⟩

end Go.Proofs.YtpohkolapgofdaaGreatDoor

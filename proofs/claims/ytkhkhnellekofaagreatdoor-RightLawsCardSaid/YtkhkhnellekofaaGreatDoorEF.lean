/- Walks of chapter 5's MayBury. -/
import Derived.Test.YtkhkhnellekofaaGreatDoorEE
set_option linter.unusedSimpArgs false
set_option linter.unusedVariables false
namespace Go.Proofs.YtkhkhnellekofaaGreatDoor
open Go.RowKit Go.Shelf
attribute [local go_sem] World.cell?_alloc_mark ext_size ext_cell ext_frozen lt_add_r lt_add_r2 lt_add_r3 lt_add_r4 lt_add_r5 lt_add_r6 lt_add_r7 lt_add_r8
attribute [local go_sem] ext_setCell alloc_setCell_lt

open Classical in
noncomputable def letsP (s : St) (cls : Int) (name x : ByteArray) : Bool :=
 if sameB x name then true else if cls == 0 then false else if marriedP s x name || decide (Desc s x name) then true else cls != 1 && (childrenP s name).any (sameB x)
structure MbAt (base : Nat) (W : World) (b T N TT WW : Nat) (s : St) (cls : Int) (name : ByteArray) : Prop where
 peo : PeoAt base W b s
 tl : T < W.heap.size
 tc : W.cell? ⟨T, 1, none⟩ = some (.int .i64 cls)
 nl : N < W.heap.size
 nc : W.cell? ⟨N, 0, none⟩ = some (.string name)
 ttl : TT < W.heap.size
 ttc : W.cell? ⟨TT, 0, none⟩ = some (.pointer (some ⟨T, 0, none⟩))
 wl : WW < W.heap.size
 wc : W.cell? ⟨WW, 0, none⟩ = some (.pointer (some ⟨b, 0, none⟩))
theorem MbAt.keep {base : Nat} {W W' : World} {b T N TT WW : Nat} {s : St} {cls : Int} {name : ByteArray} (h : MbAt base W b T N TT WW s cls name) (hB : Below W.heap.size W W') : MbAt base W' b T N TT WW s cls name :=
 ⟨h.peo.keep hB, Nat.lt_of_lt_of_le h.tl hB.size, (B_cell hB h.tl).trans h.tc, Nat.lt_of_lt_of_le h.nl hB.size, (B_cell hB h.nl).trans h.nc, Nat.lt_of_lt_of_le h.ttl hB.size, (B_cell hB h.ttl).trans h.ttc, Nat.lt_of_lt_of_le h.wl hB.size, (B_cell hB h.wl).trans h.wc⟩
open Classical in
set_option maxRecDepth 100000 in
set_option maxHeartbeats 2000000 in
theorem lets_any (base b T N TT WW : Nat) (s : St) (cls : Int) (name x : ByteArray) (w : World) (hM : MbAt base w b T N TT WW s cls name) (hml : s.marriages.length ≤ 1000) (hkl : s.children.length ≤ 1000) :
    Calls Tryz.prog 79 #[.string x, .pointer (some ⟨N, 0, none⟩), .pointer (some ⟨TT, 0, none⟩), .pointer (some ⟨WW, 0, none⟩)] w (Ret w (.bool (letsP s cls name x))) := by
 have hP := hM.peo
 obtain ⟨B, d, c, p, wl, r, mv, tv, la, co, hC, hPP⟩ := id hP
 have hbl := blk_lt hC
 unfold WldC at hC
 have c1 : w.cell? ⟨b, 1, none⟩ = some (.map (some c)) := by simp only [World.cell?, hC]; rfl
 obtain ⟨KA, kc, hlk, hkc, hKS⟩ := look_kids hPP name
 have HWM := Lib.hid (fun W (hB : Below w.heap.size w W) => wereMarried_any base b s x name W (hP.keep hB) (by omega))
 have HDE := Lib.hid (fun W (hB : Below w.heap.size w W) => descends_any base b s name x W (hP.keep hB) (by omega))
 have hcl : (childrenP s name).length ≤ 100000 := by
  have : (childrenP s name).length ≤ s.children.length := by unfold childrenP; rw [List.length_map]; exact List.length_filter_le _ _
  omega
 have HCO := Lib.hid (fun W (hB : Below w.heap.size w W) => coStr_any (childrenP s name) x KA _ kc W rfl hcl (hKS.keep hB))
 have hlk2 : ∀ z, (Instr.lookup 105 (.map (some c)) (.string name) false).run Tryz.prog (w.ext z) = .ok (.slice KA (childrenP s name).length kc) (w.ext z) := fun z => hlk _ (below_ext w z)
 have HLK := Lib.hid hlk
 obtain ⟨_, htl, htc, hnl, hnc, httl, httc, hwl, hwc⟩ := hM
 obtain ⟨R, hR⟩ : ∃ R, R = letsP s cls name x := ⟨_, rfl⟩
 rw [← hR]
 unfold letsP at hR
 have HR := Lib.hid hR
 clear hP hC hPP hlk hKS hR
 generalize marriedP s x name = ma at *
 generalize decide (Desc s x name) = de at *
 generalize (childrenP s name).any (sameB x) = kd at *
 generalize (childrenP s name).length = kl at *
 cases hs : sameB x name
 · have hsx : (x.toList == name.toList) = false := hs
   rw [hs] at HR
   by_cases h0 : cls = 0
   · subst h0
     have HX : Hid (R = false) := by show _ = _; rw [HR.out]; rfl
     clear HR hlk2 HLK
     go_enter Tryz.func79, Tryz.ntmps79
     go_wp2_with fail
     go_ret
     rw [HX.out]
     exact Ret.of rfl Bw
   · have HX : Hid (R = if ma || de then true else cls != 1 && kd) := by
       show _ = _
       rw [HR.out]
       have : (cls == 0) = false := by simpa using h0
       rw [this]
       rfl
     clear HR
     cases ma
     · cases de
       · by_cases h1 : cls = 1
         · subst h1
           have HX2 : Hid (R = false) := by show _ = _; rw [HX.out]; rfl
           clear HX HLK hlk2
           go_enter Tryz.func79, Tryz.ntmps79
           go_upto_region 5 with fail
           (refine wp_region_ext_lit (by kernel_rfl) (by kernel_rfl) ?_
            repeat (first | go_big_quiet_skip | (go_big_quiet_want; go_big_quiet_op; first | go_big_quiet_on | (apply Exists.intro; refine ⟨fun _ => ?_, ?_⟩; (first | (go_at_call 80; exact quietx (HWM.out _ Bw)) | (go_at_call 81; exact quietx (HDE.out _ Bw))); go_big_quiet_on)))
            refine wpQuiet_nil ?_
            rintro _ ⟨zq, rfl⟩)
           go_upto_region 7 with fail
           go_quiet (fail)
           go_wp2_with fail
           go_ret
           rw [HX2.out]
           exact Ret.of rfl Bw
         · have HX2 : Hid (R = kd) := by
             show _ = _
             rw [HX.out]
             have : (cls != 1) = true := by simpa using h1
             rw [this]
             simp
           clear HX
           go_enter Tryz.func79, Tryz.ntmps79
           go_upto_region 5 with fail
           (refine wp_region_ext_lit (by kernel_rfl) (by kernel_rfl) ?_
            repeat (first | go_big_quiet_skip | (go_big_quiet_want; go_big_quiet_op; first | go_big_quiet_on | (apply Exists.intro; refine ⟨fun _ => ?_, ?_⟩; (first | (go_at_call 80; exact quietx (HWM.out _ Bw)) | (go_at_call 81; exact quietx (HDE.out _ Bw))); go_big_quiet_on)))
            refine wpQuiet_nil ?_
            rintro _ ⟨zq, rfl⟩)
           go_upto_region 7 with fail
           have hlk4 : ∀ z, (Instr.lookup 105 (.map (some c)) (.string name) false).run Tryz.prog ((w.ext zq).ext z) = .ok (.slice KA kl kc) ((w.ext zq).ext z) := fun z => HLK.out _ Bw
           have hn1 : (cls == 1) = false := by simpa using h1
           have hn2 : (cls != 1) = true := by simpa using h1
           have hn3 : decide (cls = 1) = false := by simpa using h1
           (refine wp_region_ext_lit (by kernel_rfl) (by kernel_rfl) ?_
            repeat (first | go_big_quiet_skip | (go_big_quiet_want; go_big_quiet_op; first | go_big_quiet_on | (apply Exists.intro; refine ⟨fun _ => ?_, ?_⟩; (first | (go_at_call 82; exact quietx0 (HCO.out _ Bw))); go_big_quiet_on)))
            refine wpQuiet_nil ?_
            rintro _ ⟨zq, rfl⟩)
           go_wp2_with fail
           go_ret
           rw [HX2.out]
           exact Ret.of rfl Bw
       · have HX2 : Hid (R = true) := by show _ = _; rw [HX.out]; rfl
         clear HX HLK hlk2
         go_enter Tryz.func79, Tryz.ntmps79
         go_upto_region 5 with fail
         (refine wp_region_ext_lit (by kernel_rfl) (by kernel_rfl) ?_
          repeat (first | go_big_quiet_skip | (go_big_quiet_want; go_big_quiet_op; first | go_big_quiet_on | (apply Exists.intro; refine ⟨fun _ => ?_, ?_⟩; (first | (go_at_call 80; exact quietx (HWM.out _ Bw)) | (go_at_call 81; exact quietx (HDE.out _ Bw))); go_big_quiet_on)))
          refine wpQuiet_nil ?_
          rintro _ ⟨zq, rfl⟩)
         go_wp2_with fail
         go_ret
         rw [HX2.out]
         exact Ret.of rfl Bw
     · have HX2 : Hid (R = true) := by show _ = _; rw [HX.out]; rfl
       clear HX HLK hlk2
       go_enter Tryz.func79, Tryz.ntmps79
       go_upto_region 5 with fail
       (refine wp_region_ext_lit (by kernel_rfl) (by kernel_rfl) ?_
        repeat (first | go_big_quiet_skip | (go_big_quiet_want; go_big_quiet_op; first | go_big_quiet_on | (apply Exists.intro; refine ⟨fun _ => ?_, ?_⟩; (go_at_call 80; exact quietx (HWM.out _ Bw)); go_big_quiet_on)))
        refine wpQuiet_nil ?_
        rintro _ ⟨zq, rfl⟩)
       go_wp2_with fail
       go_ret
       rw [HX2.out]
       exact Ret.of rfl Bw
 · have hsx : (x.toList == name.toList) = true := hs
   have HX : Hid (R = true) := by show _ = _; rw [HR.out, hs]; rfl
   clear HR hlk2 HLK
   go_enter Tryz.func79, Tryz.ntmps79
   go_wp2_with fail
   go_ret
   rw [HX.out]
   exact Ret.of rfl Bw
def closV (N TT WW : Nat) : Value := .func (.func 79) #[] #[.pointer (some ⟨N, 0, none⟩), .pointer (some ⟨TT, 0, none⟩), .pointer (some ⟨WW, 0, none⟩)]
set_option maxRecDepth 100000 in
set_option maxHeartbeats 2000000 in
theorem entPart_any (base b T N TT WW FB : Nat) (s : St) (cls : Int) (name : ByteArray) (q : RPart) (w : World) (hM : MbAt base w b T N TT WW s cls name) (hFl : FB < w.heap.size) (hFB : w.cell? ⟨FB, 0, none⟩ = some (closV N TT WW)) (hml : s.marriages.length ≤ 1000) (hkl : s.children.length ≤ 1000) :
    Calls Tryz.prog 101 #[.agg #[.string q.name, .int .i64 q.num, .int .i64 q.den], .pointer (some ⟨FB, 0, none⟩)] w (Ret w (.bool (!noB q.name && letsP s cls name q.name))) := by
 have eg : ∀ args w, (callFunc 79 args).run Tryz.prog w = .ok (.enter 79 args) w := enters_of Tryz.func79 (by kernel_rfl) rfl
 have HLE := Lib.hid (fun W (hB : Below w.heap.size w W) => lets_any base b T N TT WW s cls name q.name W (hM.keep hB) hml hkl)
 unfold closV at hFB
 have hFn : FB ≠ w.heap.size := by omega
 clear hM
 obtain ⟨nm, nu, de⟩ := q
 simp only at *
 generalize letsP s cls name nm = le at *
 cases hn : noB nm
 · have hn1 : nm.toList.isEmpty = false := hn
   have hn2 : ¬ nm.toList = [] := by simpa using hn1
   go_enter Tryz.func101, Tryz.ntmps101
   go_wp2_with (go_at_fn 79; refine (HLE.out _ Bw).mono ?_; rintro e wq ⟨rfl, z, rfl⟩)
   go_ret
   exact Ret.of (bool_eq (by simp)) Bw
 · have hn1 : nm.toList.isEmpty = true := hn
   have hn2 : nm.toList = [] := by simpa using hn1
   go_enter Tryz.func101, Tryz.ntmps101
   go_wp2_with fail
   go_ret
   exact Ret.of (bool_eq (by simp)) Bw
theorem sl_map {α β : Type} {w : World} {size : Nat} {f : α → List Value} {g : β → List Value} {A : Option Addr} {xs : List α} (h : Sl w size f A xs) (m : α → β) (hm : ∀ x, g (m x) = f x) : Sl w size g A (xs.map m) := fun hl => by
 obtain ⟨b, off, hA, hb, hc⟩ := h (by simpa using hl)
 refine ⟨b, off, hA, hb, fun k x hk j u hu => ?_⟩
 rw [List.getElem?_map, Option.map_eq_some_iff] at hk
 obtain ⟨y, hy, rfl⟩ := hk
 rw [hm] at hu
 exact hc k y hy j u hu
def toR (p : ByteArray × Rat) : RPart := ⟨p.1, p.2.num, p.2.den⟩
noncomputable def entP (s : St) (g : Grave) (name : ByteArray) : Bool := g.holders.any (fun p => !noB p.1 && letsP s g.cls name p.1) || g.died.any (letsP s g.cls name)
set_option maxRecDepth 100000 in
set_option maxHeartbeats 2000000 in
theorem entitled_any (base b T N TT WW : Nat) (B : List Nat) (s : St) (g : Grave) (name : ByteArray) (w : World) (hM : MbAt base w b T N TT WW s g.cls name) (hT : TombAt w base B T g) (hml : s.marriages.length ≤ 1000) (hkl : s.children.length ≤ 1000) (hhl : g.holders.length ≤ 100000) (hdl : g.died.length ≤ 100000) :
    Calls Tryz.prog 78 #[.pointer (some ⟨T, 0, none⟩), closV N TT WW] w (Ret w (.bool (entP s g name))) := by
 have eg : ∀ args w, (callFunc 79 args).run Tryz.prog w = .ok (.enter 79 args) w := enters_of Tryz.func79 (by kernel_rfl) rfl
 have eg2 : ∀ args w, (callFunc 101 args).run Tryz.prog w = .ok (.enter 101 args) w := enters_of Tryz.func101 (by kernel_rfl) rfl
 obtain ⟨H, hc', D, dc, frm, t1, t2, t3, t4, t5, t6, t7⟩ := hT
 have hTl := blk_lt t1
 unfold TombC at t1
 have k4 : w.cell? ⟨T, 4, none⟩ = some (.slice H g.holders.length hc') := by simp only [World.cell?, t1]; rfl
 have k5 : w.cell? ⟨T, 5, none⟩ = some (.slice D g.died.length dc) := by simp only [World.cell?, t1]; rfl
 have hS1 : Sl w 3 RPart.cells H (g.holders.map toR) := sl_map (Ro.sl part_len t5) toR (fun _ => rfl)
 have hS2 := Ro.sl sC_len t6
 have hcf1 : ∀ W, Below w.heap.size w W → w.heap.size < W.heap.size → W.cell? ⟨w.heap.size, 0, none⟩ = some (closV N TT WW) → Calls Tryz.prog 100 #[.slice H g.holders.length hc', .func (.func 101) #[] #[.pointer (some ⟨w.heap.size, 0, none⟩)]] W (Ret W (.bool ((g.holders.map toR).any fun q => !noB q.name && letsP s g.cls name q.name))) := fun W hB hl hc => by
  refine cfPart_any 101 _ eg2 _ H _ hc' (g.holders.map toR) W (by simp) (by simpa using hhl) (hS1.keep hB) fun x _ W' hB' => ?_
  refine (entPart_any base b T N TT WW w.heap.size s g.cls name x W' (hM.keep (hB.trans (hB'.mono hB.size))) (Nat.lt_of_lt_of_le hl hB'.size) ((B_cell hB' hl).trans hc) hml hkl).mono ?_
  rintro e wq ⟨rfl, z, rfl⟩
  exact ⟨rfl, hB'.trans ((below_ext W' z).mono hB'.size)⟩
 have hcf2 : ∀ W, Below w.heap.size w W → Calls Tryz.prog 87 #[.slice D g.died.length dc, closV N TT WW] W (Ret W (.bool (g.died.any (letsP s g.cls name)))) := fun W hB => by
  refine cfStr_any 79 _ eg _ D _ dc g.died W rfl hdl (hS2.keep hB) fun x _ W' hB' => ?_
  refine (lets_any base b T N TT WW s g.cls name x W' (hM.keep (hB.trans (hB'.mono hB.size))) hml hkl).mono ?_
  rintro e wq ⟨rfl, z, rfl⟩
  exact ⟨rfl, hB'.trans ((below_ext W' z).mono hB'.size)⟩
 have he : entP s g name = ((g.holders.map toR).any (fun q => !noB q.name && letsP s g.cls name q.name) || g.died.any (letsP s g.cls name)) := by
  unfold entP
  rw [List.any_map]
  rfl
 rw [he]
 generalize (g.holders.map toR).any (fun q => !noB q.name && letsP s g.cls name q.name) = b1 at *
 generalize g.died.any (letsP s g.cls name) = b2 at *
 have HC1 := Lib.hid hcf1
 have HC2 := Lib.hid hcf2
 unfold closV at HC1 HC2
 unfold closV
 clear hcf1 hcf2 hS1 hS2 t1 t5 t6 t7 hM he eg eg2
 have hTn : T ≠ w.heap.size := by omega
 cases b1
 · go_enter Tryz.func78, Tryz.ntmps78
   go_upto_region 1 with fail
   (refine wp_region_ext_lit (by kernel_rfl) (by kernel_rfl) ?_
    repeat (first | go_big_quiet_skip | (go_big_quiet_want; go_big_quiet_op; first | go_big_quiet_on | (apply Exists.intro; refine ⟨fun _ => ?_, ?_⟩; (first | (go_at_call 100; exact quietx (HC1.out _ Bw (by simp [ext_size]; omega) (by simp [go_sem]))) | (go_at_call 87; exact quietx (HC2.out _ Bw))); go_big_quiet_on)))
    refine wpQuiet_nil ?_
    rintro _ ⟨zq, rfl⟩)
   go_wp2_with fail
   go_ret
   exact Ret.of (bool_eq (by simp)) Bw
 · go_enter Tryz.func78, Tryz.ntmps78
   go_upto_region 1 with fail
   (refine wp_region_ext_lit (by kernel_rfl) (by kernel_rfl) ?_
    repeat (first | go_big_quiet_skip | (go_big_quiet_want; go_big_quiet_op; first | go_big_quiet_on | (apply Exists.intro; refine ⟨fun _ => ?_, ?_⟩; ((go_at_call 100; exact quietx (HC1.out _ Bw (by simp [ext_size]; omega) (by simp [go_sem])))); go_big_quiet_on)))
    refine wpQuiet_nil ?_
    rintro _ ⟨zq, rfl⟩)
   go_wp2_with fail
   go_ret
   exact Ret.of (bool_eq (by simp)) Bw
end Go.Proofs.YtkhkhnellekofaaGreatDoor

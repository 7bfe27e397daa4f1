/- Walks of the reference's more and Contradicts. -/
import Derived.Test.YtkhkhnellekofaaGreatDoorUB
import Derived.Test.YtkhkhnellekofaaGreatDoorE3
import Derived.Test.YtkhkhnellekofaaGreatDoorO1
import Derived.Test.YtkhkhnellekofaaGreatDoorRJ
set_option linter.unusedSimpArgs false
set_option linter.unusedVariables false
namespace Go.Proofs.YtkhkhnellekofaaGreatDoor
open Go.RowKit Go.Shelf
attribute [local go_sem] World.cell?_alloc_mark ext_size ext_cell ext_frozen lt_add_r lt_add_r2 lt_add_r3 lt_add_r4 lt_add_r5 lt_add_r6 lt_add_r7 lt_add_r8
attribute [local go_sem] ext_setCell alloc_setCell_lt
def kind5 (k:Int):Prop:=k=0\/k=1\/k=2\/k=3\/k=4
set_option maxRecDepth 100000 in
set_option maxHeartbeats 2000000 in
theorem rLives_any (kd:Int) (nm ot pl:ByteArray) (dy tl nu de:Int) (w:World) (hk:kind5 kd):Calls Tryz.prog 72 #[.agg #[.int .i64 kd, .string nm, .string ot, .string pl, .int .i64 dy, .int .i64 tl, .int .i64 nu, .int .i64 de]] w (Ret w (.bool (kd==0||kd==3||kd==4))):=by
 rcases hk with rfl|rfl|rfl|rfl|rfl<;>(go_enter Tryz.func72,Tryz.ntmps72;go_wp2_with fail;go_ret;exact Ret.of rfl Bw)
set_option maxRecDepth 100000 in
set_option maxHeartbeats 2000000 in
theorem rAgainst1_any (nm ot pl:ByteArray) (dy tl nu de:Int) (kd2:Int) (nm2 ot2 pl2:ByteArray) (dy2 tl2 nu2 de2:Int) (w:World) (hk:kind5 kd2):
 Calls Tryz.prog 40 #[.agg #[.int .i64 1, .string nm, .string ot, .string pl, .int .i64 dy, .int .i64 tl, .int .i64 nu, .int .i64 de], .agg #[.int .i64 kd2, .string nm2, .string ot2, .string pl2, .int .i64 dy2, .int .i64 tl2, .int .i64 nu2, .int .i64 de2]] w (Ret w (.bool (rAgainstP ⟨1,nm,ot,pl,dy,tl,nu,de⟩ ⟨kd2,nm2,ot2,pl2,dy2,tl2,nu2,de2⟩))):=by
 have HA1:Hid (∀W:World,Calls Tryz.prog 0 #[] W (fun _ _=>True)->True):=fun _ _=>trivial
 obtain⟨R,hR⟩: ∃R,R=rAgainstP ⟨1,nm,ot,pl,dy,tl,nu,de⟩ ⟨kd2,nm2,ot2,pl2,dy2,tl2,nu2,de2⟩:=⟨_,rfl⟩
 rw[<-hR]
 go_enter Tryz.func40,Tryz.ntmps40
 rcases hk with rfl|rfl|rfl|rfl|rfl
 ·cases hs:(nm.toList==nm2.toList)
  ·have HR:Hid (R=false):=by(show _=_;rw[hR];simp[rAgainstP,livesP,sameB, *])
   clear hR
   go_wp2_with (first
                 |(go_at_call 72;go_must(refine(rLives_any _ _ _ _ _ _ _ _ _ (by simp[kind5])).mono ?_);rintro e wq ⟨rfl,z,rfl⟩)
                 |(go_at_call 40;go_must(refine(HA1.out _).mono ?_);rintro e wq ⟨rfl,z,rfl⟩))
   go_ret
   rw[HR.out]
   exact Ret.of (bool_eq (by first|rfl|(simp[*];done))) Bw
  ·by_cases h:dy<dy2
   ·have HR:Hid (R=true):=by(show _=_;rw[hR];simp[rAgainstP,livesP,sameB, *])
    clear hR
    go_wp2_with (first
                  |(go_at_call 72;go_must(refine(rLives_any _ _ _ _ _ _ _ _ _ (by simp[kind5])).mono ?_);rintro e wq ⟨rfl,z,rfl⟩)
                  |(go_at_call 40;go_must(refine(HA1.out _).mono ?_);rintro e wq ⟨rfl,z,rfl⟩))
    go_ret
    rw[HR.out]
    exact Ret.of (bool_eq (by first|rfl|(simp[*];done))) Bw
   ·have HR:Hid (R=false):=by(show _=_;rw[hR];simp[rAgainstP,livesP,sameB, *])
    clear hR
    go_wp2_with (first
                  |(go_at_call 72;go_must(refine(rLives_any _ _ _ _ _ _ _ _ _ (by simp[kind5])).mono ?_);rintro e wq ⟨rfl,z,rfl⟩)
                  |(go_at_call 40;go_must(refine(HA1.out _).mono ?_);rintro e wq ⟨rfl,z,rfl⟩))
    go_ret
    rw[HR.out]
    exact Ret.of (bool_eq (by first|rfl|(simp[*];done))) Bw
 ·cases hs:(nm.toList==nm2.toList)
  ·have HR:Hid (R=false):=by(show _=_;rw[hR];simp[rAgainstP,livesP,sameB, *])
   clear hR
   go_wp2_with (first
                 |(go_at_call 72;go_must(refine(rLives_any _ _ _ _ _ _ _ _ _ (by simp[kind5])).mono ?_);rintro e wq ⟨rfl,z,rfl⟩)
                 |(go_at_call 40;go_must(refine(HA1.out _).mono ?_);rintro e wq ⟨rfl,z,rfl⟩))
   go_ret
   rw[HR.out]
   exact Ret.of (bool_eq (by first|rfl|(simp[*];done))) Bw
  ·by_cases h:dy=dy2
   ·have HR:Hid (R=false):=by(show _=_;rw[hR];simp[rAgainstP,livesP,sameB, *])
    clear hR
    go_wp2_with (first
                  |(go_at_call 72;go_must(refine(rLives_any _ _ _ _ _ _ _ _ _ (by simp[kind5])).mono ?_);rintro e wq ⟨rfl,z,rfl⟩)
                  |(go_at_call 40;go_must(refine(HA1.out _).mono ?_);rintro e wq ⟨rfl,z,rfl⟩))
    go_ret
    rw[HR.out]
    exact Ret.of (bool_eq (by first|rfl|(simp[*];done))) Bw
   ·have HR:Hid (R=true):=by(show _=_;rw[hR];simp[rAgainstP,livesP,sameB, *])
    clear hR
    go_wp2_with (first
                  |(go_at_call 72;go_must(refine(rLives_any _ _ _ _ _ _ _ _ _ (by simp[kind5])).mono ?_);rintro e wq ⟨rfl,z,rfl⟩)
                  |(go_at_call 40;go_must(refine(HA1.out _).mono ?_);rintro e wq ⟨rfl,z,rfl⟩))
    go_ret
    rw[HR.out]
    exact Ret.of (bool_eq (by first|rfl|(simp[*];done))) Bw
 ·have HR:Hid (R=false):=by(show _=_;rw[hR];simp[rAgainstP,livesP,sameB, *])
  clear hR
  go_wp2_with (first
                |(go_at_call 72;go_must(refine(rLives_any _ _ _ _ _ _ _ _ _ (by simp[kind5])).mono ?_);rintro e wq ⟨rfl,z,rfl⟩)
                |(go_at_call 40;go_must(refine(HA1.out _).mono ?_);rintro e wq ⟨rfl,z,rfl⟩))
  go_ret
  rw[HR.out]
  exact Ret.of (bool_eq (by first|rfl|(simp[*];done))) Bw
 ·cases hs:(nm.toList==nm2.toList)
  ·have HR:Hid (R=false):=by(show _=_;rw[hR];simp[rAgainstP,livesP,sameB, *])
   clear hR
   go_wp2_with (first
                 |(go_at_call 72;go_must(refine(rLives_any _ _ _ _ _ _ _ _ _ (by simp[kind5])).mono ?_);rintro e wq ⟨rfl,z,rfl⟩)
                 |(go_at_call 40;go_must(refine(HA1.out _).mono ?_);rintro e wq ⟨rfl,z,rfl⟩))
   go_ret
   rw[HR.out]
   exact Ret.of (bool_eq (by first|rfl|(simp[*];done))) Bw
  ·by_cases h:dy<dy2
   ·have HR:Hid (R=true):=by(show _=_;rw[hR];simp[rAgainstP,livesP,sameB, *])
    clear hR
    go_wp2_with (first
                  |(go_at_call 72;go_must(refine(rLives_any _ _ _ _ _ _ _ _ _ (by simp[kind5])).mono ?_);rintro e wq ⟨rfl,z,rfl⟩)
                  |(go_at_call 40;go_must(refine(HA1.out _).mono ?_);rintro e wq ⟨rfl,z,rfl⟩))
    go_ret
    rw[HR.out]
    exact Ret.of (bool_eq (by first|rfl|(simp[*];done))) Bw
   ·have HR:Hid (R=false):=by(show _=_;rw[hR];simp[rAgainstP,livesP,sameB, *])
    clear hR
    go_wp2_with (first
                  |(go_at_call 72;go_must(refine(rLives_any _ _ _ _ _ _ _ _ _ (by simp[kind5])).mono ?_);rintro e wq ⟨rfl,z,rfl⟩)
                  |(go_at_call 40;go_must(refine(HA1.out _).mono ?_);rintro e wq ⟨rfl,z,rfl⟩))
    go_ret
    rw[HR.out]
    exact Ret.of (bool_eq (by first|rfl|(simp[*];done))) Bw
 ·cases hs:(nm.toList==nm2.toList)
  ·have HR:Hid (R=false):=by(show _=_;rw[hR];simp[rAgainstP,livesP,sameB, *])
   clear hR
   go_wp2_with (first
                 |(go_at_call 72;go_must(refine(rLives_any _ _ _ _ _ _ _ _ _ (by simp[kind5])).mono ?_);rintro e wq ⟨rfl,z,rfl⟩)
                 |(go_at_call 40;go_must(refine(HA1.out _).mono ?_);rintro e wq ⟨rfl,z,rfl⟩))
   go_ret
   rw[HR.out]
   exact Ret.of (bool_eq (by first|rfl|(simp[*];done))) Bw
  ·by_cases h:dy<dy2
   ·have HR:Hid (R=true):=by(show _=_;rw[hR];simp[rAgainstP,livesP,sameB, *])
    clear hR
    go_wp2_with (first
                  |(go_at_call 72;go_must(refine(rLives_any _ _ _ _ _ _ _ _ _ (by simp[kind5])).mono ?_);rintro e wq ⟨rfl,z,rfl⟩)
                  |(go_at_call 40;go_must(refine(HA1.out _).mono ?_);rintro e wq ⟨rfl,z,rfl⟩))
    go_ret
    rw[HR.out]
    exact Ret.of (bool_eq (by first|rfl|(simp[*];done))) Bw
   ·have HR:Hid (R=false):=by(show _=_;rw[hR];simp[rAgainstP,livesP,sameB, *])
    clear hR
    go_wp2_with (first
                  |(go_at_call 72;go_must(refine(rLives_any _ _ _ _ _ _ _ _ _ (by simp[kind5])).mono ?_);rintro e wq ⟨rfl,z,rfl⟩)
                  |(go_at_call 40;go_must(refine(HA1.out _).mono ?_);rintro e wq ⟨rfl,z,rfl⟩))
    go_ret
    rw[HR.out]
    exact Ret.of (bool_eq (by first|rfl|(simp[*];done))) Bw
theorem against_flip (nm ot pl:ByteArray) (dy tl nu de:Int) (kd2:Int) (nm2 ot2 pl2:ByteArray) (dy2 tl2 nu2 de2:Int) (hk:kd2=0\/kd2=3\/kd2=4):
 rAgainstP ⟨kd2,nm2,ot2,pl2,dy2,tl2,nu2,de2⟩ ⟨1,nm,ot,pl,dy,tl,nu,de⟩=rAgainstP ⟨1,nm,ot,pl,dy,tl,nu,de⟩ ⟨kd2,nm2,ot2,pl2,dy2,tl2,nu2,de2⟩:=by
 unfold rAgainstP livesP
 rcases hk with rfl|rfl|rfl<;>simp
set_option maxRecDepth 100000 in
set_option maxHeartbeats 2000000 in
theorem rAgainst_any (x y:Rec) (w:World) (hx:kind5 x.kind) (hy:kind5 y.kind):Calls Tryz.prog 40 #[x.v,y.v] w (Ret w (.bool (rAgainstP x y))):=by
 obtain⟨kd,nm,ot,pl,dy,tl,nu,de⟩:=x
 obtain⟨kd2,nm2,ot2,pl2,dy2,tl2,nu2,de2⟩:=y
 simp only at hx hy
 unfold Rec.v
 simp only
 by_cases h1:kd=1
 ·subst h1
  exact rAgainst1_any _ _ _ _ _ _ _ _ _ _ _ _ _ _ _ w hy
 have hx2:kd=0\/kd=2\/kd=3\/kd=4:=by
  rcases hx with h|h|h|h|h
  ·exact .inl h
  ·exact absurd h h1
  ·exact .inr (.inl h)
  ·exact .inr (.inr (.inl h))
  ·exact .inr (.inr (.inr h))
 clear hx h1
 obtain⟨R,hR⟩: ∃R,R=rAgainstP ⟨kd,nm,ot,pl,dy,tl,nu,de⟩ ⟨kd2,nm2,ot2,pl2,dy2,tl2,nu2,de2⟩:=⟨_,rfl⟩
 rw[<-hR]
 go_enter Tryz.func40,Tryz.ntmps40
 rcases hx2 with rfl|rfl|rfl|rfl<;>rcases hy with rfl|rfl|rfl|rfl|rfl
 ·have HA1:Hid True:=trivial
  have HR:Hid (R=false):=by(show _=_;rw[hR];simp[rAgainstP,livesP,sameB, *])
  clear hR
  go_wp2_with (first
                |(go_at_call 72;go_must(refine(rLives_any _ _ _ _ _ _ _ _ _ (by simp[kind5])).mono ?_);rintro e wq ⟨rfl,z,rfl⟩)
                |(go_at_call 40;go_must(refine(HA1.out _).mono ?_);rintro e wq ⟨rfl,z,rfl⟩))
  go_ret
  rw[HR.out]
  exact Ret.of (bool_eq (by first|rfl|(simp[*];done))) Bw
 ·have HA1:Hid (∀W:World,Calls Tryz.prog 40 #[.agg #[.int .i64 1, .string nm2, .string ot2, .string pl2, .int .i64 dy2, .int .i64 tl2, .int .i64 nu2, .int .i64 de2], .agg #[.int .i64 0, .string nm, .string ot, .string pl, .int .i64 dy, .int .i64 tl, .int .i64 nu, .int .i64 de]] W (Ret W (.bool R))):=fun W=>by
   rw[hR,against_flip _ _ _ _ _ _ _ _ _ _ _ _ _ _ _ (by simp)]
   exact rAgainst1_any _ _ _ _ _ _ _ _ _ _ _ _ _ _ _ W (by simp[kind5])
  clear hR
  go_wp2_with (first
                |(go_at_call 72;go_must(refine(rLives_any _ _ _ _ _ _ _ _ _ (by simp[kind5])).mono ?_);rintro e wq ⟨rfl,z,rfl⟩)
                |(go_at_call 40;go_must(refine(HA1.out _).mono ?_);rintro e wq ⟨rfl,z,rfl⟩))
  go_ret
  exact Ret.of rfl Bw
 ·have HA1:Hid True:=trivial
  have HR:Hid (R=false):=by(show _=_;rw[hR];simp[rAgainstP,livesP,sameB, *])
  clear hR
  go_wp2_with (first
                |(go_at_call 72;go_must(refine(rLives_any _ _ _ _ _ _ _ _ _ (by simp[kind5])).mono ?_);rintro e wq ⟨rfl,z,rfl⟩)
                |(go_at_call 40;go_must(refine(HA1.out _).mono ?_);rintro e wq ⟨rfl,z,rfl⟩))
  go_ret
  rw[HR.out]
  exact Ret.of (bool_eq (by first|rfl|(simp[*];done))) Bw
 ·have HA1:Hid True:=trivial
  have HR:Hid (R=false):=by(show _=_;rw[hR];simp[rAgainstP,livesP,sameB, *])
  clear hR
  go_wp2_with (first
                |(go_at_call 72;go_must(refine(rLives_any _ _ _ _ _ _ _ _ _ (by simp[kind5])).mono ?_);rintro e wq ⟨rfl,z,rfl⟩)
                |(go_at_call 40;go_must(refine(HA1.out _).mono ?_);rintro e wq ⟨rfl,z,rfl⟩))
  go_ret
  rw[HR.out]
  exact Ret.of (bool_eq (by first|rfl|(simp[*];done))) Bw
 ·have HA1:Hid True:=trivial
  have HR:Hid (R=false):=by(show _=_;rw[hR];simp[rAgainstP,livesP,sameB, *])
  clear hR
  go_wp2_with (first
                |(go_at_call 72;go_must(refine(rLives_any _ _ _ _ _ _ _ _ _ (by simp[kind5])).mono ?_);rintro e wq ⟨rfl,z,rfl⟩)
                |(go_at_call 40;go_must(refine(HA1.out _).mono ?_);rintro e wq ⟨rfl,z,rfl⟩))
  go_ret
  rw[HR.out]
  exact Ret.of (bool_eq (by first|rfl|(simp[*];done))) Bw
 ·have HA1:Hid True:=trivial
  have HR:Hid (R=false):=by(show _=_;rw[hR];simp[rAgainstP,livesP,sameB, *])
  clear hR
  go_wp2_with (first
                |(go_at_call 72;go_must(refine(rLives_any _ _ _ _ _ _ _ _ _ (by simp[kind5])).mono ?_);rintro e wq ⟨rfl,z,rfl⟩)
                |(go_at_call 40;go_must(refine(HA1.out _).mono ?_);rintro e wq ⟨rfl,z,rfl⟩))
  go_ret
  rw[HR.out]
  exact Ret.of (bool_eq (by first|rfl|(simp[*];done))) Bw
 ·have HA1:Hid True:=trivial
  have HR:Hid (R=false):=by(show _=_;rw[hR];simp[rAgainstP,livesP,sameB, *])
  clear hR
  go_wp2_with (first
                |(go_at_call 72;go_must(refine(rLives_any _ _ _ _ _ _ _ _ _ (by simp[kind5])).mono ?_);rintro e wq ⟨rfl,z,rfl⟩)
                |(go_at_call 40;go_must(refine(HA1.out _).mono ?_);rintro e wq ⟨rfl,z,rfl⟩))
  go_ret
  rw[HR.out]
  exact Ret.of (bool_eq (by first|rfl|(simp[*];done))) Bw
 ·have HA1:Hid True:=trivial
  have HR:Hid (R=false):=by(show _=_;rw[hR];simp[rAgainstP,livesP,sameB, *])
  clear hR
  go_wp2_with (first
                |(go_at_call 72;go_must(refine(rLives_any _ _ _ _ _ _ _ _ _ (by simp[kind5])).mono ?_);rintro e wq ⟨rfl,z,rfl⟩)
                |(go_at_call 40;go_must(refine(HA1.out _).mono ?_);rintro e wq ⟨rfl,z,rfl⟩))
  go_ret
  rw[HR.out]
  exact Ret.of (bool_eq (by first|rfl|(simp[*];done))) Bw
 ·have HA1:Hid True:=trivial
  have HR:Hid (R=false):=by(show _=_;rw[hR];simp[rAgainstP,livesP,sameB, *])
  clear hR
  go_wp2_with (first
                |(go_at_call 72;go_must(refine(rLives_any _ _ _ _ _ _ _ _ _ (by simp[kind5])).mono ?_);rintro e wq ⟨rfl,z,rfl⟩)
                |(go_at_call 40;go_must(refine(HA1.out _).mono ?_);rintro e wq ⟨rfl,z,rfl⟩))
  go_ret
  rw[HR.out]
  exact Ret.of (bool_eq (by first|rfl|(simp[*];done))) Bw
 ·have HA1:Hid True:=trivial
  have HR:Hid (R=false):=by(show _=_;rw[hR];simp[rAgainstP,livesP,sameB, *])
  clear hR
  go_wp2_with (first
                |(go_at_call 72;go_must(refine(rLives_any _ _ _ _ _ _ _ _ _ (by simp[kind5])).mono ?_);rintro e wq ⟨rfl,z,rfl⟩)
                |(go_at_call 40;go_must(refine(HA1.out _).mono ?_);rintro e wq ⟨rfl,z,rfl⟩))
  go_ret
  rw[HR.out]
  exact Ret.of (bool_eq (by first|rfl|(simp[*];done))) Bw
 ·have HA1:Hid True:=trivial
  have HR:Hid (R=false):=by(show _=_;rw[hR];simp[rAgainstP,livesP,sameB, *])
  clear hR
  go_wp2_with (first
                |(go_at_call 72;go_must(refine(rLives_any _ _ _ _ _ _ _ _ _ (by simp[kind5])).mono ?_);rintro e wq ⟨rfl,z,rfl⟩)
                |(go_at_call 40;go_must(refine(HA1.out _).mono ?_);rintro e wq ⟨rfl,z,rfl⟩))
  go_ret
  rw[HR.out]
  exact Ret.of (bool_eq (by first|rfl|(simp[*];done))) Bw
 ·have HA1:Hid (∀W:World,Calls Tryz.prog 40 #[.agg #[.int .i64 1, .string nm2, .string ot2, .string pl2, .int .i64 dy2, .int .i64 tl2, .int .i64 nu2, .int .i64 de2], .agg #[.int .i64 3, .string nm, .string ot, .string pl, .int .i64 dy, .int .i64 tl, .int .i64 nu, .int .i64 de]] W (Ret W (.bool R))):=fun W=>by
   rw[hR,against_flip _ _ _ _ _ _ _ _ _ _ _ _ _ _ _ (by simp)]
   exact rAgainst1_any _ _ _ _ _ _ _ _ _ _ _ _ _ _ _ W (by simp[kind5])
  clear hR
  go_wp2_with (first
                |(go_at_call 72;go_must(refine(rLives_any _ _ _ _ _ _ _ _ _ (by simp[kind5])).mono ?_);rintro e wq ⟨rfl,z,rfl⟩)
                |(go_at_call 40;go_must(refine(HA1.out _).mono ?_);rintro e wq ⟨rfl,z,rfl⟩))
  go_ret
  exact Ret.of rfl Bw
 ·have HA1:Hid True:=trivial
  have HR:Hid (R=false):=by(show _=_;rw[hR];simp[rAgainstP,livesP,sameB, *])
  clear hR
  go_wp2_with (first
                |(go_at_call 72;go_must(refine(rLives_any _ _ _ _ _ _ _ _ _ (by simp[kind5])).mono ?_);rintro e wq ⟨rfl,z,rfl⟩)
                |(go_at_call 40;go_must(refine(HA1.out _).mono ?_);rintro e wq ⟨rfl,z,rfl⟩))
  go_ret
  rw[HR.out]
  exact Ret.of (bool_eq (by first|rfl|(simp[*];done))) Bw
 ·have HA1:Hid True:=trivial
  cases hs:(nm.toList==nm2.toList)
  ·have HR:Hid (R=false):=by(show _=_;rw[hR];simp[rAgainstP,livesP,sameB, *])
   clear hR
   go_wp2_with (first
                 |(go_at_call 72;go_must(refine(rLives_any _ _ _ _ _ _ _ _ _ (by simp[kind5])).mono ?_);rintro e wq ⟨rfl,z,rfl⟩)
                 |(go_at_call 40;go_must(refine(HA1.out _).mono ?_);rintro e wq ⟨rfl,z,rfl⟩))
   go_ret
   rw[HR.out]
   exact Ret.of (bool_eq (by first|rfl|(simp[*];done))) Bw
  ·cases hp:(pl.toList==pl2.toList)
   ·have HR:Hid (R=false):=by(show _=_;rw[hR];simp[rAgainstP,livesP,sameB, *])
    clear hR
    go_wp2_with (first
                  |(go_at_call 72;go_must(refine(rLives_any _ _ _ _ _ _ _ _ _ (by simp[kind5])).mono ?_);rintro e wq ⟨rfl,z,rfl⟩)
                  |(go_at_call 40;go_must(refine(HA1.out _).mono ?_);rintro e wq ⟨rfl,z,rfl⟩))
    go_ret
    rw[HR.out]
    exact Ret.of (bool_eq (by first|rfl|(simp[*];done))) Bw
   ·by_cases h:dy=dy2
    ·by_cases h2:nu=nu2
     ·by_cases h3:de=de2
      ·have HR:Hid (R=false):=by(show _=_;rw[hR];simp[rAgainstP,livesP,sameB, *])
       clear hR
       go_wp2_with (first
                     |(go_at_call 72;go_must(refine(rLives_any _ _ _ _ _ _ _ _ _ (by simp[kind5])).mono ?_);rintro e wq ⟨rfl,z,rfl⟩)
                     |(go_at_call 40;go_must(refine(HA1.out _).mono ?_);rintro e wq ⟨rfl,z,rfl⟩))
       go_ret
       rw[HR.out]
       exact Ret.of (bool_eq (by first|rfl|(simp[*];done))) Bw
      ·have HR:Hid (R=true):=by(show _=_;rw[hR];simp[rAgainstP,livesP,sameB, *])
       clear hR
       go_wp2_with (first
                     |(go_at_call 72;go_must(refine(rLives_any _ _ _ _ _ _ _ _ _ (by simp[kind5])).mono ?_);rintro e wq ⟨rfl,z,rfl⟩)
                     |(go_at_call 40;go_must(refine(HA1.out _).mono ?_);rintro e wq ⟨rfl,z,rfl⟩))
       go_ret
       rw[HR.out]
       exact Ret.of (bool_eq (by first|rfl|(simp[*];done))) Bw
     ·have HR:Hid (R=true):=by(show _=_;rw[hR];simp[rAgainstP,livesP,sameB, *])
      clear hR
      go_wp2_with (first
                    |(go_at_call 72;go_must(refine(rLives_any _ _ _ _ _ _ _ _ _ (by simp[kind5])).mono ?_);rintro e wq ⟨rfl,z,rfl⟩)
                    |(go_at_call 40;go_must(refine(HA1.out _).mono ?_);rintro e wq ⟨rfl,z,rfl⟩))
      go_ret
      rw[HR.out]
      exact Ret.of (bool_eq (by first|rfl|(simp[*];done))) Bw
    ·have HR:Hid (R=false):=by(show _=_;rw[hR];simp[rAgainstP,livesP,sameB, *])
     clear hR
     go_wp2_with (first
                   |(go_at_call 72;go_must(refine(rLives_any _ _ _ _ _ _ _ _ _ (by simp[kind5])).mono ?_);rintro e wq ⟨rfl,z,rfl⟩)
                   |(go_at_call 40;go_must(refine(HA1.out _).mono ?_);rintro e wq ⟨rfl,z,rfl⟩))
     go_ret
     rw[HR.out]
     exact Ret.of (bool_eq (by first|rfl|(simp[*];done))) Bw
 ·have HA1:Hid True:=trivial
  have HR:Hid (R=false):=by(show _=_;rw[hR];simp[rAgainstP,livesP,sameB, *])
  clear hR
  go_wp2_with (first
                |(go_at_call 72;go_must(refine(rLives_any _ _ _ _ _ _ _ _ _ (by simp[kind5])).mono ?_);rintro e wq ⟨rfl,z,rfl⟩)
                |(go_at_call 40;go_must(refine(HA1.out _).mono ?_);rintro e wq ⟨rfl,z,rfl⟩))
  go_ret
  rw[HR.out]
  exact Ret.of (bool_eq (by first|rfl|(simp[*];done))) Bw
 ·have HA1:Hid True:=trivial
  have HR:Hid (R=false):=by(show _=_;rw[hR];simp[rAgainstP,livesP,sameB, *])
  clear hR
  go_wp2_with (first
                |(go_at_call 72;go_must(refine(rLives_any _ _ _ _ _ _ _ _ _ (by simp[kind5])).mono ?_);rintro e wq ⟨rfl,z,rfl⟩)
                |(go_at_call 40;go_must(refine(HA1.out _).mono ?_);rintro e wq ⟨rfl,z,rfl⟩))
  go_ret
  rw[HR.out]
  exact Ret.of (bool_eq (by first|rfl|(simp[*];done))) Bw
 ·have HA1:Hid (∀W:World,Calls Tryz.prog 40 #[.agg #[.int .i64 1, .string nm2, .string ot2, .string pl2, .int .i64 dy2, .int .i64 tl2, .int .i64 nu2, .int .i64 de2], .agg #[.int .i64 4, .string nm, .string ot, .string pl, .int .i64 dy, .int .i64 tl, .int .i64 nu, .int .i64 de]] W (Ret W (.bool R))):=fun W=>by
   rw[hR,against_flip _ _ _ _ _ _ _ _ _ _ _ _ _ _ _ (by simp)]
   exact rAgainst1_any _ _ _ _ _ _ _ _ _ _ _ _ _ _ _ W (by simp[kind5])
  clear hR
  go_wp2_with (first
                |(go_at_call 72;go_must(refine(rLives_any _ _ _ _ _ _ _ _ _ (by simp[kind5])).mono ?_);rintro e wq ⟨rfl,z,rfl⟩)
                |(go_at_call 40;go_must(refine(HA1.out _).mono ?_);rintro e wq ⟨rfl,z,rfl⟩))
  go_ret
  exact Ret.of rfl Bw
 ·have HA1:Hid True:=trivial
  have HR:Hid (R=false):=by(show _=_;rw[hR];simp[rAgainstP,livesP,sameB, *])
  clear hR
  go_wp2_with (first
                |(go_at_call 72;go_must(refine(rLives_any _ _ _ _ _ _ _ _ _ (by simp[kind5])).mono ?_);rintro e wq ⟨rfl,z,rfl⟩)
                |(go_at_call 40;go_must(refine(HA1.out _).mono ?_);rintro e wq ⟨rfl,z,rfl⟩))
  go_ret
  rw[HR.out]
  exact Ret.of (bool_eq (by first|rfl|(simp[*];done))) Bw
 ·have HA1:Hid True:=trivial
  have HR:Hid (R=false):=by(show _=_;rw[hR];simp[rAgainstP,livesP,sameB, *])
  clear hR
  go_wp2_with (first
                |(go_at_call 72;go_must(refine(rLives_any _ _ _ _ _ _ _ _ _ (by simp[kind5])).mono ?_);rintro e wq ⟨rfl,z,rfl⟩)
                |(go_at_call 40;go_must(refine(HA1.out _).mono ?_);rintro e wq ⟨rfl,z,rfl⟩))
  go_ret
  rw[HR.out]
  exact Ret.of (bool_eq (by first|rfl|(simp[*];done))) Bw
 ·have HA1:Hid True:=trivial
  cases hp:(pl.toList==pl2.toList)
  ·have HR:Hid (R=false):=by(show _=_;rw[hR];simp[rAgainstP,livesP,sameB, *])
   clear hR
   go_wp2_with (first
                 |(go_at_call 72;go_must(refine(rLives_any _ _ _ _ _ _ _ _ _ (by simp[kind5])).mono ?_);rintro e wq ⟨rfl,z,rfl⟩)
                 |(go_at_call 40;go_must(refine(HA1.out _).mono ?_);rintro e wq ⟨rfl,z,rfl⟩))
   go_ret
   rw[HR.out]
   exact Ret.of (bool_eq (by first|rfl|(simp[*];done))) Bw
  ·cases hs:(nm.toList==nm2.toList)
   ·by_cases h:dy<tl2
    ·by_cases h2:dy2<tl
     ·have HR:Hid (R=true):=by(show _=_;rw[hR];simp[rAgainstP,livesP,sameB, *])
      clear hR
      go_wp2_with (first
                    |(go_at_call 72;go_must(refine(rLives_any _ _ _ _ _ _ _ _ _ (by simp[kind5])).mono ?_);rintro e wq ⟨rfl,z,rfl⟩)
                    |(go_at_call 40;go_must(refine(HA1.out _).mono ?_);rintro e wq ⟨rfl,z,rfl⟩))
      go_ret
      rw[HR.out]
      exact Ret.of (bool_eq (by first|rfl|(simp[*];done))) Bw
     ·have HR:Hid (R=false):=by(show _=_;rw[hR];simp[rAgainstP,livesP,sameB, *])
      clear hR
      go_wp2_with (first
                    |(go_at_call 72;go_must(refine(rLives_any _ _ _ _ _ _ _ _ _ (by simp[kind5])).mono ?_);rintro e wq ⟨rfl,z,rfl⟩)
                    |(go_at_call 40;go_must(refine(HA1.out _).mono ?_);rintro e wq ⟨rfl,z,rfl⟩))
      go_ret
      rw[HR.out]
      exact Ret.of (bool_eq (by first|rfl|(simp[*];done))) Bw
    ·have HR:Hid (R=false):=by(show _=_;rw[hR];simp[rAgainstP,livesP,sameB, *])
     clear hR
     go_wp2_with (first
                   |(go_at_call 72;go_must(refine(rLives_any _ _ _ _ _ _ _ _ _ (by simp[kind5])).mono ?_);rintro e wq ⟨rfl,z,rfl⟩)
                   |(go_at_call 40;go_must(refine(HA1.out _).mono ?_);rintro e wq ⟨rfl,z,rfl⟩))
     go_ret
     rw[HR.out]
     exact Ret.of (bool_eq (by first|rfl|(simp[*];done))) Bw
   ·have HR:Hid (R=false):=by(show _=_;rw[hR];simp[rAgainstP,livesP,sameB, *])
    clear hR
    go_wp2_with (first
                  |(go_at_call 72;go_must(refine(rLives_any _ _ _ _ _ _ _ _ _ (by simp[kind5])).mono ?_);rintro e wq ⟨rfl,z,rfl⟩)
                  |(go_at_call 40;go_must(refine(HA1.out _).mono ?_);rintro e wq ⟨rfl,z,rfl⟩))
    go_ret
    rw[HR.out]
    exact Ret.of (bool_eq (by first|rfl|(simp[*];done))) Bw
end Go.Proofs.YtkhkhnellekofaaGreatDoor
namespace Go.Proofs.YtkhkhnellekofaaGreatDoor
open Go.RowKit Go.Shelf
attribute [local go_sem] World.cell?_alloc_mark ext_size ext_cell ext_frozen lt_add_r lt_add_r2 lt_add_r3 lt_add_r4 lt_add_r5 lt_add_r6 lt_add_r7 lt_add_r8
attribute [local go_sem] ext_setCell alloc_setCell_lt
theorem rec_gcd {x:Rec} (h:checkRecP x=0) (hk:x.kind=3):Int.gcd x.num x.den=1:=by
 unfold checkRecP at h
 by_cases hc:(x.kind==3&&(!inR x.den 1 12||!inR x.num 1 x.den||Int.gcd x.num x.den != 1))=true
 ·exfalso
  rw[if_pos hc]at h
  repeat(split at h;·simp at h)
  simp at h
 ·simp only[hk,Bool.and_eq_true,beq_self_eq_true,Bool.or_eq_true,Bool.not_eq_true',true_and,not_or,Bool.not_eq_false]at hc
  simpa using hc.2
theorem share_frac {x:Rec} (h:checkRecP x=0) (hk:x.kind=3):fracV (Rat.divInt x.num x.den)= .agg #[.int .i64 x.num, .int .i64 x.den]/\small5 (Rat.divInt x.num x.den):=by
 have h1:=share_ok h hk
 have hg:=rec_gcd h hk
 have hd:0<x.den:=by have:=h1.d1;omega
 have e1:=divInt_num (a:=x.num) (b:=x.den) hd
 have e2:=divInt_den (a:=x.num) (b:=x.den) hd
 rw[hg]at e1 e2
 simp at e1 e2
 have:=h1.d2
 have:=h1.n1
 have:=h1.n2
 refine⟨by unfold fracV;rw[e1,e2],?_⟩
 unfold small5
 rw[e1]
 exact⟨by omega,by omega⟩
def NoMore (l:List Rec) (x:Rec):Prop:=x.kind=3->sumS (spotR x) l<=1
theorem no_more_end {l:List Rec} (h: ∀x∈l,NoMore l x): ¬TooMuch l:=fun⟨p,d,hc⟩=>by
 have key: ∀m seen,(∀x∈m,x.kind=3-> ¬(x.place=p/\x.day=d))->sumGo p d m seen=0:=by
  intro m
  induction m with
  |nil=>intro seen _;rfl
  |cons y m ih=>
   intro seen hm
   rw[sumGo,if_neg]
   ·exact ih seen fun x hx=>hm x (by simp[hx])
   ·intro hcc
    have:=counted_iff.1 hcc
    exact hm y (by simp) this.1 ⟨this.2.1,this.2.2.1⟩
 by_cases hx: ∃x∈l,x.kind=3/\x.place=p/\x.day=d
 ·obtain⟨x,hx,h1,h2,h3⟩:=hx
  have:=h x hx h1
  unfold sumS spotR at this
  rw[h2,h3]at this
  grind
 ·have:=key l [] (fun x hx' h1 h2=>hx ⟨x,hx',h1,h2⟩)
  rw[this]at hc
  exact absurd hc (by decide)
theorem more_found {l:List Rec} {x:Rec} (h:1<sumS (spotR x) l):TooMuch l:=⟨x.place,x.day,h⟩
structure AddUp (l:List Rec) (s:Spot) (n:Nat) (q:Rat) (names:List ByteArray):Prop where
 sum:q=sumS s (l.take n)
 unit:SumUnit q n
 told: ∀m,m∈names↔m∈toldS s (l.take n)
 few:names.length<=n
theorem up_start (l:List Rec) (s:Spot):AddUp l s 0 0 []:=⟨by rw[List.take_zero];rfl,unit_zero,fun m=>by rw[List.take_zero];exact Iff.rfl,Nat.le_refl _⟩
theorem up_skip {l:List Rec} {s:Spot} {n:Nat} {q:Rat} {names:List ByteArray} (h:AddUp l s n q names) (hn:n<l.length) (hc: ¬(l[n].kind=3/\s=spotR l[n])\/l[n].name∈names):AddUp l s (n+1) q names:=by
 have ht:l.take (n+1)=l.take n++[l[n]]:=List.take_succ_eq_append_getElem hn
 rcases hc with hc|hc
 ·by_cases hk:l[n].kind=3
  ·have hs:s≠spotR l[n]:=fun e=>hc ⟨hk,e⟩
   exact⟨by rw[ht,sum_other hs];exact h.sum,unit_keep h.unit,fun m=>by rw[ht,told_other hs];exact h.told m,Nat.le_succ_of_le h.few⟩
  ·exact⟨by rw[ht,sum_skip hk];exact h.sum,unit_keep h.unit,fun m=>by rw[ht,told_skip hk];exact h.told m,Nat.le_succ_of_le h.few⟩
 ·by_cases hk:l[n].kind=3
  ·by_cases hs:s=spotR l[n]
   ·have hin:=(h.told _).1 hc
    rw[hs]at hin
    exact⟨by rw[ht,sum_old hin];exact h.sum,unit_keep h.unit,fun m=>by rw[ht,told_old (.inr hin)];exact h.told m,Nat.le_succ_of_le h.few⟩
   ·exact⟨by rw[ht,sum_other hs];exact h.sum,unit_keep h.unit,fun m=>by rw[ht,told_other hs];exact h.told m,Nat.le_succ_of_le h.few⟩
  ·exact⟨by rw[ht,sum_skip hk];exact h.sum,unit_keep h.unit,fun m=>by rw[ht,told_skip hk];exact h.told m,Nat.le_succ_of_le h.few⟩
theorem up_add {l:List Rec} {s:Spot} {n:Nat} {q:Rat} {names:List ByteArray} (h:AddUp l s n q names) (hn:n<l.length) (hk:l[n].kind=3) (hs:s=spotR l[n]) (hno:l[n].name∉names) (hx:ShareOk l[n]):
 AddUp l s (n+1) (q+Rat.divInt l[n].num l[n].den) (names++[l[n].name]):=by
 have ht:l.take (n+1)=l.take n++[l[n]]:=List.take_succ_eq_append_getElem hn
 have hnt:l[n].name∉toldS (spotR l[n]) (l.take n):=fun hc=>hno ((h.told _).2 (by rw[hs];exact hc))
 refine⟨?_,unit_add h.unit hx,fun m=> ?_,by simp;exact h.few⟩
 ·rw[ht,hs,sum_put hk hnt,<-hs,<-h.sum]
 ·rw[ht,hs,told_put hk,List.mem_append,List.mem_append,<-hs,h.told m]
def SumAt (W:World) (S:Nat) (q:Rat):Prop:=W.heap[S]?=some (.cells #[.int .i64 q.num, .int .i64 q.den] 39)
theorem SumAt.keepB {W W':World} {S:Nat} {q:Rat} (h:SumAt W S q) (hB:Below W.heap.size W W'):SumAt W' S q:=(hB.block S (blk_lt h)).trans h
open Classical in
set_option maxRecDepth 100000 in
set_option maxHeartbeats 2000000 in
theorem rMore_any (l:List Rec) (A:Option Addr) (c:Nat) (w:World) (hc:l.length<=c) (hl:l.length<=1000) (hok: ∀x∈l,checkRecP x=0) (hS:Sl w 8 Rec.cells A l):
 Calls Tryz.prog 42 #[.slice A l.length c] w (Ret w (.bool (decide (TooMuch l)))):=by
 have HS:=Lib.hid hS
 have HOK:=Lib.hid hok
 clear hS hok
 obtain⟨R,hR⟩: ∃R,R=decide (TooMuch l):=⟨_,rfl⟩
 rw[<-hR]
 have HR:=Lib.hid hR
 clear hR
 go_enter Tryz.func42,Tryz.ntmps42
 go_wp2_with fail
 go_loopw [3] (fun i wr=> ∃k:Nat,k<=l.length/\i= .int .i64 k/\Hid (∀(j:Nat) x,j<k->l[j]?=some x->NoMore l x)/\Below w.heap.size w wr) (fun i _=>l.length-(intOf i).toNat)
 case atStart=>exact⟨0,Nat.zero_le _,rfl,fun j x hj=>absurd hj (Nat.not_lt_zero j),Below.refl _ _⟩
 case round=>
  obtain⟨k,hk,rfl,HNR,hB⟩:=hrel
  have hbs:=hB.size
  by_cases hlt:k<l.length
  ·obtain⟨b,off,hA,hb,hcc⟩:=(HS.out.keep hB).at hlt
   have hxk:=List.getElem?_eq_getElem hlt
   obtain⟨x,hx⟩: ∃x,x=l[k]:=⟨_,rfl⟩
   rw[<-hx]at hcc hxk
   have i0:wr.cell? ⟨b,off+k*8,none⟩=some (.int .i64 x.kind):=hcc 0 _ rfl
   have i3:wr.cell? ⟨b,off+k*8+3,none⟩=some (.string x.place):=hcc 3 _ rfl
   have i4:wr.cell? ⟨b,off+k*8+4,none⟩=some (.int .i64 x.day):=hcc 4 _ rfl
   have hki:(k:Int)<(l.length:Int):=by omega
   have hk0:(0:Int)<=(k:Int):=by omega
   have hkc:(k:Int)<=(c:Int):=by omega
   have HB:=Lib.hid hB
   have HLT:=Lib.hid hlt
   have HXK:=Lib.hid hxk
   subst hA
   clear hcc hx hxk hB
   by_cases hkd:x.kind=3
   ·have HKD:=Lib.hid hkd
    rw[hkd]at i0
    clear hkd
    obtain⟨W1,rfl⟩: ∃W,W=wr:=⟨_,rfl⟩
    have HUP:Hid (AddUp l (spotR x) 0 0 []):=up_start l (spotR x)
    go_upto_region 8 with(go_at_call 54;go_must(refine(rZero_any _).mono ?_);rintro e wq ⟨rfl,z,rfl⟩)
    have hsz:(W1.ext z).heap.size=W1.heap.size+z.os.size:=ext_size W1 z
    have HSA0:Hid (SumAt ((W1.ext z).alloc (.cells #[.int .i64 0, .int .i64 1] 39)) (W1.ext z).heap.size 0):=J_new _ _ _ rfl
    have HB0:Hid (Below W1.heap.size W1 ((W1.ext z).alloc (.cells #[.int .i64 0, .int .i64 1] 39))):=B_alloc (B_ext (Below.refl _ _) z) _
    obtain⟨S,hS⟩: ∃S,S=W1.heap.size+z.os.size:=⟨_,rfl⟩
    rw[hsz,<-hS]at HSA0
    rw[<-hS]
    have hSW:W1.heap.size<=S:=by omega
    have HB00:=Lib.hid HB0.out
    generalize((W1.ext z).alloc (.cells #[.int .i64 0, .int .i64 1] 39))=W2 at*
    clear hS hsz
    go_loopw [5,6] (fun v i wn=> ∃(q:Rat) (names:List ByteArray) (n:Nat),SumAt wn S q/\OwnS wn W1.heap.size 9 1 sC v names/\n<=l.length/\i= .int .i64 n/\Hid (AddUp l (spotR x) n q names)/\Below W1.heap.size W1 wn) (fun _ i _=>l.length-(intOf i).toNat)
    case atStart=>exact⟨0,[],0,HSA0.out,OwnS.nil,Nat.zero_le _,rfl,HUP.out,HB0.out⟩
    case round=>
     obtain⟨q,names,n,hsa,hown,hn,rfl,HAU,hB1⟩:=hrel
     obtain⟨wn,rfl⟩: ∃W,W=wr:=⟨_,rfl⟩
     have hfew:=HAU.out.few
     obtain⟨QA,qc,rfl,hQS,hqc⟩:=hown.sl sC_len
     have HSA:=Lib.hid hsa
     have HO3:=Lib.hid hown
     have HB3:=Lib.hid hB1
     have hSl:S<wn.heap.size:=blk_lt hsa
     have xp:wn.cell? ⟨b,off+k*8+3,none⟩=some (.string x.place):=(hB1.cell (p:=⟨b,_,none⟩) hb).trans i3
     have xd:wn.cell? ⟨b,off+k*8+4,none⟩=some (.int .i64 x.day):=(hB1.cell (p:=⟨b,_,none⟩) hb).trans i4
     by_cases hnl:n<l.length
     ·obtain⟨b9,off9,hA9,hb9,hcc⟩:=(HS.out.keep (HB.out.trans (hB1.mono hbs))).at hnl
      simp only[Option.some.injEq,Addr.mk.injEq,and_true]at hA9
      obtain⟨rfl,rfl⟩:=hA9
      have hyo:=HOK.out _ (List.getElem_mem hnl)
      obtain⟨y,hy⟩: ∃y,y=l[n]'hnl:=⟨_,rfl⟩
      rw[<-hy]at hcc hyo
      have HY:=Lib.hid hy
      have HYO:=Lib.hid hyo
      have y0:wn.cell? ⟨b,off+n*8,none⟩=some (.int .i64 y.kind):=hcc 0 _ rfl
      have y1:wn.cell? ⟨b,off+n*8+1,none⟩=some (.string y.name):=hcc 1 _ rfl
      have y3:wn.cell? ⟨b,off+n*8+3,none⟩=some (.string y.place):=hcc 3 _ rfl
      have y4:wn.cell? ⟨b,off+n*8+4,none⟩=some (.int .i64 y.day):=hcc 4 _ rfl
      have y6:wn.cell? ⟨b,off+n*8+6,none⟩=some (.int .i64 y.num):=hcc 6 _ rfl
      have y7:wn.cell? ⟨b,off+n*8+7,none⟩=some (.int .i64 y.den):=hcc 7 _ rfl
      have hni:(n:Int)<(l.length:Int):=by omega
      have hn0:(0:Int)<=(n:Int):=by omega
      have HNL:=Lib.hid hnl
      have HHT:=Lib.hid (fun W (hW:Below wn.heap.size wn W)=>hasText_any names y.name QA qc W (by omega) hqc (hQS.keep hW))
      clear hcc hy hQS hown hB1 hsa hyo
      by_cases hyk:y.kind=3
      ·rw[hyk]at y0
       cases hye:(y.place.toList==x.place.toList)
       ·have HSK:Hid (AddUp l (spotR x) (n+1) q names):=up_skip HAU.out hnl (.inl fun h=>by
         have e:=congrArg Prod.fst h.2
         rw[<-HY.out]at e
         simp only[spotR]at e
         rw[<-e]at hye
         simp at hye)
        go_wp2_with fail
        (refine wp_region_ext_lit (by kernel_rfl) (by kernel_rfl) ?_
         repeat(first|go_big_quiet_skip|(go_big_quiet_want;go_big_quiet_op;first|go_big_quiet_on|(apply Exists.intro;refine⟨fun _=> ?_,?_⟩;(fail);go_big_quiet_on)))
         refine wpQuiet_nil ?_
         rintro _ ⟨zq,rfl⟩)
        go_wp2_with fail
        go_round
        case rel=>exact⟨q,names,n+1,HSA.out.keepB Bw,HO3.out.keep (n:=wn.heap.size) Bw,HNL.out,by go_num,HSK.out,HB3.out.trans (Below.mono (B:=wn.heap.size) Bw HB3.out.size)⟩
        case measure=>have:=HNL.out;simp only[intOf];omega
       ·by_cases hyd:y.day=x.day
        ·have hsp:spotR x=spotR (l[n]'hnl):=by
          rw[<-HY.out]
          exact Prod.ext (same_iff.1 hye).symm hyd.symm
         rw[hyd]at y4
         cases hin:names.any (sameB y.name)
         ·have hno:(l[n]'hnl).name∉names:=fun h=>by rw[<-HY.out]at h;rw[any_same.2 h]at hin;cases hin
          have HAD:Hid (AddUp l (spotR x) (n+1) (q+Rat.divInt y.num y.den) (names++[y.name])):=by
           have:=up_add HAU.out hnl (by rw[<-HY.out];exact hyk) hsp hno (share_ok (by rw[<-HY.out];exact HYO.out) (by rw[<-HY.out];exact hyk))
           rw[<-HY.out]at this
           exact this
          rw[hin]at HHT
          have hus:=unit_small HAU.out.unit (by omega)
          have hsf:=share_frac HYO.out hyk
          have HADD:=Lib.hid (fun W=>rAdd_any q (Rat.divInt y.num y.den) W ⟨hus.1,hus.2.1⟩ hsf.2)
          rw[hsf.1]at HADD
          unfold fracV at HADD
          clear hno hin hus hsf hsp
          go_wp2_with fail
          (refine wp_region_ext_lit (by kernel_rfl) (by kernel_rfl) ?_
           repeat(first|go_big_quiet_skip|(go_big_quiet_want;go_big_quiet_op;first|go_big_quiet_on|(apply Exists.intro;refine⟨fun _=> ?_,?_⟩;(go_at_call 73;exact quietx0 (HHT.out _ Bw));go_big_quiet_on)))
           refine wpQuiet_nil ?_
           rintro _ ⟨zq,rfl⟩)
          have HO4:=Lib.hid (HO3.out.keep (below_ext wn zq))
          have HB4:=Lib.hid (HB3.out.trans ((below_ext wn zq).mono HB3.out.size))
          have HSA4:=Lib.hid (HSA.out.keepB (below_ext wn zq))
          have v1:(wn.ext zq).cell? ⟨b,off+n*8+1,none⟩=some (.string y.name):=(ext_cell wn zq b _ hb9).trans y1
          have v6:(wn.ext zq).cell? ⟨b,off+n*8+6,none⟩=some (.int .i64 y.num):=(ext_cell wn zq b _ hb9).trans y6
          have v7:(wn.ext zq).cell? ⟨b,off+n*8+7,none⟩=some (.int .i64 y.den):=(ext_cell wn zq b _ hb9).trans y7
          have hb9':b<(wn.ext zq).heap.size:=Nat.lt_of_lt_of_le hb9 (below_ext wn zq).size
          have hb91:b<W1.heap.size:=hb
          clear y0 y1 y3 y4 y6 y7 hb9 xp xd
          generalize wn.ext zq=W5 at*
          have hbw5:=HB4.out.size
          go_upto_region 12 with
           (at_builtin
            go_loud(refine wpList_append_S (v:= .slice QA names.length qc) (n:=names.length) (m:=1) rfl _ _ rfl elStr5 sC_len sC_one rfl (xs:=names) (ys:=[y.name]) (HO4.out.keep (n:=W5.heap.size) Bw) rfl rfl rfl (sl_one (J_new _ _ _ rfl)) (by simp[maxLen];omega) (by omega) (by simp;omega) ?_)
            intro v3 w3 h1 h2 h3)
          have hb3:Below W1.heap.size W1 w3:=Below.grown (B:=W1.heap.size) (a:=W1) (HB4.out.trans (Below.mono (B:=W5.heap.size) Bw HB4.out.size)) h2 (by simp;omega) (fun j hj=>(HO4.out.ge j hj).1)
          have hne3:blkOf (.slice QA names.length qc)≠some S:=fun e=>by
           obtain⟨cur,hcur⟩:=own_str HO4.out e
           have:=HSA4.out
           unfold SumAt at this
           rw[hcur]at this
           simp at this
          have hs3:SumAt w3 S q:=(h2.block S (by have:=blk_lt HSA4.out;simp;omega) (fun e=>hne3 e.symm)).trans (J_alloc HSA4.out)
          have hbb: ∀o,w3.cell? ⟨b,o,none⟩=W5.cell? ⟨b,o,none⟩:=fun o=>(hb3.cell (p:=⟨b,o,none⟩) hb91).trans (HB4.out.cell (p:=⟨b,o,none⟩) hb91).symm
          have u6:=(hbb _).trans v6
          have u7:=(hbb _).trans v7
          have s0:w3.cell? ⟨S,0,none⟩=some (.int .i64 q.num):=by unfold SumAt at hs3;simp only[World.cell?,hs3];rfl
          have s1:w3.cell? ⟨S,1,none⟩=some (.int .i64 q.den):=by unfold SumAt at hs3;simp only[World.cell?,hs3];rfl
          have hfz: ∀j,w3.frozen? ⟨S,j,none⟩=false:=fun j=>by unfold SumAt at hs3;simp[World.frozen?,hs3]
          have hsl3:S<w3.heap.size:=blk_lt hs3
          have hb93:b<w3.heap.size:=Nat.lt_of_lt_of_le hb91 hb3.size
          have H1:=Lib.hid h1
          have HB5:=Lib.hid hb3
          have HS3:=Lib.hid hs3
          clear h1 h2 h3 hb3 hne3 hs3 hbb v1 v6 v7
          (refine wp_region_quiet_tail 7 (by kernel_rfl) (by kernel_rfl) ?_
           simp only[List.take_succ_cons,List.take_zero,List.drop_succ_cons,List.drop_zero]
           repeat(first|go_big_quiet_skip|(go_big_quiet_want;go_big_quiet_op;first|go_big_quiet_on|(apply Exists.intro;refine⟨fun _=> ?_,?_⟩;(go_at_call 74;exact quietx (HADD.out _));go_big_quiet_on)))
           refine wpQuiet_nil ?_
           rintro _ ⟨zq,rfl⟩)
          have HSE:=Lib.hid (J_ext (z:=zq) HS3.out)
          have HOE:=Lib.hid (H1.out.keep (below_ext w3 zq))
          have HBE:=Lib.hid (HB5.out.trans ((below_ext w3 zq).mono HB5.out.size))
          have t0:=(ext_cell w3 zq S 0 hsl3).trans s0
          have t1:=(ext_cell w3 zq S 1 hsl3).trans s1
          have tf: ∀j,(w3.ext zq).frozen? ⟨S,j,none⟩=false:=fun j=>(ext_frozen w3 zq S j hsl3).trans (hfz j)
          have hsl4:S<(w3.ext zq).heap.size:=Nat.lt_of_lt_of_le hsl3 (below_ext w3 zq).size
          clear s0 s1 hfz hsl3 u6 u7 hb93
          generalize w3.ext zq=W7 at*
          have HFIN:Hid (SumAt ((W7.setCell ⟨S,0,none⟩ (.int .i64 (q+Rat.divInt y.num y.den).num)).setCell ⟨S,1,none⟩ (.int .i64 (q+Rat.divInt y.num y.den).den)) S (q+Rat.divInt y.num y.den)/\OwnS ((W7.setCell ⟨S,0,none⟩ (.int .i64 (q+Rat.divInt y.num y.den).num)).setCell ⟨S,1,none⟩ (.int .i64 (q+Rat.divInt y.num y.den).den)) W1.heap.size 9 1 sC v3 (names++[y.name])/\Below W1.heap.size W1 ((W7.setCell ⟨S,0,none⟩ (.int .i64 (q+Rat.divInt y.num y.den).num)).setCell ⟨S,1,none⟩ (.int .i64 (q+Rat.divInt y.num y.den).den))):=
           ⟨J_set2 HSE.out,HOE.out.kept (grown_trans (grown_set _ _ _ _) (grown_set _ _ _ _)) HSE.out (by decide),B_set (B_set HBE.out hSW _) hSW _⟩
          go_wp2_with fail
          go_round
          case rel=>exact⟨_,_,n+1,HFIN.out.1,HFIN.out.2.1,HNL.out,by go_num,HAD.out,HFIN.out.2.2⟩
          case measure=>have:=HNL.out;simp only[intOf];omega
         ·have hno:(l[n]'hnl).name∈names:=by rw[<-HY.out];exact any_same.1 hin
          have HSK:Hid (AddUp l (spotR x) (n+1) q names):=up_skip HAU.out hnl (.inr hno)
          rw[hin]at HHT
          clear hno hin hsp
          go_wp2_with fail
          (refine wp_region_ext_lit (by kernel_rfl) (by kernel_rfl) ?_
           repeat(first|go_big_quiet_skip|(go_big_quiet_want;go_big_quiet_op;first|go_big_quiet_on|(apply Exists.intro;refine⟨fun _=> ?_,?_⟩;(go_at_call 73;exact quietx0 (HHT.out _ Bw));go_big_quiet_on)))
           refine wpQuiet_nil ?_
           rintro _ ⟨zq,rfl⟩)
          go_wp2_with fail
          go_round
          case rel=>exact⟨q,names,n+1,HSA.out.keepB Bw,HO3.out.keep (n:=wn.heap.size) Bw,HNL.out,by go_num,HSK.out,HB3.out.trans (Below.mono (B:=wn.heap.size) Bw HB3.out.size)⟩
          case measure=>have:=HNL.out;simp only[intOf];omega
        ·have HSK:Hid (AddUp l (spotR x) (n+1) q names):=up_skip HAU.out hnl (.inl fun h=>by
          have e:=congrArg Prod.snd h.2
          rw[<-HY.out]at e
          exact hyd e.symm)
         have hyd2:(y.day==x.day)=false:=by simpa using hyd
         go_wp2_with fail
         (refine wp_region_ext_lit (by kernel_rfl) (by kernel_rfl) ?_
          repeat(first|go_big_quiet_skip|(go_big_quiet_want;go_big_quiet_op;first|go_big_quiet_on|(apply Exists.intro;refine⟨fun _=> ?_,?_⟩;(fail);go_big_quiet_on)))
          refine wpQuiet_nil ?_
          rintro _ ⟨zq,rfl⟩)
         go_wp2_with fail
         go_round
         case rel=>exact⟨q,names,n+1,HSA.out.keepB Bw,HO3.out.keep (n:=wn.heap.size) Bw,HNL.out,by go_num,HSK.out,HB3.out.trans (Below.mono (B:=wn.heap.size) Bw HB3.out.size)⟩
         case measure=>have:=HNL.out;simp only[intOf];omega
      ·have HSK:Hid (AddUp l (spotR x) (n+1) q names):=up_skip HAU.out hnl (.inl fun h=>hyk (by rw[HY.out];exact h.1))
       have hyk2:(y.kind==3)=false:=by simpa using hyk
       go_wp2_with fail
       (refine wp_region_ext_lit (by kernel_rfl) (by kernel_rfl) ?_
        repeat(first|go_big_quiet_skip|(go_big_quiet_want;go_big_quiet_op;first|go_big_quiet_on|(apply Exists.intro;refine⟨fun _=> ?_,?_⟩;(fail);go_big_quiet_on)))
        refine wpQuiet_nil ?_
        rintro _ ⟨zq,rfl⟩)
       go_wp2_with fail
       go_round
       case rel=>exact⟨q,names,n+1,HSA.out.keepB Bw,HO3.out.keep (n:=wn.heap.size) Bw,HNL.out,by go_num,HSK.out,HB3.out.trans (Below.mono (B:=wn.heap.size) Bw HB3.out.size)⟩
       case measure=>have:=HNL.out;simp only[intOf];omega
     ·have hnn:n=l.length:=by omega
      have hsum:=HAU.out.sum
      rw[hnn,List.take_length]at hsum
      have hni: ¬(n:Int)<(l.length:Int):=by omega
      have s0:wn.cell? ⟨S,0,none⟩=some (.int .i64 q.num):=by have:=HSA.out;unfold SumAt at this;simp only[World.cell?,this];rfl
      have s1:wn.cell? ⟨S,1,none⟩=some (.int .i64 q.den):=by have:=HSA.out;unfold SumAt at this;simp only[World.cell?,this];rfl
      have hol:=one_lt (q:=q)
      have HSUM:=Lib.hid hsum
      clear hnn hQS hown hB1 hsa hsum
      by_cases hq:(q.den:Int)<q.num
      ·have hcx:TooMuch l:=more_found (by rw[<-HSUM.out];exact hol.2 hq)
       have HRF:Hid (R=true):=by show _=_;rw[HR.out];exact decide_eq_true hcx
       have HBE:=Lib.hid (HB.out.trans (HB3.out.mono hbs))
       clear hcx hol
       go_wp2_with fail
       go_ret
       exact Ret.of (bool_eq HRF.out.symm) (HBE.out.trans (Below.mono Bw HBE.out.size))
      ·have HNM:Hid (NoMore l x):=fun _=>by
        rw[<-HSUM.out]
        have: ¬(1:Rat)<q:=fun h=>hq (hol.1 h)
        grind
       clear hol
       go_wp2_with fail
       go_round
       case rel=>
        exact⟨k+1,HLT.out,by go_num,fun j y hj hy=>by
         by_cases e:j=k
         ·subst e
          rw[HXK.out]at hy
          rw[<-Option.some.inj hy]
          exact HNM.out
         ·exact HNR.out j y (by omega) hy,HB.out.trans (HB3.out.mono hbs)⟩
       case measure=>have:=HLT.out;simp only[intOf];omega
   ·go_wp2_with fail
    go_round
    case rel=>
     exact⟨k+1,HLT.out,by go_num,fun j y hj hy=>by
      by_cases e:j=k
      ·subst e
       rw[HXK.out]at hy
       rw[<-Option.some.inj hy]
       exact fun h=>absurd h hkd
      ·exact HNR.out j y (by omega) hy,HB.out.trans (Below.mono Bw HB.out.size)⟩
    case measure=>have:=HLT.out;simp only[intOf];omega
  ·have hno: ¬TooMuch l:=no_more_end fun x hx=>by
    obtain⟨j,hj,e⟩:=List.mem_iff_getElem.1 hx
    exact HNR.out j x (by omega) (by rw[List.getElem?_eq_getElem hj,e])
   have HRF:Hid (R=false):=by show _=_;rw[HR.out];exact decide_eq_false hno
   have hki: ¬(k:Int)<(l.length:Int):=by omega
   have HB:=Lib.hid hB
   clear hno hB
   go_wp2_with fail
   go_ret
   exact Ret.of (bool_eq HRF.out.symm) (HB.out.trans (Below.mono Bw HB.out.size))
theorem kind5_of {x:Rec} (h:checkRecP x=0):kind5 x.kind:=rec_kind5 h
open Classical in
set_option maxRecDepth 100000 in
set_option maxHeartbeats 2000000 in
theorem rContradicts_any (l:List Rec) (A:Option Addr) (c:Nat) (w:World) (hc:l.length<=c) (hl:l.length<=1000) (hok: ∀x∈l,checkRecP x=0) (hS:Sl w 8 Rec.cells A l):
 Calls Tryz.prog 11 #[.slice A l.length c] w (Ret w (.bool (contraP l))):=by
 have HS:=Lib.hid hS
 have HOK:=Lib.hid hok
 have HCI:=Lib.hid (fun W (hW:Below w.heap.size w W)=>rCircle_any l A c W hc hl (hS.keep hW))
 have HMO:=Lib.hid (fun W (hW:Below w.heap.size w W)=>rMore_any l A c W hc hl hok (hS.keep hW))
 clear hS hok
 obtain⟨R,hR⟩: ∃R,R=contraP l:=⟨_,rfl⟩
 rw[<-hR]
 unfold contraP at hR
 have hp0:pairP l=pairAt (l.take 0) (l.drop 0):=by rw[List.take_zero,List.drop_zero,pairAt_eq];simp
 generalize decide (Circle l)=ci at*
 generalize decide (TooMuch l)=tm at*
 generalize pairP l=R0 at*
 have HP:=Lib.hid hp0
 have HR:=Lib.hid hR
 clear hp0 hR
 go_enter Tryz.func11,Tryz.ntmps11
 go_wp2_with fail
 go_loopw [3] (fun i wr=> ∃k:Nat,k<=l.length/\i= .int .i64 k/\Hid (R0=pairAt (l.take k) (l.drop k))/\Below w.heap.size w wr) (fun i _=>l.length-(intOf i).toNat)
 case atStart=>exact⟨0,Nat.zero_le _,rfl,HP.out,Below.refl _ _⟩
 case round=>
  obtain⟨k,hk,rfl,HX,hB⟩:=hrel
  obtain⟨W1,rfl⟩: ∃W,W=wr:=⟨_,rfl⟩
  have hbs:=hB.size
  by_cases hlt:k<l.length
  ·obtain⟨b,off,hA,hb,hcc⟩:=(HS.out.keep hB).at hlt
   have hx:=HX.out
   rw[List.drop_eq_getElem_cons hlt,pairAt,<-List.take_succ_eq_append_getElem hlt]at hx
   have hxo:=HOK.out _ (List.getElem_mem hlt)
   have HX2:=Lib.hid hx
   have HLT:=Lib.hid hlt
   generalize l[k]=x at*
   have HXO:=Lib.hid hxo
   obtain⟨A0,hA0⟩: ∃A0,A0=(l.take k).any (fun b=>againstP x b):=⟨_,rfl⟩
   rw[<-hA0]at HX2
   have HA0:Hid (A0=((l.take k).drop 0).any (fun b=>againstP x b)):=hA0
   have HB:=Lib.hid hB
   have HCC:=Lib.hid hcc
   have hki:(k:Int)<(l.length:Int):=by omega
   subst hA
   clear hx hxo hA0 hB hcc
   go_wp2_with fail
   go_loopw [4] (fun i wn=> ∃j:Nat,j<=k/\i= .int .i64 j/\Hid (A0=((l.take k).drop j).any (fun b=>againstP x b))/\Below W1.heap.size W1 wn) (fun i _=>k-(intOf i).toNat)
   case atStart=>exact⟨0,Nat.zero_le _,rfl,HA0.out,Below.refl _ _⟩
   case round=>
    obtain⟨j,hj,rfl,HY,hB1⟩:=hrel
    obtain⟨wn,rfl⟩: ∃W,W=wr:=⟨_,rfl⟩
    by_cases hjk:j<k
    ·have hjl:j<l.length:=by omega
     have hjt:j<(l.take k).length:=by rw[List.length_take];omega
     obtain⟨b9,off9,hA9,hb9,hcc⟩:=(HS.out.keep (HB.out.trans (hB1.mono hbs))).at hjl
     simp only[Option.some.injEq,Addr.mk.injEq,and_true]at hA9
     obtain⟨rfl,rfl⟩:=hA9
     have hy:=HY.out
     rw[List.drop_eq_getElem_cons hjt,List.any_cons,List.getElem_take]at hy
     have hyo:=HOK.out _ (List.getElem_mem hjl)
     have HY2:=Lib.hid hy
     generalize l[j]=y at*
     have HAG:=Lib.hid (fun W=>by
      have:=rAgainst_any x y W (kind5_of HXO.out) (kind5_of hyo)
      rw[rAgainst_eq HXO.out hyo]at this
      exact this)
     generalize againstP x y=ag at*
     have HCX:=Lib.hid (fun j u hu=>(hB1.cell (p:=⟨b,off+k*8+j,none⟩) hb).trans (HCC.out j u hu))
     obtain⟨kd,nm,ot,pl,dy,tl,nu,de⟩:=x
     obtain⟨kd2,nm2,ot2,pl2,dy2,tl2,nu2,de2⟩:=y
     have x0:wn.cell? ⟨b,off+k*8,none⟩=some (.int .i64 kd):=HCX.out 0 _ rfl
     have x1:wn.cell? ⟨b,off+k*8+1,none⟩=some (.string nm):=HCX.out 1 _ rfl
     have x2:wn.cell? ⟨b,off+k*8+2,none⟩=some (.string ot):=HCX.out 2 _ rfl
     have x3:wn.cell? ⟨b,off+k*8+3,none⟩=some (.string pl):=HCX.out 3 _ rfl
     have x4:wn.cell? ⟨b,off+k*8+4,none⟩=some (.int .i64 dy):=HCX.out 4 _ rfl
     have x5:wn.cell? ⟨b,off+k*8+5,none⟩=some (.int .i64 tl):=HCX.out 5 _ rfl
     have x6:wn.cell? ⟨b,off+k*8+6,none⟩=some (.int .i64 nu):=HCX.out 6 _ rfl
     have x7:wn.cell? ⟨b,off+k*8+7,none⟩=some (.int .i64 de):=HCX.out 7 _ rfl
     have y0:wn.cell? ⟨b,off+j*8,none⟩=some (.int .i64 kd2):=hcc 0 _ rfl
     have y1:wn.cell? ⟨b,off+j*8+1,none⟩=some (.string nm2):=hcc 1 _ rfl
     have y2:wn.cell? ⟨b,off+j*8+2,none⟩=some (.string ot2):=hcc 2 _ rfl
     have y3:wn.cell? ⟨b,off+j*8+3,none⟩=some (.string pl2):=hcc 3 _ rfl
     have y4:wn.cell? ⟨b,off+j*8+4,none⟩=some (.int .i64 dy2):=hcc 4 _ rfl
     have y5:wn.cell? ⟨b,off+j*8+5,none⟩=some (.int .i64 tl2):=hcc 5 _ rfl
     have y6:wn.cell? ⟨b,off+j*8+6,none⟩=some (.int .i64 nu2):=hcc 6 _ rfl
     have y7:wn.cell? ⟨b,off+j*8+7,none⟩=some (.int .i64 de2):=hcc 7 _ rfl
     unfold Rec.v at HAG
     simp only at HAG
     have hji:(j:Int)<(k:Int):=by omega
     have hjli:(j:Int)<(l.length:Int):=by omega
     have hj0:(0:Int)<=(j:Int):=by omega
     have hk0:(0:Int)<=(k:Int):=by omega
     have HB1:=Lib.hid hB1
     have HJK:=Lib.hid hjk
     clear hcc hy hyo hB1 hjk hjt
     cases ag
     ·go_wp2_with fail
      (refine wp_region_ext_lit (by kernel_rfl) (by kernel_rfl) ?_
       repeat(first|go_big_quiet_skip|(go_big_quiet_want;go_big_quiet_op;first|go_big_quiet_on|(apply Exists.intro;refine⟨fun _=> ?_,?_⟩;(go_at_call 40;exact quietx (HAG.out _));go_big_quiet_on)))
       refine wpQuiet_nil ?_
       rintro _ ⟨zq,rfl⟩)
      go_wp2_with fail
      go_round
      case rel=>exact⟨j+1,HJK.out,by go_num,by show _=_;rw[HY2.out,Bool.false_or],HB1.out.trans ((below_ext wn zq).mono HB1.out.size)⟩
      case measure=>have:=HJK.out;simp only[intOf];omega
     ·have HRT:Hid (R=true):=by
       show _=_
       rw[HR.out,HX2.out,HY2.out]
       simp
      go_wp2_with fail
      (refine wp_region_ext_lit (by kernel_rfl) (by kernel_rfl) ?_
       repeat(first|go_big_quiet_skip|(go_big_quiet_want;go_big_quiet_op;first|go_big_quiet_on|(apply Exists.intro;refine⟨fun _=> ?_,?_⟩;(go_at_call 40;exact quietx (HAG.out _));go_big_quiet_on)))
       refine wpQuiet_nil ?_
       rintro _ ⟨zq,rfl⟩)
      go_wp2_with fail
      go_ret
      exact Ret.of (bool_eq HRT.out.symm) (HB.out.trans ((HB1.out.trans ((below_ext wn zq).mono HB1.out.size)).mono hbs))
    ·have hy:=HY.out
     rw[List.drop_of_length_le (by rw[List.length_take];omega),List.any_nil]at hy
     have HX3:Hid (R0=pairAt (l.take (k+1)) (l.drop (k+1))):=by show _=_;rw[HX2.out,hy,Bool.false_or]
     have HB2:=Lib.hid (HB.out.trans (hB1.mono hbs))
     have hji: ¬(j:Int)<(k:Int):=by omega
     clear hy hB1
     go_wp2_with fail
     go_round
     case rel=>exact⟨k+1,HLT.out,by go_num,HX3.out,HB2.out⟩
     case measure=>have:=HLT.out;simp only[intOf];omega
  ·have hx:=HX.out
   rw[List.drop_of_length_le (by omega)]at hx
   have hR0:R0=false:=hx
   have HRR:Hid (R=(ci||tm)):=by show _=_;rw[HR.out,hR0,Bool.false_or]
   have hki: ¬(k:Int)<(l.length:Int):=by omega
   have HB:=Lib.hid hB
   clear hx hR0 hB
   cases ci
   ·go_wp2_with (first
     |(go_at_call 41;go_must(refine(HCI.out _ (by first|exact HB.out|exact HB.out.trans (Below.mono Bw HB.out.size))).mono ?_);rintro e wq ⟨rfl,z,rfl⟩)
     |(go_at_call 42;go_must(refine(HMO.out _ (HB.out.trans (Below.mono (B:=W1.heap.size) Bw HB.out.size))).mono ?_);rintro e wq ⟨rfl,z2,rfl⟩))
    go_ret
    exact Ret.of (bool_eq (by rw[HRR.out];rfl)) (HB.out.trans (Below.mono (B:=W1.heap.size) Bw HB.out.size))
   ·go_wp2_with (go_at_call 41;go_must(refine(HCI.out _ (by first|exact HB.out|exact HB.out.trans (Below.mono Bw HB.out.size))).mono ?_);rintro e wq ⟨rfl,z,rfl⟩)
    go_ret
    exact Ret.of (bool_eq (by rw[HRR.out];rfl)) (HB.out.trans (Below.mono (B:=W1.heap.size) Bw HB.out.size))
end Go.Proofs.YtkhkhnellekofaaGreatDoor

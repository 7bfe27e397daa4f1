/- Walk of the program's Estate. -/
import Derived.Test.YtckkbkdcdkhglaaGreatDoorEE
set_option linter.unusedSimpArgs false
set_option linter.unusedVariables false
set_option maxRecDepth 100000
set_option maxHeartbeats 4000000
namespace Go.Proofs.YtckkbkdcdkhglaaGreatDoor
open Go.RowKit Go.Shelf
attribute [local go_sem] World.cell?_alloc_mark zag za5 zaq za8 zaw zax zay zaz za0 za1 za2
attribute [local go_sem] zap zad
noncomputable def zeQ (laws:List Law) (ds:List Deed) (name:ByteArray) (day:Int):Parts×Int:=
 if zbL laws ds [name] day != 0 then([],zbL laws ds [name] day)else
 if zaH (zaF laws ds day).1 name then([],28)else
 match zbZ (zaF laws ds day).1 (zaV laws day) name with
 |none=>([],8)
 |some o=>(o,0)
def zni (w:World) (r:Parts×Int) (e:Ending) (w':World):Prop:=
 Below w.heap.size w w'/\ ∃A c,e= .returned (.tuple #[.slice A r.1.length c, .int .i64 r.2])/\r.1.length<=c/\Sl w' 3 zaa A r.1
theorem on_laws {laws:List Law} {ds:List Deed} {names:List ByteArray} {day:Int} (h:zbL laws ds names day=0):zaA laws=0:=by
 unfold zbL at h;split at h
 ·rename_i h1
  rw[h]at h1;simp at h1
 ·rename_i h1
  have h2:(zdV laws ds 200000).2.2=0:=McR;unfold zdV at h2;split at h2
  ·exact h2
  ·rename_i h3
   simpa using h3
theorem zoW (laws:List Law) (ds:List Deed) (name:ByteArray) (day:Int) (LA:Option Addr) (n nc:Nat) (DA:Option Addr) (m mc:Nat) (w:World) (hR:RightsIn w laws ds LA n nc DA m mc) (hF:FormsIn w) (hL:LensIn w) (hO: ∀d∈ds,zdv d) (hp:name.size<=100000):
 Calls Tryz.prog 16 #[.agg #[.slice LA n nc, .slice DA m mc], .string name, .int .i64 day] w (zni w (zeQ laws ds name day)):=by
 have pO:=fun W (hB:Below w.heap.size w W) NA (hS:Sl W 1 sC NA [name])=>on_any laws ds day [name] LA n nc DA m mc NA 1 1 W (hR.keep hB) (hF.keep hB) (hL.keep hB) hO rfl Mco (by simpa using hp) hS
 have eo:=zHi pO;have cZ:=zHi (fun(h:zbL laws ds [name] day=0)=>on_laws h);have dU:=zHi hR.laws;obtain⟨rfl,rfl,_,_,_,_⟩:=hR;obtain⟨R,me⟩: ∃R,R=zeQ laws ds name day:=⟨_,rfl⟩
 rw[<-me];unfold zeQ at me;unfold zni;unfold zlX at eo;generalize zbL laws ds [name] day=E at*;generalize(zaF laws ds day).1=s at*;have HR:=zHi me;clear pO hF hL hO me;go_enter Tryz.func16,Tryz.ntmps16
 by_cases h0:E=0
 ·subst h0;have bh:=cZ.o rfl;have fq:laws.length<=10:=by
   unfold zaA at bh;split at bh
   ·simp at bh
   ·rename_i h;simpa using h
  have du:=zeo bh day;have g7:=HR.o;rw[if_neg Mco]at g7;have bx:=zHi g7;clear g7 HR cZ bh
  go_upto_region 4 with(go_at_call 25
                        go_must(refine(eo.o _ Bw _ (zcx (zar _ _ _ Mco))).mono ?_)
                        rintro e wq ⟨h1,⟨ai,_⟩|⟨_,base,b,la,co,rfl,h2,h3,⟨last,h4⟩,h5⟩⟩
                        ·exact absurd rfl ai
                        have H1:=zHi h1;have H3:=zHi h3;have H4:=zHi h4;have H5:=zHi h5
                        clear h1 h2 h3 h4 h5)
  clear eo;obtain⟨Bk,dd,cc,pp,wl,rr,mv,tv,ps,ba,hC,hP,hT⟩:=H3.o;obtain⟨k,fM,cn⟩:=H5.o;have aZ:Below w.heap.size w wq:=Below.trans (zac (zac (Below.refl _ _) _) _ Mco) (H1.o.mono Mcq);have x0:wq.cell? ⟨w.heap.size,0,none⟩=some (.slice LA laws.length nc):=(zah H1.o Mcq).trans McN;have dQ:w.heap.size<wq.heap.size:=by have:=H1.o.size;simp at this;omega
  have dH:=zab hC;have eB:=zcZ hP name;unfold WldC at hC;obtain k0:=cF1 hC;have aG:=zHi aZ;cases iQ:zaH s name
  ·have g7:=bx.o;rw[iQ]at eB g7;simp only[Bool.false_eq_true,if_false]at g7;have gH:=zeC (law:=zaV laws day) (H4.o.wills name) du;obtain⟨EF,kS⟩: ∃EF,EF=zcg s (zaV laws day) name:=⟨_,rfl⟩
   rw[<-kS]at gH;have bV:s.children.length<=1000:=by have:=cn.kids;omega
   have ft:s.marriages.length<=1000:=by have:=cn.marr;omega
   have cx:(zbu s name).length<=1000:=by have:=cn.wills name;omega
   have oY:=zHi kS;have fJ:=zHi gH;have Ec:=zHi g7;clear gH g7 kS hC hP hT cn aZ iQ bx;go_upto_region 7 with fail
   obtain⟨W6,eK⟩: ∃W6,W6=wq.alloc (.cells #[.bool false] 92):=⟨_,rfl⟩
   have m6:MarkAt W6 wq.heap.size false:=by rw[eK];exact zar _ _ _ rfl
   have aE:Below wq.heap.size wq W6:=by rw[eK];exact Bw
   have x6:W6.cell? ⟨w.heap.size,0,none⟩=some (.slice LA laws.length nc):=(zah aE dQ).trans x0;rw[<-eK];have M6:=zHi m6;have aC:=zHi aE;clear eK m6 aE;refine wp_region_held_drew (S:=(fun w'=>w'.cell? ⟨w.heap.size,0,none⟩=some (.slice LA laws.length nc))) Mcm ?hS ?hrest
   case hS=>exact x6
   case hrest=>
    intro hHeld;refine TkH 0 ?_;refine TkH 1 ?_;refine TkH 2 ?_;refine TkH 3 ?_;refine TkH 4 ?_;refine TkH 5 ?_;refine TkH 7 ?_;refine OnH 6 fun K hK=> ?_
    go_simp
    refine(zj2 laws LA nc day _ fq (dU.o.keep (aG.o.trans ((zaM aC.o).mono aG.o.size)))).mono ?_;rintro e w5 ⟨rfl,z,rfl⟩;have bG:Below wq.heap.size wq (W6.drew.ext z):=zbc (zaM aC.o) z;refine NxM hK (fun hHeld=> ?_) ((zah bG dQ).trans x0);clear hK K;refine OnH 8 fun K hK=> ?_
    go_simp
    refine(zjQ base b wq.heap.size s last (zaV laws day) name _ ?q1 H4.o ?q2 bV ft cx du).mono ?_
    case q1=>exact fun W hW=>H3.o.peo.keep (zaS bG hW (Nat.le_refl _))
    case q2=>exact M6.o.drew.ext z
    rintro e w8 ⟨v,rfl,n1,n2,n3⟩;rw[<-oY.o]at n1 n2;have dX:Below wq.heap.size wq w8:=zaS bG n3 (Nat.le_refl _);have DJ:=zHi (aG.o.trans (dX.mono aG.o.size));have N1:=zHi n1;have k8:w8.cell? ⟨wq.heap.size,0,none⟩=some (.bool EF.2):=by
     unfold MarkAt at n2;simp only[World.cell?,n2];rfl
    clear n1 n2 n3;refine NxM hK (fun hHeld=> ?_) ((zah dX dQ).trans x0);clear hK K;refine OnH 9 fun K hK=> ?_
    go_simp
    refine NxM hK (fun hHeld=> ?_) ((zah dX dQ).trans x0);clear hK K;refine wpAnyH_done Mcm ?_ _;clear hHeld;obtain⟨A9,n9,rfl,s9,Ac⟩:=N1.o.sl zan;have S9:=zHi s9;clear s9;cases hE:zbZ s (zaV laws day) name with
    |none=>
     have h1:=fJ.o.2 hE;have h2:=Ec.o;rw[hE]at h2;simp only at h2;have HE:=zHi h2;rw[h1]at k8;clear h1 h2 hE;go_wp2_with fail
     go_ret2
     rw[HE.o];exact⟨DJ.o,none,0,rfl,Nat.le_refl _,Sl.nil⟩
    |some o=>
     have h1:=fJ.o.1 o hE;have h2:=Ec.o;rw[hE]at h2;simp only at h2;have HE:=zHi h2;subst h1;clear h2 hE;go_wp2_with fail
     go_ret2
     rw[HE.o];exact⟨DJ.o,A9,n9,rfl,Ac,S9.o⟩
  ·have g7:=bx.o;rw[iQ,if_pos rfl]at g7;rw[iQ]at eB;have HE:=zHi g7;clear g7 bx hC hP hT cn aZ iQ;go_wp2_with fail
   go_ret2
   rw[HE.o];exact⟨aG.o,none,0,rfl,Nat.le_refl _,Sl.nil⟩
 ·have g7:=HR.o;rw[if_pos Mdm]at g7;have HE:=zHi g7;clear g7 HR cZ
  go_wp2_with (go_at_call 25
               go_must(refine(eo.o _ Bw _ (zcx (zar _ _ _ Mco))).mono ?_)
               rintro e wq ⟨h1,⟨_,rfl⟩|⟨he,_⟩⟩;rotate_left 1
               ·exact absurd he h0
               have H1:=zHi h1
               clear h1)
  go_ret2
  rw[HE.o];exact⟨Below.trans (zac (zac (Below.refl _ _) _) _ Mco) (H1.o.mono Mcq),none,0,rfl,Nat.le_refl _,Sl.nil⟩
end Go.Proofs.YtckkbkdcdkhglaaGreatDoor

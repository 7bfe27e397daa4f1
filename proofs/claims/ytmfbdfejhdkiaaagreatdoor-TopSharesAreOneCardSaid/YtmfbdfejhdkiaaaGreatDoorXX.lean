/- Walks of the reference's HoldersOf; parts that are the same. -/
import Derived.Test.YtmfbdfejhdkiaaaGreatDoorXT
set_option linter.all false
set_option maxRecDepth 100000
set_option maxHeartbeats 4000000
namespace Go.Proofs.YtmfbdfejhdkiaaaGreatDoor
open Go.RowKit Go.Shelf
attribute [local go_sem] World.cell?_alloc_mark zae za4 zao za8 zav zaw zax zay zaz za0 za1
attribute [local go_sem] zap zac
theorem zjv(xs:List RPart)(P Q:Option Addr)(pc qc:Nat)(w:World)(hp:Sl w 3 RPart.cells P xs)(hq:Sl w 3 RPart.cells Q xs)(hl:xs.length<=100000):
 Calls Tryz.prog 12 #[.slice P xs.length pc,.slice Q xs.length qc] w (Ret w (.bool true)):=by
 go_enter Tryz.func12,Tryz.ntmps12
 go_wp2_with fail
 go_loopw [5] (fun i wr=>∃j:Nat,j<=xs.length/\i=.int .i64 j/\∃z,wr=w.ext z) (fun i _=>xs.length-(intOf i).toNat)
 case atStart=>exact⟨0,Nat.zero_le _,rfl,zaU Qb⟩
 case round=>
  obtain⟨j,hj,rfl,z,rfl⟩:=hrel;by_cases aa:j<xs.length
  ·obtain⟨b,off,rfl,hb,hc⟩:=hp.at aa;obtain⟨b',off',rfl,cI,aI⟩:=hq.at aa;have cA:(j:Int)<(xs.length:Int):=Mcq;have sW:(0:Int)<=(j:Int):=Mcq;generalize xs[j]=x at*;have x0:w.cell? ⟨b,off+j*3,none⟩=some (.string x.name):=hc 0 _ rfl;have y0:w.cell? ⟨b',off'+j*3,none⟩=some (.string x.name):=aI 0 _ rfl;have x1:w.cell? ⟨b,off+j*3+1,none⟩=some (.int .i64 x.num):=hc 1 _ rfl;have y1:w.cell? ⟨b',off'+j*3+1,none⟩=some (.int .i64 x.num):=aI 1 _ rfl;have x2:w.cell? ⟨b,off+j*3+2,none⟩=some (.int .i64 x.den):=hc 2 _ rfl;have y2:w.cell? ⟨b',off'+j*3+2,none⟩=some (.int .i64 x.den):=aI 2 _ rfl;clear hc aI;go_wp2_with fail
   (refine zam Mcs Mcs ?_
    repeat(first|go_big_quiet_skip|(go_big_quiet_want;go_big_quiet_op;first|go_big_quiet_on|(apply Exists.intro;refine⟨fun _=>?_,?_⟩;(fail);go_big_quiet_on)))
    refine wpQuiet_nil ?_
    rintro _ ⟨zq,rfl⟩)
   go_wp2_with fail
   go_roundw
   case rel=>exact⟨j+1,by omega,by go_num,zaU Bw⟩
   case measure=>simp[intOf];omega
  ·have AR:¬((j:Int)<(xs.length:Int)):=Mcq;exact MbK
theorem zjd(xs:Parts)(P Q:Option Addr)(pc qc:Nat)(w:World)(hp:Sl w 3 zaa P xs)(hq:Sl w 3 zaa Q xs)(hl:xs.length<=100000):Calls Tryz.prog 12 #[.slice P xs.length pc,.slice Q xs.length qc] w (Ret w (.bool true)):=by
 have h:=zjv (xs.map toR) P Q pc qc w (sl_map hp toR fun _=>rfl) (sl_map hq toR fun _=>rfl) (by rw[List.length_map];exact hl);rw[List.length_map]at h;exact h
section
variable {laws:List Law} {s:St} {k:Nat} {w:World} {a0 a1 a2 a3 a4 a5 a6:Value}
theorem StAt.grave(h:StAt w laws s a0 a1 a2 a3 a4 a5 a6){i:Nat}{g:Grave}(hg:s.graves[i]?=some g):∃b off c,a6=.slice (some ⟨b,off,none⟩) s.graves.length c/\i<s.graves.length/\b<w.heap.size/\w.cell? ⟨b,off+i*5+1,none⟩=some (.int .i64 g.cls)/\w.cell? ⟨b,off+i*5+2,none⟩=some (.int .i64 g.fin):=by
 obtain⟨wd,rd,LA,CA,MA,DA,WA,RA,GA,c0,c1,c2,c3,c4,c5,c6,rfl,rfl,rfl,rfl,rfl,rfl,rfl,hI,hL⟩:=h;obtain⟨gxs,hm,_,bv⟩:=zpf hI.graves;obtain⟨hi,ns⟩:=gx_at hm hg;obtain⟨b,off,rfl,hb,ah⟩:=bv.at hi;subst ns;exact⟨b,off,c6,rfl,by rw[<-hm,List.length_map];exact hi,hb,ah 1 _ rfl,ah 2 _ rfl⟩
end
theorem on_told{laws:List Law}{ds:List Deed}{names:List ByteArray}{day:Int}(h:zct laws ds names day=0):(zaB laws ds day).2.2=0/\Told ds.length (zaB laws ds day).1:=by
 have h1:=(ziN h).1;rw[zd7,zfJ laws ds 200000 day]at h1;exact⟨h1,zgo h1⟩

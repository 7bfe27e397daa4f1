import Derived.Test.YtegdimedhfafjaaGreatDoorJ5
set_option linter.all false
set_option maxRecDepth 100000
set_option maxHeartbeats 4000000
namespace Go.Proofs.YtegdimedhfafjaaGreatDoor
open Go.RowKit
attribute [local go_sem] World.cell?_alloc_mark zaf za5 zao za8 zav zaw zax zay zaz za0 za1
attribute [local go_sem] zaq zad
theorem zee{a b:ByteArray}(h:a.toList=b.toList):zae a b=true:=by simp[zae,h]
theorem ze4{a b:ByteArray}(h:¬a.toList=b.toList):zae a b=false:=by simp[zae,h]
theorem zbv{w:World}{z:Ez}{x:Obj}{k:Nat}(h:w.heap[k]?=some x):(w.ext z).heap[k]?=some x:=(zcD w z k (zab h)).trans h
theorem J_ne{w:World}{b o:Nat}{v:Value}{x:Obj}{k:Nat}(ai:k≠b)(h:w.heap[k]?=some x):(w.setCell ⟨b,o,none⟩ v).heap[k]?=some x:=by
 have hb:¬b=k:=fun e=>ai e.symm
 simp[World.setCell,Array.getElem?_modify,hb,h]
theorem zeo{w:World}{g:Nat}{z0 z1 a b:Value}{t:TypeId}{fr:Nat×Nat}(h:w.heap[g]?=some (.cells #[z0,z1] t fr)):((w.setCell ⟨g,0,none⟩ a).setCell ⟨g,1,none⟩ b).heap[g]?=some (.cells #[a,b] t fr):=by
 exact MbK
theorem frc_any(B:Nat)(nm:ByteArray)(q:RPart)(W:World)(hB:B<W.heap.size)(hc:W.cell? ⟨B,0,none⟩=some (.string nm)):
 Calls Tryz.prog 82 #[.agg #[.string q.name,.int .i64 q.num,.int .i64 q.den],.pointer (some ⟨B,0,none⟩)] W (Ret W (.bool (zae q.name nm))):=by
 have ai:B≠W.heap.size:=Mcm;go_enter Tryz.func82,Tryz.ntmps82
 exact Mar
theorem zla(B:Nat)(nm:ByteArray)(xs:List RPart)(w:World)(hB:B<w.heap.size)(hc:w.cell? ⟨B,0,none⟩=some (.string nm)):
 zeY 82 #[.pointer (some ⟨B,0,none⟩)] (fun x=> .agg (RPart.cells x).toArray) (fun q=>zae q.name nm) xs w:=fun x _ W hW=>by
 refine(frc_any B nm x W (Nat.lt_of_lt_of_le hB hW.size) ((hW.cell (p:=⟨B,0,none⟩) hB).trans hc)).mono ?_;exact MaZ
theorem cast_le{k:Nat}{s:Rat}(h:s<=((k:Int):Rat))(hk:k<=1000):s<=1000:=by
 have h2:((k:Int):Rat)<=((1000:Int):Rat):=Rat.intCast_le_intCast.2 Mcm;exact Rat.le_trans h h2
theorem sum_pos{s:Rat}{a b:Int}(h:0<=s)(hs:za9 16 a b=true):0<=s+Rat.divInt a b:=by
 have:=(zbk hs).2.2.1;grind
theorem sum_up{k:Nat}{s:Rat}{a b:Int}(h:s<=((k:Int):Rat))(hs:za9 16 a b=true):s+Rat.divInt a b<=(((k+1:Nat):Int):Rat):=by
 have h1:=(zbk hs).2.2.2;have h2:(((k+1:Nat):Int):Rat)=((k:Int):Rat)+1:=by
  rw[show((k+1:Nat):Int)=(k:Int)+1 by omega,Rat.intCast_add];rfl
 rw[h2];grind
theorem natUp(k:Nat):((k:Int):Rat)<=(((k+1:Nat):Int):Rat):=Rat.intCast_le_intCast.2 Mcm
theorem znC(s:Rat)(a b:Int)(W:World)(hs:zaJ s)(h:za9 16 a b=true):Calls Tryz.prog 83 #[.agg #[.int .i64 s.num,.int .i64 s.den],.agg #[.int .i64 a,.int .i64 b]] W (Ret W (zaC (s+Rat.divInt a b))):=by
 obtain⟨h1,h2,h3,h4⟩:=zbk h;have:=zn9 s (Rat.divInt a b) W hs ((zen h).small (Rat.le_trans Mco h3) (Rat.le_trans h4 Mco));unfold zaC at this⊢;rw[h1,h2]at this;exact this
theorem zd5(f:Form)(dk dd:Int)(pl frm:ByteArray)(cl yr:Int)(ps:List RPart)(B:Option Addr)(n c:Nat)(w:World)(hn:n=ps.length)(hl:ps.length<=8)(ar:ps.length<=c)(hS:Sl w 3 RPart.cells B ps):
 Calls Tryz.prog 50 #[.agg #[.string f.word,.bool f.place,.bool f.frm,.bool f.cls,.bool f.years,.bool f.all,.bool f.parts,.bool f.shares],.agg #[.int .i64 dk,.int .i64 dd,.string pl,.string frm,.slice B n c,.int .i64 cl,.int .i64 yr]] w (Ret w (.bool (zhq f frm ps))):=by
 subst hn;obtain⟨word,fp,ff,fc,fy,fa,fpt,fs⟩:=f;have eg:∀args w,(callFunc 82 args).run Tryz.prog w=.ok (.enter 82 args) w:=enters_of Tryz.func82 Mcn rfl;generalize hR:zhq ⟨word,fp,ff,fc,fy,fa,fpt,fs⟩ frm ps=R;have HR:=zHi hR;clear hR;go_enter Tryz.func50,Tryz.ntmps50
 cases fpt
 ·go_wp2_with fail
  go_ret
  refine Ret.of (zaO ?_) Bw;rw[<-HR.o];cases ps<;>simp[zhq];omega
 ·cases ps with
  |nil=>
   go_wp2_with fail
   go_ret
   exact Ret.of (zaO (by rw[<-HR.o];rfl)) Bw
  |cons p0 pr=>
   generalize ej:p0::pr=ps at*;have cS:0<ps.length:=by rw[<-ej];simp
   clear ej p0 pr;have hz:((ps.length:Int)==0)=false:=Mel;by_cases h1:fs=false/\ps.length≠1
   ·obtain⟨rfl,h1⟩:=h1;have jb:((ps.length:Int)==1)=false:=Mel;go_wp2_with fail
    go_ret
    exact Ret.of (zaO (by rw[<-HR.o];simp[zhq,h1])) Bw
   ·have hX:R=zgU fs fa (zcn ff fs frm (ps.drop 0) (ps.take 0) 0):=by
     rw[<-HR.o];have:(ps.isEmpty||(!fs&&ps.length != 1))=false:=by
      cases fs
      ·simp at h1;simp[h1];intro h;rw[h]at cS;simp at cS
      ·simp;intro h;rw[h]at cS;simp at cS
     simp only[zhq,Bool.not_true,Bool.false_eq_true,if_false,this];rfl
    have cf:fs=false->((ps.length:Int) != 1)=false:=fun h=>by simp at h1;simp[h1 h]
    clear HR h1;have HX:=zHi hX;clear hX;have HL:=zHi hl;cases ff
    ·cases fs
     ·have jb:=cf rfl;clear cf;go_wp2_with fail
      go_loopw [35] (fun i wr=>∃k:Nat,k<=ps.length/\i=.int .i64 k/\∃s:Rat,Hid (R=zgU false fa (zcn false false frm (ps.drop k) (ps.take k) s))/\Fits s/\0<=s/\s<=(k:Int)/\Below w.heap.size w wr/\w.heap.size+3<=wr.heap.size/\
       wr.heap[w.heap.size]?=some (.cells #[.string word,.bool fp,.bool false,.bool fc,.bool fy,.bool fa,.bool true,.bool false] 112)/\
       wr.heap[w.heap.size+1]?=some (.cells #[.int .i64 dk,.int .i64 dd,.string pl,.string frm,.slice B ps.length c,.int .i64 cl,.int .i64 yr] 28)/\
       wr.heap[w.heap.size+2]?=some (.cells #[.int .i64 s.num,.int .i64 s.den] 56)) (fun i _=>ps.length-(intOf i).toNat)
      case atStart=>
       exact ML
      case round=>
       clear jb;obtain⟨k,hk,rfl,s,hx,dI,ay,ky,hB,hsz,g0,g1,g2⟩:=hrel;have a0:wr.cell? ⟨w.heap.size,2,none⟩=some (.bool false):=Mcq;exact Mm
     ·clear cf;go_wp2_with fail
      go_loopw [35] (fun i wr=>∃k:Nat,k<=ps.length/\i=.int .i64 k/\∃s:Rat,Hid (R=zgU true fa (zcn false true frm (ps.drop k) (ps.take k) s))/\Fits s/\0<=s/\s<=(k:Int)/\Below w.heap.size w wr/\w.heap.size+3<=wr.heap.size/\
       wr.heap[w.heap.size]?=some (.cells #[.string word,.bool fp,.bool false,.bool fc,.bool fy,.bool fa,.bool true,.bool true] 112)/\
       wr.heap[w.heap.size+1]?=some (.cells #[.int .i64 dk,.int .i64 dd,.string pl,.string frm,.slice B ps.length c,.int .i64 cl,.int .i64 yr] 28)/\
       wr.heap[w.heap.size+2]?=some (.cells #[.int .i64 s.num,.int .i64 s.den] 56)) (fun i _=>ps.length-(intOf i).toNat)
      case atStart=>
       exact ML
      case round=>
       skip
       obtain⟨k,hk,rfl,s,hx,dI,ay,ky,hB,hsz,g0,g1,g2⟩:=hrel;have a0:wr.cell? ⟨w.heap.size,2,none⟩=some (.bool false):=Mcq;exact Ml
    ·cases fs
     ·have jb:=cf rfl;clear cf;go_wp2_with fail
      go_loopw [35] (fun i wr=>∃k:Nat,k<=ps.length/\i=.int .i64 k/\∃s:Rat,Hid (R=zgU false fa (zcn true false frm (ps.drop k) (ps.take k) s))/\Fits s/\0<=s/\s<=(k:Int)/\Below w.heap.size w wr/\w.heap.size+3<=wr.heap.size/\
       wr.heap[w.heap.size]?=some (.cells #[.string word,.bool fp,.bool true,.bool fc,.bool fy,.bool fa,.bool true,.bool false] 112)/\
       wr.heap[w.heap.size+1]?=some (.cells #[.int .i64 dk,.int .i64 dd,.string pl,.string frm,.slice B ps.length c,.int .i64 cl,.int .i64 yr] 28)/\
       wr.heap[w.heap.size+2]?=some (.cells #[.int .i64 s.num,.int .i64 s.den] 56)) (fun i _=>ps.length-(intOf i).toNat)
      case atStart=>
       exact ML
      case round=>
       clear jb;obtain⟨k,hk,rfl,s,hx,dI,ay,ky,hB,hsz,g0,g1,g2⟩:=hrel;have a0:wr.cell? ⟨w.heap.size,2,none⟩=some (.bool true):=Mcq;exact Mm
     ·clear cf;go_wp2_with fail
      go_loopw [35] (fun i wr=>∃k:Nat,k<=ps.length/\i=.int .i64 k/\∃s:Rat,Hid (R=zgU true fa (zcn true true frm (ps.drop k) (ps.take k) s))/\Fits s/\0<=s/\s<=(k:Int)/\Below w.heap.size w wr/\w.heap.size+3<=wr.heap.size/\
       wr.heap[w.heap.size]?=some (.cells #[.string word,.bool fp,.bool true,.bool fc,.bool fy,.bool fa,.bool true,.bool true] 112)/\
       wr.heap[w.heap.size+1]?=some (.cells #[.int .i64 dk,.int .i64 dd,.string pl,.string frm,.slice B ps.length c,.int .i64 cl,.int .i64 yr] 28)/\
       wr.heap[w.heap.size+2]?=some (.cells #[.int .i64 s.num,.int .i64 s.den] 56)) (fun i _=>ps.length-(intOf i).toNat)
      case atStart=>
       exact ML
      case round=>
       skip
       obtain⟨k,hk,rfl,s,hx,dI,ay,ky,hB,hsz,g0,g1,g2⟩:=hrel;have a0:wr.cell? ⟨w.heap.size,2,none⟩=some (.bool true):=Mcq;exact Ml

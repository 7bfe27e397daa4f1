import Derived.Test.YtogklihlgindkaaGreatDoorJ5
set_option linter.all false
set_option maxRecDepth 100000
set_option maxHeartbeats 4000000
namespace Go.Proofs.YtogklihlgindkaaGreatDoor
open Go.RowKit
attribute [local go_sem] World.cell?_alloc_mark zaf za3 zam za6 zat zau zav zaw zax zay zaz
attribute [local go_sem] zao zac
variable{a b:ByteArray}
def zeh(h:a.toList=b.toList):zae a b=true:=by simp[zae,h]
def ze5(h:¬a.toList=b.toList):zae a b=false:=by simp[zae,h]
variable{w:World}{x:Obj}{k:Nat}
def zbF{z:Ez}(h:w.heap[k]?=some x):(w.ext z).heap[k]?=some x:=(zcL w z k (zab h)).trans h
def J_ne{b o:Nat}{v:Value}(ai:k≠b)(h:w.heap[k]?=some x):(w.setCell ⟨b,o,none⟩ v).heap[k]?=some x:=by
 have hb:¬b=k:=λe=>ai e.symm
 simp[World.setCell,Array.getElem?_modify,hb,h]
def zer{g:Nat}{z0 z1 a b:Value}{t:TypeId}{fr:Nat×Nat}(h:w.heap[g]?=some (.cells #[z0,z1] t fr)):((w.setCell ⟨g,0,none⟩ a).setCell ⟨g,1,none⟩ b).heap[g]?=some (.cells #[a,b] t fr):=by
 have:=Joins.block_setCell (i:=1) (Joins.block_setCell (i:=0) h a) b;simpa using this
def frc_any(B:Nat)(nm:ByteArray)(q:RPart)(W:World)(hB:B<W.heap.size)(hc:W.cell? ⟨B,0,none⟩=some (.string nm)):
 Calls Tryz.prog 105 #[.agg #[.string q.name,.int .i64 q.num,.int .i64 q.den],.pointer (some ⟨B,0,none⟩)] W (Ret W (.bool (zae q.name nm))):=by
 have ai:B≠W.heap.size:=McS;go_enter Tryz.func105,Tryz.ntmps105
 exact Maz
def zlq(B:Nat)(nm:ByteArray)(xs:List RPart)(w:World)(hB:B<w.heap.size)(hc:w.cell? ⟨B,0,none⟩=some (.string nm)):
 zeY 105 #[.pointer (some ⟨B,0,none⟩)] (λx=> .agg (RPart.cells x).toArray) (λq=>zae q.name nm) xs w:=λx _ W hW=>by
 refine(frc_any B nm x W (Nat.lt_of_lt_of_le hB hW.size) ((hW.cell (p:=⟨B,0,none⟩) hB).trans hc)).mono ?_;exact Mbk
variable{s:Rat}
def cast_le(h:s<=((k:Int):Rat))(hk:k<=1000):s<=1000:=by
 have h2:((k:Int):Rat)<=((1000:Int):Rat):=Rat.intCast_le_intCast.2 McS;exact Rat.le_trans h h2
def sum_pos{a b:Int}(h:0<=s)(hs:za8 16 a b=true):0<=s+Rat.divInt a b:=by
 have:=(zbl hs).2.2.1;grind
def sum_up{a b:Int}(h:s<=((k:Int):Rat))(hs:za8 16 a b=true):s+Rat.divInt a b<=(((k+1:Nat):Int):Rat):=by
 have h1:=(zbl hs).2.2.2;have h2:(((k+1:Nat):Int):Rat)=((k:Int):Rat)+1:=by
  rw[show((k+1:Nat):Int)=(k:Int)+1 by omega,Rat.intCast_add];rfl
 rw[h2];grind
def natUp(k:Nat):((k:Int):Rat)<=(((k+1:Nat):Int):Rat):=Rat.intCast_le_intCast.2 McS
def zoc(s:Rat)(a b:Int)(W:World)(hs:zaJ s)(h:za8 16 a b=true):Calls Tryz.prog 106 #[.agg #[.int .i64 s.num,.int .i64 s.den],.agg #[.int .i64 a,.int .i64 b]] W (Ret W (zaA (s+Rat.divInt a b))):=by
 obtain⟨h1,h2,h3,h4⟩:=zbl h;have:=zoa s (Rat.divInt a b) W hs ((zeq h).small (Rat.le_trans McU h3) (Rat.le_trans h4 McU));unfold zaA at this⊢;rw[h1,h2]at this;exact this
def zd8(f:Form)(dk dd:Int)(pl frm:ByteArray)(cl yr:Int)(ps:List RPart)(B:Option Addr)(n c:Nat)(w:World)(hn:n=ps.length)(hl:ps.length<=8)(aA:ps.length<=c)(hS:Sl w 3 RPart.cells B ps):
 Calls Tryz.prog 76 #[.agg #[.string f.word,.bool f.place,.bool f.frm,.bool f.cls,.bool f.years,.bool f.all,.bool f.parts,.bool f.shares],.agg #[.int .i64 dk,.int .i64 dd,.string pl,.string frm,.slice B n c,.int .i64 cl,.int .i64 yr]] w (Ret w (.bool (zhy f frm ps))):=by
 subst hn;obtain⟨word,fp,ff,fc,fy,fa,fpt,fs⟩:=f;have eg:∀args w,(callFunc 105 args).run Tryz.prog w=.ok (.enter 105 args) w:=enters_of Tryz.func105 McT rfl;generalize hR:zhy ⟨word,fp,ff,fc,fy,fa,fpt,fs⟩ frm ps=R;have HR:=zHi hR;clear hR;go_enter Tryz.func76,Tryz.ntmps76
 cases fpt
 ·go_wp2_with fail
  go_ret
  refine Ret.of (zaT ?_) Bw;rw[<-HR.o];cases ps<;>simp[zhy];omega
 ·cases ps with
  |nil=>
   go_wp2_with fail
   go_ret
   exact Ret.of (zaT (by rw[<-HR.o];rfl)) Bw
  |cons p0 pr=>
   generalize eG:p0::pr=ps at*;have d9:0<ps.length:=by rw[<-eG];simp
   clear eG p0 pr;have hz:((ps.length:Int)==0)=false:=MeQ;by_cases h1:fs=false/\ps.length≠1
   ·obtain⟨rfl,h1⟩:=h1;have jo:((ps.length:Int)==1)=false:=MeQ;go_wp2_with fail
    go_ret
    exact Ret.of (zaT (by rw[<-HR.o];simp[zhy,h1])) Bw
   ·have hX:R=zgW fs fa (zcp ff fs frm (ps.drop 0) (ps.take 0) 0):=by
     rw[<-HR.o];have:(ps.isEmpty||(!fs&&ps.length != 1))=false:=by
      cases fs
      ·simp at h1;simp[h1];intro h;rw[h]at d9;simp at d9
      ·simp;intro h;rw[h]at d9;simp at d9
     simp only[zhy,Bool.not_true,Bool.false_eq_true,if_false,this];rfl
    have bX:fs=false->((ps.length:Int) != 1)=false:=λh=>by simp at h1;simp[h1 h]
    clear HR h1;have HX:=zHi hX;clear hX;have HL:=zHi hl;cases ff
    ·cases fs
     ·have jo:=bX rfl;clear bX;go_wp2_with fail
      go_loopw [35] (λi wr=>∃k:Nat,k<=ps.length/\i=.int .i64 k/\∃s:Rat,Hid (R=zgW false fa (zcp false false frm (ps.drop k) (ps.take k) s))/\Fits s/\0<=s/\s<=(k:Int)/\Qa w wr/\w.heap.size+3<=wr.heap.size/\
       wr.heap[w.heap.size]?=some (.cells #[.string word,.bool fp,.bool false,.bool fc,.bool fy,.bool fa,.bool true,.bool false] 137)/\
       wr.heap[w.heap.size+1]?=some (.cells #[.int .i64 dk,.int .i64 dd,.string pl,.string frm,.slice B ps.length c,.int .i64 cl,.int .i64 yr] 60)/\
       wr.heap[w.heap.size+2]?=some (.cells #[.int .i64 s.num,.int .i64 s.den] 50)) (λi _=>ps.length-(intOf i).toNat)
      case atStart=>
       exact MN
      case round=>
       clear jo;obtain⟨k,hk,rfl,s,hx,cE,ay,kR,hB,hsz,g0,g1,g2⟩:=hrel;have a0:wr.cell? ⟨w.heap.size,2,none⟩=some (.bool false):=McW;exact Mm
     ·clear bX;go_wp2_with fail
      go_loopw [35] (λi wr=>∃k:Nat,k<=ps.length/\i=.int .i64 k/\∃s:Rat,Hid (R=zgW true fa (zcp false true frm (ps.drop k) (ps.take k) s))/\Fits s/\0<=s/\s<=(k:Int)/\Qa w wr/\w.heap.size+3<=wr.heap.size/\
       wr.heap[w.heap.size]?=some (.cells #[.string word,.bool fp,.bool false,.bool fc,.bool fy,.bool fa,.bool true,.bool true] 137)/\
       wr.heap[w.heap.size+1]?=some (.cells #[.int .i64 dk,.int .i64 dd,.string pl,.string frm,.slice B ps.length c,.int .i64 cl,.int .i64 yr] 60)/\
       wr.heap[w.heap.size+2]?=some (.cells #[.int .i64 s.num,.int .i64 s.den] 50)) (λi _=>ps.length-(intOf i).toNat)
      case atStart=>
       exact MN
      case round=>
       skip
       obtain⟨k,hk,rfl,s,hx,cE,ay,kR,hB,hsz,g0,g1,g2⟩:=hrel;have a0:wr.cell? ⟨w.heap.size,2,none⟩=some (.bool false):=McW;exact Ml
    ·cases fs
     ·have jo:=bX rfl;clear bX;go_wp2_with fail
      go_loopw [35] (λi wr=>∃k:Nat,k<=ps.length/\i=.int .i64 k/\∃s:Rat,Hid (R=zgW false fa (zcp true false frm (ps.drop k) (ps.take k) s))/\Fits s/\0<=s/\s<=(k:Int)/\Qa w wr/\w.heap.size+3<=wr.heap.size/\
       wr.heap[w.heap.size]?=some (.cells #[.string word,.bool fp,.bool true,.bool fc,.bool fy,.bool fa,.bool true,.bool false] 137)/\
       wr.heap[w.heap.size+1]?=some (.cells #[.int .i64 dk,.int .i64 dd,.string pl,.string frm,.slice B ps.length c,.int .i64 cl,.int .i64 yr] 60)/\
       wr.heap[w.heap.size+2]?=some (.cells #[.int .i64 s.num,.int .i64 s.den] 50)) (λi _=>ps.length-(intOf i).toNat)
      case atStart=>
       exact MN
      case round=>
       clear jo;obtain⟨k,hk,rfl,s,hx,cE,ay,kR,hB,hsz,g0,g1,g2⟩:=hrel;have a0:wr.cell? ⟨w.heap.size,2,none⟩=some (.bool true):=McW;exact Mm
     ·clear bX;go_wp2_with fail
      go_loopw [35] (λi wr=>∃k:Nat,k<=ps.length/\i=.int .i64 k/\∃s:Rat,Hid (R=zgW true fa (zcp true true frm (ps.drop k) (ps.take k) s))/\Fits s/\0<=s/\s<=(k:Int)/\Qa w wr/\w.heap.size+3<=wr.heap.size/\
       wr.heap[w.heap.size]?=some (.cells #[.string word,.bool fp,.bool true,.bool fc,.bool fy,.bool fa,.bool true,.bool true] 137)/\
       wr.heap[w.heap.size+1]?=some (.cells #[.int .i64 dk,.int .i64 dd,.string pl,.string frm,.slice B ps.length c,.int .i64 cl,.int .i64 yr] 60)/\
       wr.heap[w.heap.size+2]?=some (.cells #[.int .i64 s.num,.int .i64 s.den] 50)) (λi _=>ps.length-(intOf i).toNat)
      case atStart=>
       exact MN
      case round=>
       skip
       obtain⟨k,hk,rfl,s,hx,cE,ay,kR,hB,hsz,g0,g1,g2⟩:=hrel;have a0:wr.cell? ⟨w.heap.size,2,none⟩=some (.bool true):=McW;exact Ml

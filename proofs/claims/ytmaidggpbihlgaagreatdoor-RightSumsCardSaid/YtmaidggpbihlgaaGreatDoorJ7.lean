/- Walk of chapter 5's CheckDeed. -/
import Derived.Test.YtmaidggpbihlgaaGreatDoorJ6
set_option linter.unusedSimpArgs false
set_option linter.unusedVariables false
namespace Go.Proofs.YtmaidggpbihlgaaGreatDoor
open Go.RowKit
attribute [local go_sem] World.cell?_alloc_mark ext_size ext_cell ext_frozen lt_add_r lt_add_r2 lt_add_r3 lt_add_r4 lt_add_r5 lt_add_r6 lt_add_r7 lt_add_r8
attribute [local go_sem] ext_setCell alloc_setCell_lt
def FormsIn (w:World):Prop:=0<w.heap.size/\ ∀k (f:Form),formsL[k]?=some f-> ∀j u,f.cells[j]?=some u->w.cell? ⟨0,k*8+j,none⟩=some u
theorem FormsIn.keep {w W:World} {n:Nat} (h:FormsIn w) (hB:Below n w W) (hn:w.heap.size<=n:=by first|exact Nat.le_refl _|omega):FormsIn W:=
 ⟨Nat.lt_of_lt_of_le h.1 hB.size,fun k f hf j u hu=>(hB.cell (p:=⟨0,_,none⟩) (Nat.lt_of_lt_of_le h.1 hn)).trans (h.2 k f hf j u hu)⟩
def okLens (d:Deed):Prop:=d.place.size<=100000/\d.frm.size<=100000/\(∀p∈d.to,p.name.size<=100000)/\d.to.length<=100000
def checkDeedQ (d:Deed):Int:=
 if !inR d.kind 0 8 then 15 else
 if !isDayP d.day||!inR d.cls 0 4||!inR d.years 0 99 then 2 else
 if decide (8<d.to.length)then 8 else
 if !nameOr d.place||!nameOr d.frm||d.to.any (fun p=>!isNameP p.name)then 4 else
 let f:=formsL.getD d.kind.toNat ⟨⟨#[]⟩,false,false,false,false,false,false,false⟩
 if(f.place != !noB d.place||f.frm != !noB d.frm)||(!f.cls&&d.cls != 0)||(!f.years&&d.years != 0)then 3 else
 if d.years==0&&(d.kind==3||(d.kind==0&&d.cls==2))then 3 else
 if !rightF f d.frm d.to then 3 else 0
set_option maxRecDepth 100000 in
set_option maxHeartbeats 2000000 in
theorem cdc_any (q:RPart) (W:World) (hs:q.name.size<=100000):
 Calls Tryz.prog 79 #[.agg #[.string q.name, .int .i64 q.num, .int .i64 q.den]] W (Ret W (.bool (!isNameP q.name))):=by
 go_enter Tryz.func79,Tryz.ntmps79
 go_wp2_with (go_at_call 64;refine(isName5_any _ _ hs).mono ?_;intro e wq hq;rcases Ret0.bools hq with⟨rfl,⟨hb,rfl⟩|⟨hb,rfl⟩⟩<;>clear hq)
 all_goals go_ret
 all_goals exact Ret.of (bool_eq (by simp[*])) Bw
theorem cdc_gives (xs:List RPart) (w:World) (hs: ∀p∈xs,p.name.size<=100000):
 GivesOn 79 #[] (fun x=> .agg (RPart.cells x).toArray) (fun q=>!isNameP q.name) xs w:=fun x hx W hW=>by
 refine(cdc_any x W (hs x hx)).mono ?_
 rintro e wq ⟨rfl,z,rfl⟩
 exact⟨rfl,hW.trans ((below_ext W z).mono hW.size)⟩
set_option maxRecDepth 100000 in
set_option maxHeartbeats 2000000 in
theorem checkDeedQ_any (d:Deed) (B:Option Addr) (c:Nat) (w:World) (hF:FormsIn w) (hO:okLens d) (hcap:d.to.length<=c) (hS:Sl w 3 RPart.cells B d.to):
 Calls Tryz.prog 36 #[.agg #[.int .i64 d.kind, .int .i64 d.day, .string d.place, .string d.frm, .slice B d.to.length c, .int .i64 d.cls, .int .i64 d.years]] w (Ret w (.int .i64 (checkDeedQ d))):=by
 obtain⟨kd,dy,pl,fr,ps,cl,yr⟩:=d
 obtain⟨o1,o2,o3,o4⟩:=hO
 simp only at*
 have eg: ∀args w,(callFunc 79 args).run Tryz.prog w= .ok (.enter 79 args) w:=enters_of Tryz.func79 (by kernel_rfl) rfl
 have HS:=Lib.hid hS
 have HC:=Lib.hid hcap
 have HN:=Lib.hid o3
 have HL:=Lib.hid o4
 clear hS hcap o3 o4
 generalize hR:checkDeedQ ⟨kd,dy,pl,fr,ps,cl,yr⟩=R
 have HR:=Lib.hid hR
 clear hR
 go_enter Tryz.func36,Tryz.ntmps36
 by_cases hk:inR kd 0 8=true
 ·obtain⟨k,rfl,hk9⟩: ∃k:Nat,kd=k/\k<9:=by
   simp[inR]at hk
   exact⟨kd.toNat,by omega,by omega⟩
  have hlt:k<formsL.length:=hk9
  have hcs:=hF.2 k _ (List.getElem?_eq_getElem hlt)
  have hgt:0<w.heap.size:=hF.1
  have hf:formsL.getD ((k:Int).toNat) ⟨⟨#[]⟩,false,false,false,false,false,false,false⟩=formsL[k]:=by
   rw[List.getD_eq_getElem?_getD,Int.toNat_natCast,List.getElem?_eq_getElem hlt];rfl
  generalize formsL[k]=f at hcs hf
  obtain⟨word,fp,ff,fc,fy,fa,fpt,fs⟩:=f
  have f0:w.cell? ⟨0,k*8,none⟩=some (.string word):=hcs 0 _ rfl
  have f1:w.cell? ⟨0,k*8+1,none⟩=some (.bool fp):=hcs 1 _ rfl
  have f2:w.cell? ⟨0,k*8+2,none⟩=some (.bool ff):=hcs 2 _ rfl
  have f3:w.cell? ⟨0,k*8+3,none⟩=some (.bool fc):=hcs 3 _ rfl
  have f4:w.cell? ⟨0,k*8+4,none⟩=some (.bool fy):=hcs 4 _ rfl
  have f5:w.cell? ⟨0,k*8+5,none⟩=some (.bool fa):=hcs 5 _ rfl
  have f6:w.cell? ⟨0,k*8+6,none⟩=some (.bool fpt):=hcs 6 _ rfl
  have f7:w.cell? ⟨0,k*8+7,none⟩=some (.bool fs):=hcs 7 _ rfl
  have HFF:=Lib.hid hf
  clear hcs hF hf
  have k0:(0:Int)<=(k:Int):=by omega
  have k9:(k:Int)<9:=by omega
  go_upto_region 3 with(go_at_call 77;refine(within5_any _ _ _ _).mono ?_;rintro e wq ⟨rfl,rfl⟩;rw[hk])
  go_upto_region 7 with(first
                         |(go_at_call 77;refine(within5_any _ _ _ _).mono ?_;intro e wq hq;rcases Ret0.bools hq with⟨rfl,⟨hb,rfl⟩|⟨hb,rfl⟩⟩<;>clear hq)
                         |(go_at_call 65;refine(isDay5_any _ _).mono ?_;intro e wq hq;rcases Ret0.bools hq with⟨rfl,⟨hb,rfl⟩|⟨hb,rfl⟩⟩<;>clear hq)
                         |(go_at_call 64;refine(isName5_any _ _ (by assumption)).mono ?_;intro e wq hq;rcases Ret0.bools hq with⟨rfl,⟨hb,rfl⟩|⟨hb,rfl⟩⟩<;>clear hq)
                         |(go_at_call 78;refine(cfPart_any _ _ eg (fun q:RPart=>!isNameP q.name) _ _ _ ps _ rfl HL.out (HS.out.keep (n:=w.heap.size) Bw) (cdc_gives ps _ HN.out)).mono ?_;intro e wq hq;rcases Ret.bools hq with⟨zq,rfl,⟨hb,rfl⟩|⟨hb,rfl⟩⟩<;>clear hq)
                         |(go_at_call 80;refine(formRight_any ⟨word,fp,ff,fc,fy,fa,fpt,fs⟩ _ _ _ _ _ _ ps _ _ _ _ rfl (by omega) HC.out (HS.out.keep (n:=w.heap.size) Bw)).mono ?_;intro e wq hq;rcases Ret.bools hq with⟨zq,rfl,⟨hb,rfl⟩|⟨hb,rfl⟩⟩<;>clear hq))
  all_goals(try(go_ret;exact Ret.of (int_eq (by rw[<-HR.out];first|(simp[checkDeedQ, *];done)|(simp[checkDeedQ, *];omega))) Bw))
  go_cut [31]from 4 (fun v wc=>v= .bool (!nameOr pl)/\Below w.heap.size w wc/\w.heap.size+1<=wc.heap.size/\wc.heap[w.heap.size]?=some (.cells #[.int .i64 (k:Int), .int .i64 dy, .string pl, .string fr, .slice B ps.length c, .int .i64 cl, .int .i64 yr] 56))
  case first=>
   go_wp2_with (first
                 |(go_at_call 77;refine(within5_any _ _ _ _).mono ?_;intro e wq hq;rcases Ret0.bools hq with⟨rfl,⟨hb,rfl⟩|⟨hb,rfl⟩⟩<;>clear hq)
                 |(go_at_call 65;refine(isDay5_any _ _).mono ?_;intro e wq hq;rcases Ret0.bools hq with⟨rfl,⟨hb,rfl⟩|⟨hb,rfl⟩⟩<;>clear hq)
                 |(go_at_call 64;refine(isName5_any _ _ (by assumption)).mono ?_;intro e wq hq;rcases Ret0.bools hq with⟨rfl,⟨hb,rfl⟩|⟨hb,rfl⟩⟩<;>clear hq)
                 |(go_at_call 78;refine(cfPart_any _ _ eg (fun q:RPart=>!isNameP q.name) _ _ _ ps _ rfl HL.out (HS.out.keep (n:=w.heap.size) Bw) (cdc_gives ps _ HN.out)).mono ?_;intro e wq hq;rcases Ret.bools hq with⟨zq,rfl,⟨hb,rfl⟩|⟨hb,rfl⟩⟩<;>clear hq)
                 |(go_at_call 80;refine(formRight_any ⟨word,fp,ff,fc,fy,fa,fpt,fs⟩ _ _ _ _ _ _ ps _ _ _ _ rfl (by omega) HC.out (HS.out.keep (n:=w.heap.size) Bw)).mono ?_;intro e wq hq;rcases Ret.bools hq with⟨zq,rfl,⟨hb,rfl⟩|⟨hb,rfl⟩⟩<;>clear hq))
   all_goals go_meet
   all_goals(refine⟨bool_eq (by first|exact hb.symm|simp[nameOr,noB, *]),Bw,by first|omega|(simp[ext_size];done)|(simp[ext_size];omega),?_⟩;exact J_new _ _ _ rfl)
  case rest=>
   obtain⟨rfl,hB,hsz,g0⟩:=hcut
   have d0:wc.cell? ⟨w.heap.size,0,none⟩=some (.int .i64 (k:Int)):=by simp[World.cell?,g0]
   have d1:wc.cell? ⟨w.heap.size,1,none⟩=some (.int .i64 dy):=by simp[World.cell?,g0]
   have d2:wc.cell? ⟨w.heap.size,2,none⟩=some (.string pl):=by simp[World.cell?,g0]
   have d3:wc.cell? ⟨w.heap.size,3,none⟩=some (.string fr):=by simp[World.cell?,g0]
   have d4:wc.cell? ⟨w.heap.size,4,none⟩=some (.slice B ps.length c):=by simp[World.cell?,g0]
   have d5:wc.cell? ⟨w.heap.size,5,none⟩=some (.int .i64 cl):=by simp[World.cell?,g0]
   have d6:wc.cell? ⟨w.heap.size,6,none⟩=some (.int .i64 yr):=by simp[World.cell?,g0]
   have e0:w.heap.size<wc.heap.size:=by omega
   have e1:w.heap.size≠wc.heap.size:=by omega
   cases hn1:nameOr pl
   ·(go_wp2_with fail
     go_ret
     exact Ret.of (int_eq (by rw[<-HR.out];first|(simp[checkDeedQ, *];done)|(simp[checkDeedQ, *];omega))) Bw)
   ·go_upto_region 8 with fail
    go_cut [31]from 4 (fun v wc=>v= .bool (!nameOr fr)/\Below w.heap.size w wc/\w.heap.size+1<=wc.heap.size/\wc.heap[w.heap.size]?=some (.cells #[.int .i64 (k:Int), .int .i64 dy, .string pl, .string fr, .slice B ps.length c, .int .i64 cl, .int .i64 yr] 56))
    case first=>
     go_wp2_with (first
                   |(go_at_call 77;refine(within5_any _ _ _ _).mono ?_;intro e wq hq;rcases Ret0.bools hq with⟨rfl,⟨hb,rfl⟩|⟨hb,rfl⟩⟩<;>clear hq)
                   |(go_at_call 65;refine(isDay5_any _ _).mono ?_;intro e wq hq;rcases Ret0.bools hq with⟨rfl,⟨hb,rfl⟩|⟨hb,rfl⟩⟩<;>clear hq)
                   |(go_at_call 64;refine(isName5_any _ _ (by assumption)).mono ?_;intro e wq hq;rcases Ret0.bools hq with⟨rfl,⟨hb,rfl⟩|⟨hb,rfl⟩⟩<;>clear hq)
                   |(go_at_call 78;refine(cfPart_any _ _ eg (fun q:RPart=>!isNameP q.name) _ _ _ ps _ rfl HL.out (HS.out.keep (n:=w.heap.size) Bw) (cdc_gives ps _ HN.out)).mono ?_;intro e wq hq;rcases Ret.bools hq with⟨zq,rfl,⟨hb,rfl⟩|⟨hb,rfl⟩⟩<;>clear hq)
                   |(go_at_call 80;refine(formRight_any ⟨word,fp,ff,fc,fy,fa,fpt,fs⟩ _ _ _ _ _ _ ps _ _ _ _ rfl (by omega) HC.out (HS.out.keep (n:=w.heap.size) Bw)).mono ?_;intro e wq hq;rcases Ret.bools hq with⟨zq,rfl,⟨hb,rfl⟩|⟨hb,rfl⟩⟩<;>clear hq))
     all_goals go_meet
     all_goals(refine⟨bool_eq (by first|exact hb.symm|simp[nameOr,noB, *]),Bw,by first|omega|(simp[ext_size];done)|(simp[ext_size];omega),?_⟩;repeat(first|assumption|with_reducible refine J_alloc ?_|with_reducible refine J_ext ?_|with_reducible refine J_ne (by omega) ?_))
    case rest=>
     obtain⟨rfl,hB,hsz,g0⟩:=hcut
     have d0:wc.cell? ⟨w.heap.size,0,none⟩=some (.int .i64 (k:Int)):=by simp[World.cell?,g0]
     have d1:wc.cell? ⟨w.heap.size,1,none⟩=some (.int .i64 dy):=by simp[World.cell?,g0]
     have d2:wc.cell? ⟨w.heap.size,2,none⟩=some (.string pl):=by simp[World.cell?,g0]
     have d3:wc.cell? ⟨w.heap.size,3,none⟩=some (.string fr):=by simp[World.cell?,g0]
     have d4:wc.cell? ⟨w.heap.size,4,none⟩=some (.slice B ps.length c):=by simp[World.cell?,g0]
     have d5:wc.cell? ⟨w.heap.size,5,none⟩=some (.int .i64 cl):=by simp[World.cell?,g0]
     have d6:wc.cell? ⟨w.heap.size,6,none⟩=some (.int .i64 yr):=by simp[World.cell?,g0]
     have e0:w.heap.size<wc.heap.size:=by omega
     have e1:w.heap.size≠wc.heap.size:=by omega
     cases hn2:nameOr fr
     ·(go_wp2_with fail
       go_ret
       exact Ret.of (int_eq (by rw[<-HR.out];first|(simp[checkDeedQ, *];done)|(simp[checkDeedQ, *];omega))) Bw)
     ·have h8: ¬8<ps.length:=by omega
      go_upto_region 9 with fail
      go_cut [31]from 4 (fun v wc=>v= .bool (ps.any (fun p=>!isNameP p.name))/\Below w.heap.size w wc/\w.heap.size+1<=wc.heap.size/\wc.heap[w.heap.size]?=some (.cells #[.int .i64 (k:Int), .int .i64 dy, .string pl, .string fr, .slice B ps.length c, .int .i64 cl, .int .i64 yr] 56))
      case first=>
       go_wp2_with (first
                     |(go_at_call 77;refine(within5_any _ _ _ _).mono ?_;intro e wq hq;rcases Ret0.bools hq with⟨rfl,⟨hb,rfl⟩|⟨hb,rfl⟩⟩<;>clear hq)
                     |(go_at_call 65;refine(isDay5_any _ _).mono ?_;intro e wq hq;rcases Ret0.bools hq with⟨rfl,⟨hb,rfl⟩|⟨hb,rfl⟩⟩<;>clear hq)
                     |(go_at_call 64;refine(isName5_any _ _ (by assumption)).mono ?_;intro e wq hq;rcases Ret0.bools hq with⟨rfl,⟨hb,rfl⟩|⟨hb,rfl⟩⟩<;>clear hq)
                     |(go_at_call 78;refine(cfPart_any _ _ eg (fun q:RPart=>!isNameP q.name) _ _ _ ps _ rfl HL.out (HS.out.keep (n:=w.heap.size) Bw) (cdc_gives ps _ HN.out)).mono ?_;intro e wq hq;rcases Ret.bools hq with⟨zq,rfl,⟨hb,rfl⟩|⟨hb,rfl⟩⟩<;>clear hq)
                     |(go_at_call 80;refine(formRight_any ⟨word,fp,ff,fc,fy,fa,fpt,fs⟩ _ _ _ _ _ _ ps _ _ _ _ rfl (by omega) HC.out (HS.out.keep (n:=w.heap.size) Bw)).mono ?_;intro e wq hq;rcases Ret.bools hq with⟨zq,rfl,⟨hb,rfl⟩|⟨hb,rfl⟩⟩<;>clear hq))
       all_goals go_meet
       all_goals(refine⟨bool_eq (by first|exact hb.symm|simp[nameOr,noB, *]),Bw,by first|omega|(simp[ext_size];done)|(simp[ext_size];omega),?_⟩;repeat(first|assumption|with_reducible refine J_alloc ?_|with_reducible refine J_ext ?_|with_reducible refine J_ne (by omega) ?_))
      case rest=>
       obtain⟨rfl,hB,hsz,g0⟩:=hcut
       have d0:wc.cell? ⟨w.heap.size,0,none⟩=some (.int .i64 (k:Int)):=by simp[World.cell?,g0]
       have d1:wc.cell? ⟨w.heap.size,1,none⟩=some (.int .i64 dy):=by simp[World.cell?,g0]
       have d2:wc.cell? ⟨w.heap.size,2,none⟩=some (.string pl):=by simp[World.cell?,g0]
       have d3:wc.cell? ⟨w.heap.size,3,none⟩=some (.string fr):=by simp[World.cell?,g0]
       have d4:wc.cell? ⟨w.heap.size,4,none⟩=some (.slice B ps.length c):=by simp[World.cell?,g0]
       have d5:wc.cell? ⟨w.heap.size,5,none⟩=some (.int .i64 cl):=by simp[World.cell?,g0]
       have d6:wc.cell? ⟨w.heap.size,6,none⟩=some (.int .i64 yr):=by simp[World.cell?,g0]
       have e0:w.heap.size<wc.heap.size:=by omega
       have e1:w.heap.size≠wc.heap.size:=by omega
       cases hn3:ps.any (fun p=>!isNameP p.name)
       ·replace f0:=(hB.cell (p:=⟨0,k*8,none⟩) hgt).trans f0
        replace f1:=(hB.cell (p:=⟨0,k*8+1,none⟩) hgt).trans f1
        replace f2:=(hB.cell (p:=⟨0,k*8+2,none⟩) hgt).trans f2
        replace f3:=(hB.cell (p:=⟨0,k*8+3,none⟩) hgt).trans f3
        replace f4:=(hB.cell (p:=⟨0,k*8+4,none⟩) hgt).trans f4
        replace f5:=(hB.cell (p:=⟨0,k*8+5,none⟩) hgt).trans f5
        replace f6:=(hB.cell (p:=⟨0,k*8+6,none⟩) hgt).trans f6
        replace f7:=(hB.cell (p:=⟨0,k*8+7,none⟩) hgt).trans f7
        obtain⟨q,hq⟩: ∃q,wc.heap.size=q:=⟨_,rfl⟩
        have HQ:=Lib.hid hq
        have e9:w.heap.size<q:=by omega
        have e8:w.heap.size≠q:=by omega
        clear hq
        go_upto_region 11 with fail
        go_cut [0,3]from 4 (fun v0 v wc=>v= .pointer (some ⟨q,0,none⟩)/\Below w.heap.size w wc/\q<wc.heap.size/\wc.heap[w.heap.size]?=some (.cells #[.int .i64 (k:Int), .int .i64 dy, .string pl, .string fr, .slice B ps.length c, .int .i64 cl, .int .i64 yr] 56)/\wc.heap[q]?=some (.cells #[.string word, .bool fp, .bool ff, .bool fc, .bool fy, .bool fa, .bool fpt, .bool fs] 144))
        case first=>
         go_wp2_with fail
         all_goals go_meet
         all_goals(exact⟨by rw[HQ.out],Bw,by simp[HQ.out],by repeat(first|assumption|with_reducible refine J_alloc ?_|with_reducible refine J_ext ?_|with_reducible refine J_ne (by omega) ?_),J_new _ _ _ HQ.out.symm⟩)
        case rest=>
         obtain⟨rfl,hB,hsz,g0,g1⟩:=hcut
         have d0:wc.cell? ⟨w.heap.size,0,none⟩=some (.int .i64 (k:Int)):=by simp[World.cell?,g0]
         have d1:wc.cell? ⟨w.heap.size,1,none⟩=some (.int .i64 dy):=by simp[World.cell?,g0]
         have d2:wc.cell? ⟨w.heap.size,2,none⟩=some (.string pl):=by simp[World.cell?,g0]
         have d3:wc.cell? ⟨w.heap.size,3,none⟩=some (.string fr):=by simp[World.cell?,g0]
         have d4:wc.cell? ⟨w.heap.size,4,none⟩=some (.slice B ps.length c):=by simp[World.cell?,g0]
         have d5:wc.cell? ⟨w.heap.size,5,none⟩=some (.int .i64 cl):=by simp[World.cell?,g0]
         have d6:wc.cell? ⟨w.heap.size,6,none⟩=some (.int .i64 yr):=by simp[World.cell?,g0]
         have e0:w.heap.size<wc.heap.size:=by omega
         have e1:w.heap.size≠wc.heap.size:=by omega
         have c0:wc.cell? ⟨q,0,none⟩=some (.string word):=by simp[World.cell?,g1]
         have c1:wc.cell? ⟨q,1,none⟩=some (.bool fp):=by simp[World.cell?,g1]
         have c2:wc.cell? ⟨q,2,none⟩=some (.bool ff):=by simp[World.cell?,g1]
         have c3:wc.cell? ⟨q,3,none⟩=some (.bool fc):=by simp[World.cell?,g1]
         have c4:wc.cell? ⟨q,4,none⟩=some (.bool fy):=by simp[World.cell?,g1]
         have c5:wc.cell? ⟨q,5,none⟩=some (.bool fa):=by simp[World.cell?,g1]
         have c6:wc.cell? ⟨q,6,none⟩=some (.bool fpt):=by simp[World.cell?,g1]
         have c7:wc.cell? ⟨q,7,none⟩=some (.bool fs):=by simp[World.cell?,g1]
         have e2:q≠wc.heap.size:=by omega
         go_upto_region 12 with fail
         go_cut [57]from 4 (fun v wc=>v= .bool (fp != !noB pl||ff != !noB fr)/\Below w.heap.size w wc/\q<wc.heap.size/\wc.heap[w.heap.size]?=some (.cells #[.int .i64 (k:Int), .int .i64 dy, .string pl, .string fr, .slice B ps.length c, .int .i64 cl, .int .i64 yr] 56)/\wc.heap[q]?=some (.cells #[.string word, .bool fp, .bool ff, .bool fc, .bool fy, .bool fa, .bool fpt, .bool fs] 144))
         case first=>
          go_wp2_with fail
          all_goals go_meet
          all_goals(refine⟨bool_eq (by first|(simp[noB, *];done)|(rw[Bool.eq_iff_iff];simp[noB];simp[*];done)|(cases fp<;>cases ff<;>simp_all[noB])),Bw,by first|omega|(simp[ext_size];done)|(simp[ext_size];omega),?_,?_⟩)
          all_goals(repeat(first|assumption|with_reducible refine J_alloc ?_|with_reducible refine J_ext ?_|with_reducible refine J_ne (by omega) ?_))
         case rest=>
          obtain⟨rfl,hB,hsz,g0,g1⟩:=hcut
          have d0:wc.cell? ⟨w.heap.size,0,none⟩=some (.int .i64 (k:Int)):=by simp[World.cell?,g0]
          have d1:wc.cell? ⟨w.heap.size,1,none⟩=some (.int .i64 dy):=by simp[World.cell?,g0]
          have d2:wc.cell? ⟨w.heap.size,2,none⟩=some (.string pl):=by simp[World.cell?,g0]
          have d3:wc.cell? ⟨w.heap.size,3,none⟩=some (.string fr):=by simp[World.cell?,g0]
          have d4:wc.cell? ⟨w.heap.size,4,none⟩=some (.slice B ps.length c):=by simp[World.cell?,g0]
          have d5:wc.cell? ⟨w.heap.size,5,none⟩=some (.int .i64 cl):=by simp[World.cell?,g0]
          have d6:wc.cell? ⟨w.heap.size,6,none⟩=some (.int .i64 yr):=by simp[World.cell?,g0]
          have e0:w.heap.size<wc.heap.size:=by omega
          have e1:w.heap.size≠wc.heap.size:=by omega
          have c0:wc.cell? ⟨q,0,none⟩=some (.string word):=by simp[World.cell?,g1]
          have c1:wc.cell? ⟨q,1,none⟩=some (.bool fp):=by simp[World.cell?,g1]
          have c2:wc.cell? ⟨q,2,none⟩=some (.bool ff):=by simp[World.cell?,g1]
          have c3:wc.cell? ⟨q,3,none⟩=some (.bool fc):=by simp[World.cell?,g1]
          have c4:wc.cell? ⟨q,4,none⟩=some (.bool fy):=by simp[World.cell?,g1]
          have c5:wc.cell? ⟨q,5,none⟩=some (.bool fa):=by simp[World.cell?,g1]
          have c6:wc.cell? ⟨q,6,none⟩=some (.bool fpt):=by simp[World.cell?,g1]
          have c7:wc.cell? ⟨q,7,none⟩=some (.bool fs):=by simp[World.cell?,g1]
          have e2:q≠wc.heap.size:=by omega
          cases hn4:(fp != !noB pl||ff != !noB fr)
          ·go_upto_region 13 with fail
           go_cut [57]from 4 (fun v wc=>v= .bool (!fc&&cl != 0)/\Below w.heap.size w wc/\q<wc.heap.size/\wc.heap[w.heap.size]?=some (.cells #[.int .i64 (k:Int), .int .i64 dy, .string pl, .string fr, .slice B ps.length c, .int .i64 cl, .int .i64 yr] 56)/\wc.heap[q]?=some (.cells #[.string word, .bool fp, .bool ff, .bool fc, .bool fy, .bool fa, .bool fpt, .bool fs] 144))
           case first=>
            go_wp2_with fail
            all_goals go_meet
            all_goals(refine⟨bool_eq (by first|(simp[noB, *];done)|(rw[Bool.eq_iff_iff];simp[noB];simp[*];done)|(cases fp<;>cases ff<;>simp_all[noB])),Bw,by first|omega|(simp[ext_size];done)|(simp[ext_size];omega),?_,?_⟩)
            all_goals(repeat(first|assumption|with_reducible refine J_alloc ?_|with_reducible refine J_ext ?_|with_reducible refine J_ne (by omega) ?_))
           case rest=>
            obtain⟨rfl,hB,hsz,g0,g1⟩:=hcut
            have d0:wc.cell? ⟨w.heap.size,0,none⟩=some (.int .i64 (k:Int)):=by simp[World.cell?,g0]
            have d1:wc.cell? ⟨w.heap.size,1,none⟩=some (.int .i64 dy):=by simp[World.cell?,g0]
            have d2:wc.cell? ⟨w.heap.size,2,none⟩=some (.string pl):=by simp[World.cell?,g0]
            have d3:wc.cell? ⟨w.heap.size,3,none⟩=some (.string fr):=by simp[World.cell?,g0]
            have d4:wc.cell? ⟨w.heap.size,4,none⟩=some (.slice B ps.length c):=by simp[World.cell?,g0]
            have d5:wc.cell? ⟨w.heap.size,5,none⟩=some (.int .i64 cl):=by simp[World.cell?,g0]
            have d6:wc.cell? ⟨w.heap.size,6,none⟩=some (.int .i64 yr):=by simp[World.cell?,g0]
            have e0:w.heap.size<wc.heap.size:=by omega
            have e1:w.heap.size≠wc.heap.size:=by omega
            have c0:wc.cell? ⟨q,0,none⟩=some (.string word):=by simp[World.cell?,g1]
            have c1:wc.cell? ⟨q,1,none⟩=some (.bool fp):=by simp[World.cell?,g1]
            have c2:wc.cell? ⟨q,2,none⟩=some (.bool ff):=by simp[World.cell?,g1]
            have c3:wc.cell? ⟨q,3,none⟩=some (.bool fc):=by simp[World.cell?,g1]
            have c4:wc.cell? ⟨q,4,none⟩=some (.bool fy):=by simp[World.cell?,g1]
            have c5:wc.cell? ⟨q,5,none⟩=some (.bool fa):=by simp[World.cell?,g1]
            have c6:wc.cell? ⟨q,6,none⟩=some (.bool fpt):=by simp[World.cell?,g1]
            have c7:wc.cell? ⟨q,7,none⟩=some (.bool fs):=by simp[World.cell?,g1]
            have e2:q≠wc.heap.size:=by omega
            cases hn5:(!fc&&cl != 0)
            ·go_upto_region 14 with fail
             go_cut [57]from 4 (fun v wc=>v= .bool (!fy&&yr != 0)/\Below w.heap.size w wc/\q<wc.heap.size/\wc.heap[w.heap.size]?=some (.cells #[.int .i64 (k:Int), .int .i64 dy, .string pl, .string fr, .slice B ps.length c, .int .i64 cl, .int .i64 yr] 56)/\wc.heap[q]?=some (.cells #[.string word, .bool fp, .bool ff, .bool fc, .bool fy, .bool fa, .bool fpt, .bool fs] 144))
             case first=>
              go_wp2_with fail
              all_goals go_meet
              all_goals(refine⟨bool_eq (by first|(simp[noB, *];done)|(rw[Bool.eq_iff_iff];simp[noB];simp[*];done)|(cases fp<;>cases ff<;>simp_all[noB])),Bw,by first|omega|(simp[ext_size];done)|(simp[ext_size];omega),?_,?_⟩)
              all_goals(repeat(first|assumption|with_reducible refine J_alloc ?_|with_reducible refine J_ext ?_|with_reducible refine J_ne (by omega) ?_))
             case rest=>
              obtain⟨rfl,hB,hsz,g0,g1⟩:=hcut
              have d0:wc.cell? ⟨w.heap.size,0,none⟩=some (.int .i64 (k:Int)):=by simp[World.cell?,g0]
              have d1:wc.cell? ⟨w.heap.size,1,none⟩=some (.int .i64 dy):=by simp[World.cell?,g0]
              have d2:wc.cell? ⟨w.heap.size,2,none⟩=some (.string pl):=by simp[World.cell?,g0]
              have d3:wc.cell? ⟨w.heap.size,3,none⟩=some (.string fr):=by simp[World.cell?,g0]
              have d4:wc.cell? ⟨w.heap.size,4,none⟩=some (.slice B ps.length c):=by simp[World.cell?,g0]
              have d5:wc.cell? ⟨w.heap.size,5,none⟩=some (.int .i64 cl):=by simp[World.cell?,g0]
              have d6:wc.cell? ⟨w.heap.size,6,none⟩=some (.int .i64 yr):=by simp[World.cell?,g0]
              have e0:w.heap.size<wc.heap.size:=by omega
              have e1:w.heap.size≠wc.heap.size:=by omega
              have c0:wc.cell? ⟨q,0,none⟩=some (.string word):=by simp[World.cell?,g1]
              have c1:wc.cell? ⟨q,1,none⟩=some (.bool fp):=by simp[World.cell?,g1]
              have c2:wc.cell? ⟨q,2,none⟩=some (.bool ff):=by simp[World.cell?,g1]
              have c3:wc.cell? ⟨q,3,none⟩=some (.bool fc):=by simp[World.cell?,g1]
              have c4:wc.cell? ⟨q,4,none⟩=some (.bool fy):=by simp[World.cell?,g1]
              have c5:wc.cell? ⟨q,5,none⟩=some (.bool fa):=by simp[World.cell?,g1]
              have c6:wc.cell? ⟨q,6,none⟩=some (.bool fpt):=by simp[World.cell?,g1]
              have c7:wc.cell? ⟨q,7,none⟩=some (.bool fs):=by simp[World.cell?,g1]
              have e2:q≠wc.heap.size:=by omega
              cases hn6:(!fy&&yr != 0)
              ·go_upto_region 16 with fail
               go_cut [88]from 4 (fun v wc=>v= .bool (yr==0&&((k:Int)==3||((k:Int)==0&&cl==2)))/\Below w.heap.size w wc/\q<wc.heap.size/\wc.heap[w.heap.size]?=some (.cells #[.int .i64 (k:Int), .int .i64 dy, .string pl, .string fr, .slice B ps.length c, .int .i64 cl, .int .i64 yr] 56)/\wc.heap[q]?=some (.cells #[.string word, .bool fp, .bool ff, .bool fc, .bool fy, .bool fa, .bool fpt, .bool fs] 144))
               case first=>
                go_wp2_with fail
                all_goals go_meet
                all_goals(refine⟨bool_eq (by first|(simp[noB, *];done)|(rw[Bool.eq_iff_iff];simp[noB];simp[*];done)|(cases fp<;>cases ff<;>simp_all[noB])),Bw,by first|omega|(simp[ext_size];done)|(simp[ext_size];omega),?_,?_⟩)
                all_goals(repeat(first|assumption|with_reducible refine J_alloc ?_|with_reducible refine J_ext ?_|with_reducible refine J_ne (by omega) ?_))
               case rest=>
                obtain⟨rfl,hB,hsz,g0,g1⟩:=hcut
                have d0:wc.cell? ⟨w.heap.size,0,none⟩=some (.int .i64 (k:Int)):=by simp[World.cell?,g0]
                have d1:wc.cell? ⟨w.heap.size,1,none⟩=some (.int .i64 dy):=by simp[World.cell?,g0]
                have d2:wc.cell? ⟨w.heap.size,2,none⟩=some (.string pl):=by simp[World.cell?,g0]
                have d3:wc.cell? ⟨w.heap.size,3,none⟩=some (.string fr):=by simp[World.cell?,g0]
                have d4:wc.cell? ⟨w.heap.size,4,none⟩=some (.slice B ps.length c):=by simp[World.cell?,g0]
                have d5:wc.cell? ⟨w.heap.size,5,none⟩=some (.int .i64 cl):=by simp[World.cell?,g0]
                have d6:wc.cell? ⟨w.heap.size,6,none⟩=some (.int .i64 yr):=by simp[World.cell?,g0]
                have e0:w.heap.size<wc.heap.size:=by omega
                have e1:w.heap.size≠wc.heap.size:=by omega
                have c0:wc.cell? ⟨q,0,none⟩=some (.string word):=by simp[World.cell?,g1]
                have c1:wc.cell? ⟨q,1,none⟩=some (.bool fp):=by simp[World.cell?,g1]
                have c2:wc.cell? ⟨q,2,none⟩=some (.bool ff):=by simp[World.cell?,g1]
                have c3:wc.cell? ⟨q,3,none⟩=some (.bool fc):=by simp[World.cell?,g1]
                have c4:wc.cell? ⟨q,4,none⟩=some (.bool fy):=by simp[World.cell?,g1]
                have c5:wc.cell? ⟨q,5,none⟩=some (.bool fa):=by simp[World.cell?,g1]
                have c6:wc.cell? ⟨q,6,none⟩=some (.bool fpt):=by simp[World.cell?,g1]
                have c7:wc.cell? ⟨q,7,none⟩=some (.bool fs):=by simp[World.cell?,g1]
                have e2:q≠wc.heap.size:=by omega
                cases hn7:(yr==0&&((k:Int)==3||((k:Int)==0&&cl==2)))
                ·go_wp2_with (first
                               |(go_at_call 77;refine(within5_any _ _ _ _).mono ?_;intro e wq hq;rcases Ret0.bools hq with⟨rfl,⟨hb,rfl⟩|⟨hb,rfl⟩⟩<;>clear hq)
                               |(go_at_call 65;refine(isDay5_any _ _).mono ?_;intro e wq hq;rcases Ret0.bools hq with⟨rfl,⟨hb,rfl⟩|⟨hb,rfl⟩⟩<;>clear hq)
                               |(go_at_call 64;refine(isName5_any _ _ (by assumption)).mono ?_;intro e wq hq;rcases Ret0.bools hq with⟨rfl,⟨hb,rfl⟩|⟨hb,rfl⟩⟩<;>clear hq)
                               |(go_at_call 78;refine(cfPart_any _ _ eg (fun q:RPart=>!isNameP q.name) _ _ _ ps _ rfl HL.out (HS.out.keep (n:=w.heap.size) Bw) (cdc_gives ps _ HN.out)).mono ?_;intro e wq hq;rcases Ret.bools hq with⟨zq,rfl,⟨hb,rfl⟩|⟨hb,rfl⟩⟩<;>clear hq)
                               |(go_at_call 80;refine(formRight_any ⟨word,fp,ff,fc,fy,fa,fpt,fs⟩ _ _ _ _ _ _ ps _ _ _ _ rfl (by omega) HC.out (HS.out.keep (n:=w.heap.size) Bw)).mono ?_;intro e wq hq;rcases Ret.bools hq with⟨zq,rfl,⟨hb,rfl⟩|⟨hb,rfl⟩⟩<;>clear hq))
                 all_goals go_ret
                 all_goals exact Ret.of (int_eq (by rw[<-HR.out];simp only[checkDeedQ,HFF.out, *,Bool.not_true,Bool.not_false,Bool.or_self,Bool.or_true,Bool.true_or,Bool.false_or,Bool.or_false,if_true,if_false,Bool.false_eq_true,ite_true,ite_false,decide_false];done)) Bw
                ·(go_wp2_with fail
                  go_ret
                  exact Ret.of (int_eq (by rw[<-HR.out];simp only[checkDeedQ,HFF.out, *,Bool.not_true,Bool.not_false,Bool.or_self,Bool.or_true,Bool.true_or,Bool.false_or,Bool.or_false,if_true,if_false,Bool.false_eq_true,ite_true,ite_false,decide_false];done)) Bw)
              ·(go_wp2_with fail
                go_ret
                exact Ret.of (int_eq (by rw[<-HR.out];simp only[checkDeedQ,HFF.out, *,Bool.not_true,Bool.not_false,Bool.or_self,Bool.or_true,Bool.true_or,Bool.false_or,Bool.or_false,if_true,if_false,Bool.false_eq_true,ite_true,ite_false,decide_false];done)) Bw)
            ·(go_wp2_with fail
              go_ret
              exact Ret.of (int_eq (by rw[<-HR.out];simp only[checkDeedQ,HFF.out, *,Bool.not_true,Bool.not_false,Bool.or_self,Bool.or_true,Bool.true_or,Bool.false_or,Bool.or_false,if_true,if_false,Bool.false_eq_true,ite_true,ite_false,decide_false];done)) Bw)
          ·(go_wp2_with fail
            go_ret
            exact Ret.of (int_eq (by rw[<-HR.out];simp only[checkDeedQ,HFF.out, *,Bool.not_true,Bool.not_false,Bool.or_self,Bool.or_true,Bool.true_or,Bool.false_or,Bool.or_false,if_true,if_false,Bool.false_eq_true,ite_true,ite_false,decide_false];done)) Bw)
       ·(go_wp2_with fail
         go_ret
         exact Ret.of (int_eq (by rw[<-HR.out];first|(simp[checkDeedQ, *];done)|(simp[checkDeedQ, *];omega))) Bw)
 ·replace hk:inR kd 0 8=false:=by simpa using hk
  go_wp2_with (go_at_call 77;refine(within5_any _ _ _ _).mono ?_;rintro e wq ⟨rfl,rfl⟩;rw[hk])
  all_goals go_ret
  all_goals exact Ret.of (int_eq (by rw[<-HR.out];first|(simp[checkDeedQ, *];done)|(simp[checkDeedQ, *];omega))) Bw
end Go.Proofs.YtmaidggpbihlgaaGreatDoor

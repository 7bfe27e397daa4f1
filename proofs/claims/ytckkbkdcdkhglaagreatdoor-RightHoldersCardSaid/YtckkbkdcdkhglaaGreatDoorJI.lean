/- The library's Insert of one part, at parts. -/
import Derived.Test.YtckkbkdcdkhglaaGreatDoorJ6
import Derived.Test.YtckkbkdcdkhglaaGreatDoorJL
import Derived.Shelf.Spec.SlicesInsertGrow
set_option linter.unusedSimpArgs false
set_option linter.unusedVariables false
set_option maxRecDepth 100000
set_option maxHeartbeats 4000000
namespace Go.Proofs.YtckkbkdcdkhglaaGreatDoor
open Go.RowKit
attribute [local go_sem] World.cell?_alloc_mark zag za5 zaq za8 zaw zax zay zaz za0 za1 za2
attribute [local go_sem] zap zad
def FormsIn (w:World):Prop:=0<w.heap.size/\ ∀k (f:Form),zfF[k]?=some f-> ∀j u,f.cells[j]?=some u->w.cell? ⟨0,k*8+j,none⟩=some u
theorem FormsIn.keep {w W:World} {n:Nat} (h:FormsIn w) (hB:Below n w W) (hn:w.heap.size<=n:=by first|exact Nat.le_refl _|omega):FormsIn W:=
 ⟨Nat.lt_of_lt_of_le h.1 hB.size,fun k f hf j u hu=>(hB.cell (p:=⟨0,_,none⟩) (Nat.lt_of_lt_of_le h.1 hn)).trans (h.2 k f hf j u hu)⟩
def zdv (d:Deed):Prop:=d.place.size<=100000/\d.frm.size<=100000/\(∀p∈d.to,p.name.size<=100000)/\d.to.length<=100000
def zdl (d:Deed):Int:=
 if !inR d.kind 0 8 then 15 else
 if !zbm d.day||!inR d.cls 0 4||!inR d.years 0 99 then 2 else
 if decide (8<d.to.length)then 8 else
 if !zby d.place||!zby d.frm||d.to.any (fun p=>!zaR p.name)then 4 else
 let f:=zfF.getD d.kind.toNat ⟨⟨#[]⟩,false,false,false,false,false,false,false⟩
 if(f.place != !noB d.place||f.frm != !noB d.frm)||(!f.cls&&d.cls != 0)||(!f.years&&d.years != 0)then 3 else
 if d.years==0&&(d.kind==3||(d.kind==0&&d.cls==2))then 3 else
 if !zhp f d.frm d.to then 3 else 0
theorem cdc_any (q:RPart) (W:World) (hs:q.name.size<=100000):
 Calls Tryz.prog 121 #[.agg #[.string q.name, .int .i64 q.num, .int .i64 q.den]] W (Ret W (.bool (!zaR q.name))):=by
 go_enter Tryz.func121,Tryz.ntmps121
 exact MaB
theorem zgl (xs:List RPart) (w:World) (hs: ∀p∈xs,p.name.size<=100000):
 zeY 121 #[] (fun x=> .agg (RPart.cells x).toArray) (fun q=>!zaR q.name) xs w:=fun x hx W hW=>by
 refine(cdc_any x W (hs x hx)).mono ?_;exact Ma3
theorem zjm (d:Deed) (B:Option Addr) (c:Nat) (w:World) (hF:FormsIn w) (hO:zdv d) (ay:d.to.length<=c) (hS:Sl w 3 RPart.cells B d.to):
 Calls Tryz.prog 100 #[.agg #[.int .i64 d.kind, .int .i64 d.day, .string d.place, .string d.frm, .slice B d.to.length c, .int .i64 d.cls, .int .i64 d.years]] w (Ret w (.int .i64 (zdl d))):=by
 obtain⟨kd,dy,pl,fr,ps,cl,yr⟩:=d;obtain⟨o1,o2,o3,o4⟩:=hO;simp only at*;have eg: ∀args w,(callFunc 121 args).run Tryz.prog w= .ok (.enter 121 args) w:=enters_of Tryz.func121 Mcm rfl;have HS:=zHi hS;have HC:=zHi ay;have HN:=zHi o3;have HL:=zHi o4;clear hS ay o3 o4;generalize hR:zdl ⟨kd,dy,pl,fr,ps,cl,yr⟩=R;have HR:=zHi hR;clear hR;go_enter Tryz.func100,Tryz.ntmps100
 by_cases hk:inR kd 0 8=true
 ·obtain⟨k,rfl,iD⟩: ∃k:Nat,kd=k/\k<9:=by
   simp[inR]at hk;exact⟨kd.toNat,by omega,by omega⟩
  have aa:k<zfF.length:=iD;have bm:=hF.2 k _ (List.getElem?_eq_getElem aa);have eM:0<w.heap.size:=hF.1;have hf:zfF.getD ((k:Int).toNat) ⟨⟨#[]⟩,false,false,false,false,false,false,false⟩=zfF[k]:=by
   rw[List.getD_eq_getElem?_getD,Int.toNat_natCast,List.getElem?_eq_getElem aa];rfl
  generalize zfF[k]=f at bm hf;obtain⟨word,fp,ff,fc,fy,fa,fpt,fs⟩:=f;have f0:w.cell? ⟨0,k*8,none⟩=some (.string word):=bm 0 _ rfl;have f1:w.cell? ⟨0,k*8+1,none⟩=some (.bool fp):=bm 1 _ rfl;have f2:w.cell? ⟨0,k*8+2,none⟩=some (.bool ff):=bm 2 _ rfl;have f3:w.cell? ⟨0,k*8+3,none⟩=some (.bool fc):=bm 3 _ rfl;have f4:w.cell? ⟨0,k*8+4,none⟩=some (.bool fy):=bm 4 _ rfl;have f5:w.cell? ⟨0,k*8+5,none⟩=some (.bool fa):=bm 5 _ rfl;have f6:w.cell? ⟨0,k*8+6,none⟩=some (.bool fpt):=bm 6 _ rfl;have f7:w.cell? ⟨0,k*8+7,none⟩=some (.bool fs):=bm 7 _ rfl;have mY:=zHi hf;clear bm hF hf;have k0:(0:Int)<=(k:Int):=Mcl;have k9:(k:Int)<9:=Mcl;go_upto_region 3 with(go_at_call 97;refine(zbj _ _ _ _).mono ?_;rintro e wq ⟨rfl,rfl⟩;rw[hk])
  go_upto_region 7 with(first
                         |(go_at_call 97;refine(zbj _ _ _ _).mono ?_;intro e wq hq;rcases Ret0.bools hq with⟨rfl,⟨hb,rfl⟩|⟨hb,rfl⟩⟩<;>clear hq)
                         |(go_at_call 59;refine(zcN _ _).mono ?_;intro e wq hq;rcases Ret0.bools hq with⟨rfl,⟨hb,rfl⟩|⟨hb,rfl⟩⟩<;>clear hq)
                         |(go_at_call 58;refine(zca _ _ McV).mono ?_;intro e wq hq;rcases Ret0.bools hq with⟨rfl,⟨hb,rfl⟩|⟨hb,rfl⟩⟩<;>clear hq)
                         |(go_at_call 83;refine(zcO _ _ eg (fun q:RPart=>!zaR q.name) _ _ _ ps _ rfl HL.o (HS.o.keep (n:=w.heap.size) Bw) (zgl ps _ HN.o)).mono ?_;intro e wq hq;rcases Ret.bools hq with⟨zq,rfl,⟨hb,rfl⟩|⟨hb,rfl⟩⟩<;>clear hq)
                         |(go_at_call 122;refine(zd8 ⟨word,fp,ff,fc,fy,fa,fpt,fs⟩ _ _ _ _ _ _ ps _ _ _ _ rfl Mcl HC.o (HS.o.keep (n:=w.heap.size) Bw)).mono ?_;intro e wq hq;rcases Ret.bools hq with⟨zq,rfl,⟨hb,rfl⟩|⟨hb,rfl⟩⟩<;>clear hq))
  all_goals(try(go_ret;exact Ret.of (zb5 Mc5) Bw))
  go_cut [31]from 4 (fun v wc=>v= .bool (!zby pl)/\Below w.heap.size w wc/\w.heap.size+1<=wc.heap.size/\wc.heap[w.heap.size]?=some (.cells #[.int .i64 (k:Int), .int .i64 dy, .string pl, .string fr, .slice B ps.length c, .int .i64 cl, .int .i64 yr] 68))
  case first=>
   go_wp2_with (first
                 |(go_at_call 97;refine(zbj _ _ _ _).mono ?_;intro e wq hq;rcases Ret0.bools hq with⟨rfl,⟨hb,rfl⟩|⟨hb,rfl⟩⟩<;>clear hq)
                 |(go_at_call 59;refine(zcN _ _).mono ?_;intro e wq hq;rcases Ret0.bools hq with⟨rfl,⟨hb,rfl⟩|⟨hb,rfl⟩⟩<;>clear hq)
                 |(go_at_call 58;refine(zca _ _ McV).mono ?_;intro e wq hq;rcases Ret0.bools hq with⟨rfl,⟨hb,rfl⟩|⟨hb,rfl⟩⟩<;>clear hq)
                 |(go_at_call 83;refine(zcO _ _ eg (fun q:RPart=>!zaR q.name) _ _ _ ps _ rfl HL.o (HS.o.keep (n:=w.heap.size) Bw) (zgl ps _ HN.o)).mono ?_;intro e wq hq;rcases Ret.bools hq with⟨zq,rfl,⟨hb,rfl⟩|⟨hb,rfl⟩⟩<;>clear hq)
                 |(go_at_call 122;refine(zd8 ⟨word,fp,ff,fc,fy,fa,fpt,fs⟩ _ _ _ _ _ _ ps _ _ _ _ rfl Mcl HC.o (HS.o.keep (n:=w.heap.size) Bw)).mono ?_;intro e wq hq;rcases Ret.bools hq with⟨zq,rfl,⟨hb,rfl⟩|⟨hb,rfl⟩⟩<;>clear hq))
   all_goals go_meet
   all_goals(refine⟨zaP (by first|exact hb.symm|simp[zby,noB, *]),Bw,by first|omega|(simp[zag];done)|(simp[zag];omega),?_⟩;exact zar _ _ _ rfl)
  case rest=>
   obtain⟨rfl,hB,hsz,g0⟩:=hcut;have d0:wc.cell? ⟨w.heap.size,0,none⟩=some (.int .i64 (k:Int)):=Mcp;have d1:wc.cell? ⟨w.heap.size,1,none⟩=some (.int .i64 dy):=Mcp;have d2:wc.cell? ⟨w.heap.size,2,none⟩=some (.string pl):=Mcp;have d3:wc.cell? ⟨w.heap.size,3,none⟩=some (.string fr):=Mcp;have d4:wc.cell? ⟨w.heap.size,4,none⟩=some (.slice B ps.length c):=Mcp;have d5:wc.cell? ⟨w.heap.size,5,none⟩=some (.int .i64 cl):=Mcp;have d6:wc.cell? ⟨w.heap.size,6,none⟩=some (.int .i64 yr):=Mcp;have e0:w.heap.size<wc.heap.size:=Mcl;have e1:w.heap.size≠wc.heap.size:=Mcl;cases cD:zby pl
   ·exact Mal
   ·go_upto_region 8 with fail
    go_cut [31]from 4 (fun v wc=>v= .bool (!zby fr)/\Below w.heap.size w wc/\w.heap.size+1<=wc.heap.size/\wc.heap[w.heap.size]?=some (.cells #[.int .i64 (k:Int), .int .i64 dy, .string pl, .string fr, .slice B ps.length c, .int .i64 cl, .int .i64 yr] 68))
    case first=>
     exact Mz
    case rest=>
     obtain⟨rfl,hB,hsz,g0⟩:=hcut;have d0:wc.cell? ⟨w.heap.size,0,none⟩=some (.int .i64 (k:Int)):=Mcp;have d1:wc.cell? ⟨w.heap.size,1,none⟩=some (.int .i64 dy):=Mcp;have d2:wc.cell? ⟨w.heap.size,2,none⟩=some (.string pl):=Mcp;have d3:wc.cell? ⟨w.heap.size,3,none⟩=some (.string fr):=Mcp;have d4:wc.cell? ⟨w.heap.size,4,none⟩=some (.slice B ps.length c):=Mcp;have d5:wc.cell? ⟨w.heap.size,5,none⟩=some (.int .i64 cl):=Mcp;have d6:wc.cell? ⟨w.heap.size,6,none⟩=some (.int .i64 yr):=Mcp;have e0:w.heap.size<wc.heap.size:=Mcl;have e1:w.heap.size≠wc.heap.size:=Mcl;cases ed:zby fr
     ·exact Mal
     ·have h8: ¬8<ps.length:=Mcl;go_upto_region 9 with fail
      go_cut [31]from 4 (fun v wc=>v= .bool (ps.any (fun p=>!zaR p.name))/\Below w.heap.size w wc/\w.heap.size+1<=wc.heap.size/\wc.heap[w.heap.size]?=some (.cells #[.int .i64 (k:Int), .int .i64 dy, .string pl, .string fr, .slice B ps.length c, .int .i64 cl, .int .i64 yr] 68))
      case first=>
       exact Mz
      case rest=>
       obtain⟨rfl,hB,hsz,g0⟩:=hcut;have d0:wc.cell? ⟨w.heap.size,0,none⟩=some (.int .i64 (k:Int)):=Mcp;have d1:wc.cell? ⟨w.heap.size,1,none⟩=some (.int .i64 dy):=Mcp;have d2:wc.cell? ⟨w.heap.size,2,none⟩=some (.string pl):=Mcp;have d3:wc.cell? ⟨w.heap.size,3,none⟩=some (.string fr):=Mcp;have d4:wc.cell? ⟨w.heap.size,4,none⟩=some (.slice B ps.length c):=Mcp;have d5:wc.cell? ⟨w.heap.size,5,none⟩=some (.int .i64 cl):=Mcp;have d6:wc.cell? ⟨w.heap.size,6,none⟩=some (.int .i64 yr):=Mcp;have e0:w.heap.size<wc.heap.size:=Mcl;have e1:w.heap.size≠wc.heap.size:=Mcl;cases Ab:ps.any (fun p=>!zaR p.name)
       ·replace f0:=(hB.cell (p:=⟨0,k*8,none⟩) eM).trans f0;replace f1:=(hB.cell (p:=⟨0,k*8+1,none⟩) eM).trans f1;replace f2:=(hB.cell (p:=⟨0,k*8+2,none⟩) eM).trans f2;replace f3:=(hB.cell (p:=⟨0,k*8+3,none⟩) eM).trans f3;replace f4:=(hB.cell (p:=⟨0,k*8+4,none⟩) eM).trans f4;replace f5:=(hB.cell (p:=⟨0,k*8+5,none⟩) eM).trans f5;replace f6:=(hB.cell (p:=⟨0,k*8+6,none⟩) eM).trans f6;replace f7:=(hB.cell (p:=⟨0,k*8+7,none⟩) eM).trans f7;obtain⟨q,hq⟩: ∃q,wc.heap.size=q:=⟨_,rfl⟩
        have HQ:=zHi hq;have e9:w.heap.size<q:=Mcl;have e8:w.heap.size≠q:=Mcl;clear hq;go_upto_region 11 with fail
        go_cut [0,3]from 4 (fun v0 v wc=>v= .pointer (some ⟨q,0,none⟩)/\Below w.heap.size w wc/\q<wc.heap.size/\wc.heap[w.heap.size]?=some (.cells #[.int .i64 (k:Int), .int .i64 dy, .string pl, .string fr, .slice B ps.length c, .int .i64 cl, .int .i64 yr] 68)/\wc.heap[q]?=some (.cells #[.string word, .bool fp, .bool ff, .bool fc, .bool fy, .bool fa, .bool fpt, .bool fs] 179))
        case first=>
         go_wp2_with fail
         all_goals go_meet
         all_goals(exact⟨by rw[HQ.o],Bw,by simp[HQ.o],by repeat(first|assumption|with_reducible refine zak ?_|with_reducible refine zb9 ?_|with_reducible refine J_ne Mcl ?_),zar _ _ _ HQ.o.symm⟩)
        case rest=>
         obtain⟨rfl,hB,hsz,g0,g1⟩:=hcut;have d0:wc.cell? ⟨w.heap.size,0,none⟩=some (.int .i64 (k:Int)):=Mcp;have d1:wc.cell? ⟨w.heap.size,1,none⟩=some (.int .i64 dy):=Mcp;have d2:wc.cell? ⟨w.heap.size,2,none⟩=some (.string pl):=Mcp;have d3:wc.cell? ⟨w.heap.size,3,none⟩=some (.string fr):=Mcp;have d4:wc.cell? ⟨w.heap.size,4,none⟩=some (.slice B ps.length c):=Mcp;have d5:wc.cell? ⟨w.heap.size,5,none⟩=some (.int .i64 cl):=Mcp;have d6:wc.cell? ⟨w.heap.size,6,none⟩=some (.int .i64 yr):=Mcp;have e0:w.heap.size<wc.heap.size:=Mcl;have e1:w.heap.size≠wc.heap.size:=Mcl;have c0:wc.cell? ⟨q,0,none⟩=some (.string word):=Mcr;have c1:wc.cell? ⟨q,1,none⟩=some (.bool fp):=Mcr;have c2:wc.cell? ⟨q,2,none⟩=some (.bool ff):=Mcr;have c3:wc.cell? ⟨q,3,none⟩=some (.bool fc):=Mcr;have c4:wc.cell? ⟨q,4,none⟩=some (.bool fy):=Mcr;have c5:wc.cell? ⟨q,5,none⟩=some (.bool fa):=Mcr;have c6:wc.cell? ⟨q,6,none⟩=some (.bool fpt):=Mcr;have c7:wc.cell? ⟨q,7,none⟩=some (.bool fs):=Mcr;have e2:q≠wc.heap.size:=Mcl;go_upto_region 12 with fail
         go_cut [57]from 4 (fun v wc=>v= .bool (fp != !noB pl||ff != !noB fr)/\Below w.heap.size w wc/\q<wc.heap.size/\wc.heap[w.heap.size]?=some (.cells #[.int .i64 (k:Int), .int .i64 dy, .string pl, .string fr, .slice B ps.length c, .int .i64 cl, .int .i64 yr] 68)/\wc.heap[q]?=some (.cells #[.string word, .bool fp, .bool ff, .bool fc, .bool fy, .bool fa, .bool fpt, .bool fs] 179))
         case first=>
          exact MC
         case rest=>
          obtain⟨rfl,hB,hsz,g0,g1⟩:=hcut;have d0:wc.cell? ⟨w.heap.size,0,none⟩=some (.int .i64 (k:Int)):=Mcp;have d1:wc.cell? ⟨w.heap.size,1,none⟩=some (.int .i64 dy):=Mcp;have d2:wc.cell? ⟨w.heap.size,2,none⟩=some (.string pl):=Mcp;have d3:wc.cell? ⟨w.heap.size,3,none⟩=some (.string fr):=Mcp;have d4:wc.cell? ⟨w.heap.size,4,none⟩=some (.slice B ps.length c):=Mcp;have d5:wc.cell? ⟨w.heap.size,5,none⟩=some (.int .i64 cl):=Mcp;have d6:wc.cell? ⟨w.heap.size,6,none⟩=some (.int .i64 yr):=Mcp;have e0:w.heap.size<wc.heap.size:=Mcl;have e1:w.heap.size≠wc.heap.size:=Mcl;have c0:wc.cell? ⟨q,0,none⟩=some (.string word):=Mcr;have c1:wc.cell? ⟨q,1,none⟩=some (.bool fp):=Mcr;have c2:wc.cell? ⟨q,2,none⟩=some (.bool ff):=Mcr;have c3:wc.cell? ⟨q,3,none⟩=some (.bool fc):=Mcr;have c4:wc.cell? ⟨q,4,none⟩=some (.bool fy):=Mcr;have c5:wc.cell? ⟨q,5,none⟩=some (.bool fa):=Mcr;have c6:wc.cell? ⟨q,6,none⟩=some (.bool fpt):=Mcr;have c7:wc.cell? ⟨q,7,none⟩=some (.bool fs):=Mcr;have e2:q≠wc.heap.size:=Mcl;cases FU:(fp != !noB pl||ff != !noB fr)
          ·go_upto_region 13 with fail
           go_cut [57]from 4 (fun v wc=>v= .bool (!fc&&cl != 0)/\Below w.heap.size w wc/\q<wc.heap.size/\wc.heap[w.heap.size]?=some (.cells #[.int .i64 (k:Int), .int .i64 dy, .string pl, .string fr, .slice B ps.length c, .int .i64 cl, .int .i64 yr] 68)/\wc.heap[q]?=some (.cells #[.string word, .bool fp, .bool ff, .bool fc, .bool fy, .bool fa, .bool fpt, .bool fs] 179))
           case first=>
            exact MC
           case rest=>
            obtain⟨rfl,hB,hsz,g0,g1⟩:=hcut;have d0:wc.cell? ⟨w.heap.size,0,none⟩=some (.int .i64 (k:Int)):=Mcp;have d1:wc.cell? ⟨w.heap.size,1,none⟩=some (.int .i64 dy):=Mcp;have d2:wc.cell? ⟨w.heap.size,2,none⟩=some (.string pl):=Mcp;have d3:wc.cell? ⟨w.heap.size,3,none⟩=some (.string fr):=Mcp;have d4:wc.cell? ⟨w.heap.size,4,none⟩=some (.slice B ps.length c):=Mcp;have d5:wc.cell? ⟨w.heap.size,5,none⟩=some (.int .i64 cl):=Mcp;have d6:wc.cell? ⟨w.heap.size,6,none⟩=some (.int .i64 yr):=Mcp;have e0:w.heap.size<wc.heap.size:=Mcl;have e1:w.heap.size≠wc.heap.size:=Mcl;have c0:wc.cell? ⟨q,0,none⟩=some (.string word):=Mcr;have c1:wc.cell? ⟨q,1,none⟩=some (.bool fp):=Mcr;have c2:wc.cell? ⟨q,2,none⟩=some (.bool ff):=Mcr;have c3:wc.cell? ⟨q,3,none⟩=some (.bool fc):=Mcr;have c4:wc.cell? ⟨q,4,none⟩=some (.bool fy):=Mcr;have c5:wc.cell? ⟨q,5,none⟩=some (.bool fa):=Mcr;have c6:wc.cell? ⟨q,6,none⟩=some (.bool fpt):=Mcr;have c7:wc.cell? ⟨q,7,none⟩=some (.bool fs):=Mcr;have e2:q≠wc.heap.size:=Mcl;cases hn5:(!fc&&cl != 0)
            ·go_upto_region 14 with fail
             go_cut [57]from 4 (fun v wc=>v= .bool (!fy&&yr != 0)/\Below w.heap.size w wc/\q<wc.heap.size/\wc.heap[w.heap.size]?=some (.cells #[.int .i64 (k:Int), .int .i64 dy, .string pl, .string fr, .slice B ps.length c, .int .i64 cl, .int .i64 yr] 68)/\wc.heap[q]?=some (.cells #[.string word, .bool fp, .bool ff, .bool fc, .bool fy, .bool fa, .bool fpt, .bool fs] 179))
             case first=>
              exact MC
             case rest=>
              obtain⟨rfl,hB,hsz,g0,g1⟩:=hcut;have d0:wc.cell? ⟨w.heap.size,0,none⟩=some (.int .i64 (k:Int)):=Mcp;have d1:wc.cell? ⟨w.heap.size,1,none⟩=some (.int .i64 dy):=Mcp;have d2:wc.cell? ⟨w.heap.size,2,none⟩=some (.string pl):=Mcp;have d3:wc.cell? ⟨w.heap.size,3,none⟩=some (.string fr):=Mcp;have d4:wc.cell? ⟨w.heap.size,4,none⟩=some (.slice B ps.length c):=Mcp;have d5:wc.cell? ⟨w.heap.size,5,none⟩=some (.int .i64 cl):=Mcp;have d6:wc.cell? ⟨w.heap.size,6,none⟩=some (.int .i64 yr):=Mcp;have e0:w.heap.size<wc.heap.size:=Mcl;have e1:w.heap.size≠wc.heap.size:=Mcl;have c0:wc.cell? ⟨q,0,none⟩=some (.string word):=Mcr;have c1:wc.cell? ⟨q,1,none⟩=some (.bool fp):=Mcr;have c2:wc.cell? ⟨q,2,none⟩=some (.bool ff):=Mcr;have c3:wc.cell? ⟨q,3,none⟩=some (.bool fc):=Mcr;have c4:wc.cell? ⟨q,4,none⟩=some (.bool fy):=Mcr;have c5:wc.cell? ⟨q,5,none⟩=some (.bool fa):=Mcr;have c6:wc.cell? ⟨q,6,none⟩=some (.bool fpt):=Mcr;have c7:wc.cell? ⟨q,7,none⟩=some (.bool fs):=Mcr;have e2:q≠wc.heap.size:=Mcl;cases hn6:(!fy&&yr != 0)
              ·go_upto_region 16 with fail
               go_cut [88]from 4 (fun v wc=>v= .bool (yr==0&&((k:Int)==3||((k:Int)==0&&cl==2)))/\Below w.heap.size w wc/\q<wc.heap.size/\wc.heap[w.heap.size]?=some (.cells #[.int .i64 (k:Int), .int .i64 dy, .string pl, .string fr, .slice B ps.length c, .int .i64 cl, .int .i64 yr] 68)/\wc.heap[q]?=some (.cells #[.string word, .bool fp, .bool ff, .bool fc, .bool fy, .bool fa, .bool fpt, .bool fs] 179))
               case first=>
                exact MC
               case rest=>
                obtain⟨rfl,hB,hsz,g0,g1⟩:=hcut;have d0:wc.cell? ⟨w.heap.size,0,none⟩=some (.int .i64 (k:Int)):=Mcp;have d1:wc.cell? ⟨w.heap.size,1,none⟩=some (.int .i64 dy):=Mcp;have d2:wc.cell? ⟨w.heap.size,2,none⟩=some (.string pl):=Mcp;have d3:wc.cell? ⟨w.heap.size,3,none⟩=some (.string fr):=Mcp;have d4:wc.cell? ⟨w.heap.size,4,none⟩=some (.slice B ps.length c):=Mcp;have d5:wc.cell? ⟨w.heap.size,5,none⟩=some (.int .i64 cl):=Mcp;have d6:wc.cell? ⟨w.heap.size,6,none⟩=some (.int .i64 yr):=Mcp;have e0:w.heap.size<wc.heap.size:=Mcl;have e1:w.heap.size≠wc.heap.size:=Mcl;have c0:wc.cell? ⟨q,0,none⟩=some (.string word):=Mcr;have c1:wc.cell? ⟨q,1,none⟩=some (.bool fp):=Mcr;have c2:wc.cell? ⟨q,2,none⟩=some (.bool ff):=Mcr;have c3:wc.cell? ⟨q,3,none⟩=some (.bool fc):=Mcr;have c4:wc.cell? ⟨q,4,none⟩=some (.bool fy):=Mcr;have c5:wc.cell? ⟨q,5,none⟩=some (.bool fa):=Mcr;have c6:wc.cell? ⟨q,6,none⟩=some (.bool fpt):=Mcr;have c7:wc.cell? ⟨q,7,none⟩=some (.bool fs):=Mcr;have e2:q≠wc.heap.size:=Mcl;cases hn7:(yr==0&&((k:Int)==3||((k:Int)==0&&cl==2)))
                ·go_wp2_with (first
                               |(go_at_call 97;refine(zbj _ _ _ _).mono ?_;intro e wq hq;rcases Ret0.bools hq with⟨rfl,⟨hb,rfl⟩|⟨hb,rfl⟩⟩<;>clear hq)
                               |(go_at_call 59;refine(zcN _ _).mono ?_;intro e wq hq;rcases Ret0.bools hq with⟨rfl,⟨hb,rfl⟩|⟨hb,rfl⟩⟩<;>clear hq)
                               |(go_at_call 58;refine(zca _ _ McV).mono ?_;intro e wq hq;rcases Ret0.bools hq with⟨rfl,⟨hb,rfl⟩|⟨hb,rfl⟩⟩<;>clear hq)
                               |(go_at_call 83;refine(zcO _ _ eg (fun q:RPart=>!zaR q.name) _ _ _ ps _ rfl HL.o (HS.o.keep (n:=w.heap.size) Bw) (zgl ps _ HN.o)).mono ?_;intro e wq hq;rcases Ret.bools hq with⟨zq,rfl,⟨hb,rfl⟩|⟨hb,rfl⟩⟩<;>clear hq)
                               |(go_at_call 122;refine(zd8 ⟨word,fp,ff,fc,fy,fa,fpt,fs⟩ _ _ _ _ _ _ ps _ _ _ _ rfl Mcl HC.o (HS.o.keep (n:=w.heap.size) Bw)).mono ?_;intro e wq hq;rcases Ret.bools hq with⟨zq,rfl,⟨hb,rfl⟩|⟨hb,rfl⟩⟩<;>clear hq))
                 all_goals go_ret
                 all_goals exact Ret.of (zb5 McD) Bw
                ·exact MF
              ·exact MF
            ·exact MF
          ·exact MF
       ·exact Mal
 ·replace hk:inR kd 0 8=false:=by simpa using hk
  go_wp2_with (go_at_call 97;refine(zbj _ _ _ _).mono ?_;rintro e wq ⟨rfl,rfl⟩;rw[hk])
  all_goals go_ret
  all_goals exact Ret.of (zb5 Mc5) Bw
end Go.Proofs.YtckkbkdcdkhglaaGreatDoor
namespace Go.Proofs.YtckkbkdcdkhglaaGreatDoor
open Go.RowKit Go.Shelf
attribute [local go_sem] World.cell?_alloc_mark zag za5 zaq za8 zaw zax zay zaz za0 za1 za2
attribute [local go_sem] zap zad
theorem zlm (a b:ByteArray) (w:World):Calls Tryz.prog 77 #[.string a, .string b] w (Ret0 w (.int .i64 (cmpN a b))):=by
 have bC:=Any.strings_Compare cmpStr a b w;change Calls Tryz.prog 77 _ _ _ at bC;exact Mbh
theorem zm4 (p:ByteArray×Rat) (s:ByteArray) (w:World):Calls Tryz.prog 188 #[.agg #[.string p.1, .int .i64 p.2.num, .int .i64 p.2.den], .string s] w (Ret w (.int .i64 (cmpN p.1 s))):=by
 have hc:=fun W=>zlm p.1 s W
 generalize cmpN p.1 s=r at hc⊢;go_enter Tryz.func188,Tryz.ntmps188
 go_wp2_with (go_at_call 77;refine(hc _).mono ?_;rintro e wq ⟨rfl,rfl⟩)
 go_ret
 exact Ret.of rfl Bw
def znE (w:World) (xs:Parts) (nm:ByteArray) (e:Ending) (w':World):Prop:=
 ∃P Q,xs=P++Q/\(∀p∈P,zbo p.1 nm=true)/\(∀p∈Q,zbo p.1 nm=false)/\Ret w (.tuple #[.int .i64 P.length, .bool (zdN Q nm)]) e w'
theorem bsf_any (xs:Parts) (A:Option Addr) (n c:Nat) (nm:ByteArray) (w:World) (hn:n=xs.length) (hl:xs.length<=100000) (hA:AscP xs) (hS:Sl w 3 zaa A xs):
 Calls Tryz.prog 187 #[.slice A n c, .string nm, .func (.func 188) #[] #[]] w (znE w xs nm):=by
 subst hn;have eg: ∀args w,(callFunc 188 args).run Tryz.prog w= .ok (.enter 188 args) w:=enters_of Tryz.func188 Mcm rfl;have HA:=zHi hA;have HC:=zHi (fun(p:ByteArray×Rat) W=>zm4 p nm W);go_enter Tryz.func187,Tryz.ntmps187
 go_wp2_with fail
 go_loopw [9,10] (fun i j wr=> ∃lo hi:Nat,i= .int .i64 lo/\j= .int .i64 hi/\lo<=hi/\hi<=xs.length/\Hid (∀t (ht:t<xs.length),t<lo->zbo xs[t].1 nm=true)/\Hid (∀t (ht:t<xs.length),hi<=t->zbo xs[t].1 nm=false)/\ ∃z,wr=w.ext z) (fun i j _=>(intOf j).toNat-(intOf i).toNat)
 case atStart=>exact⟨0,xs.length,rfl,rfl,Nat.zero_le _,Nat.le_refl _,fun t ht h=>absurd h (Nat.not_lt_zero _),fun t ht h=>by omega,zbb (Below.refl _ _)⟩
 case round=>
  obtain⟨lo,hi,rfl,rfl,h1,h2,H3,H4,z,rfl⟩:=hrel;by_cases aa:lo<hi
  ·have hm:(lo+hi)/2<xs.length:=Mcl;obtain⟨b,off,rfl,hb,hc⟩:=(hS.keep (zam w z)).at hm;have HX:=zHi (fun t (ht:t<xs.length) (h:t<(lo+hi)/2)=>List.pairwise_iff_getElem.1 hA t _ ht hm h);have HY:=zHi (fun t (ht:t<xs.length) (h:(lo+hi)/2<t)=>List.pairwise_iff_getElem.1 hA _ t hm ht h);generalize hp:xs[(lo+hi)/2]=p at*;obtain⟨pn,pq⟩:=p;have hr:decide (cmpN pn nm<0)=zbo pn nm:=zn7 _ _;have bJ:=HC.o (pn,pq);simp only at bJ;generalize cmpN pn nm=r at hr bJ;have c0:(w.ext z).cell? ⟨b,off+(lo+hi)/2*3,none⟩=some (.string pn):=hc 0 _ rfl;have c1:(w.ext z).cell? ⟨b,off+(lo+hi)/2*3+1,none⟩=some (.int .i64 pq.num):=hc 1 _ rfl;have c2:(w.ext z).cell? ⟨b,off+(lo+hi)/2*3+2,none⟩=some (.int .i64 pq.den):=hc 2 _ rfl;have HP:=zHi hp;have HR:=zHi hr;clear hp hr hc hS hA;by_cases pS:r<0
   ·go_wp2_with (go_at_fn 188;refine(bJ _).mono ?_;rintro e wq ⟨rfl,zq,rfl⟩)
    go_round
    case rel=>
     have bQ:zbo pn nm=true:=by rw[<-HR.o];simpa using pS
     refine⟨(lo+hi)/2+1,hi,by go_num,rfl,by omega,h2,(show Hid _ from fun t ht h=> ?_),H4,zbb Bw⟩;by_cases e:t=(lo+hi)/2
     ·subst e;rw[HP.o];exact bQ
     ·have:=HX.o t ht Mcl;exact zb1 this bQ
    case measure=>simp[intOf];omega
   ·go_wp2_with (go_at_fn 188;refine(bJ _).mono ?_;rintro e wq ⟨rfl,zq,rfl⟩)
    go_round
    case rel=>
     have bQ:zbo pn nm=false:=by rw[<-HR.o];simpa using pS
     refine⟨lo,(lo+hi)/2,rfl,by go_num,by omega,by omega,H3,(show Hid _ from fun t ht h=> ?_),zbb Bw⟩;by_cases e:t=(lo+hi)/2
     ·subst e;rw[HP.o];exact bQ
     ·have:=HY.o t ht Mcl;exact less_up this bQ
    case measure=>simp[intOf];omega
  ·have he:hi=lo:=Mcl;subst he;have HP:Hid (∀p∈xs.take hi,zbo p.1 nm=true):=fun p hp=>by
    obtain⟨t,ht,rfl⟩:=List.getElem_of_mem hp;rw[List.getElem_take];have:t<hi:=by rw[List.length_take]at ht;omega
    exact H3.o t Mcl this
   have HQ:Hid (∀p∈xs.drop hi,zbo p.1 nm=false):=fun p hp=>by
    obtain⟨t,ht,rfl⟩:=List.getElem_of_mem hp;rw[List.getElem_drop];exact H4.o (hi+t) (by rw[List.length_drop]at ht;omega) Mcl
   have HL:Hid ((xs.take hi).length=hi):=by show _=_;rw[List.length_take];omega
   by_cases bD:hi<xs.length
   ·obtain⟨b,off,rfl,hb,hc⟩:=(hS.keep (zam w z)).at bD;have hd:xs.drop hi=xs[hi]::xs.drop (hi+1):=List.drop_eq_getElem_cons bD;generalize hp:xs[hi]=p at*;obtain⟨pn,pq⟩:=p;have hr:(cmpN pn nm==0)=zae pn nm:=cmpN_zero _ _;have bJ:=HC.o (pn,pq);simp only at bJ;generalize cmpN pn nm=r at hr bJ;have c0:(w.ext z).cell? ⟨b,off+hi*3,none⟩=some (.string pn):=hc 0 _ rfl;have c1:(w.ext z).cell? ⟨b,off+hi*3+1,none⟩=some (.int .i64 pq.num):=hc 1 _ rfl;have c2:(w.ext z).cell? ⟨b,off+hi*3+2,none⟩=some (.int .i64 pq.den):=hc 2 _ rfl;have HR:=zHi hr;have HD:=zHi hd;clear hp hr hc hS hA hd;go_wp2_with (go_at_fn 188;refine(bJ _).mono ?_;rintro e wq ⟨rfl,zq,rfl⟩)
    all_goals go_ret2
    all_goals exact⟨xs.take hi,xs.drop hi,(List.take_append_drop _ _).symm,HP.o,HQ.o,Ret.of (by rw[HL.o,HD.o];simp[zdN,<-HR.o, *]) Bw⟩
   ·go_wp2_with fail
    all_goals go_ret2
    all_goals exact⟨xs.take hi,xs.drop hi,(List.take_append_drop _ _).symm,HP.o,HQ.o,Ret.of (by rw[HL.o,List.drop_eq_nil_of_le Mcl];simp[zdN]) Bw⟩
def zbv (W:World) (T:Nat) (pl:ByteArray) (cl fr en:Int) (v dv:Value):Prop:=W.heap[T]?=some (.cells #[.string pl, .int .i64 cl, .int .i64 fr, .int .i64 en,v,dv] 75)
theorem znF (xs:Parts) (A:Option Addr) (c T:Nat) (nm:ByteArray) (w:World) (kj:w.cell? ⟨T,4,none⟩=some (.slice A xs.length c)) (hl:xs.length<=100000) (hA:AscP xs) (hS:Sl w 3 zaa A xs):
 Calls Tryz.prog 177 #[.pointer (some ⟨T,0,none⟩), .string nm] w (znE w xs nm):=by
 have HB:=bsf_any xs A _ c nm w rfl hl hA hS;go_enter Tryz.func177,Tryz.ntmps177
 go_wp2_with (go_at_call 187;refine HB.mono ?_;rintro e wq ⟨P,Q,bw,hP,hQ,rfl,z,rfl⟩)
 go_ret2
 exact⟨P,Q,bw,hP,hQ,Ret.of rfl Bw⟩
theorem shareQ {P Q:Parts} {nm:ByteArray} (hP: ∀p∈P,zbo p.1 nm=true) (hQ: ∀p∈Q,zbo p.1 nm=false) (hA:AscP (P++Q)):zaf (P++Q) nm=if zdN Q nm then(Q.headD (⟨#[]⟩,0)).2 else 0:=by
 rw[zfM hP];cases hh:zdN Q nm
 ·exact zn8 hQ (zhC hA) hh
 ·cases Q with
  |nil=>cases hh
  |cons q Q=>
   have hs:zae q.1 nm=true:=hh;rw[zbs,hs];rfl
theorem zer (xs:Parts) (A:Option Addr) (c T:Nat) (nm:ByteArray) (w:World) (kj:w.cell? ⟨T,4,none⟩=some (.slice A xs.length c)) (hT:T<w.heap.size) (hl:xs.length<=100000) (hA:AscP xs) (hS:Sl w 3 zaa A xs):
 Calls Tryz.prog 160 #[.pointer (some ⟨T,0,none⟩), .string nm] w (Ret w (za9 (zaf xs nm))):=by
 have HF:=fun W h1 h2=>znF xs A c T nm W h1 hl hA h2
 have HS:=zHi hS;have HA:=zHi hA;clear hS hA;have ai:T≠w.heap.size:=Mcl;go_enter Tryz.func160,Tryz.ntmps160
 go_upto_region 2 with(go_at_call 177;refine(HF _ (by simp[go_sem,hT,kj]) (HS.o.keep (n:=w.heap.size) Bw)).mono ?_;rintro e wq ⟨P,Q,bw,hP,hQ,rfl,z,rfl⟩;subst bw)
 have hv:=shareQ hP hQ HA.o;have HV:=zHi hv;clear hv hP hQ;cases Q with
 |nil=>
  go_wp2_with fail
  refine bodyPost_ret (v:=za9 (zaf (P++[]) nm)) ?_ rfl ?_
  ·rw[HV.o];refine zbV rfl _ _ w.heap.size _ _ rfl ?_ ?_<;>simp[go_sem,zdN]
  ·exact Ret.of rfl Bw
 |cons q Q=>
  obtain⟨qn,qr⟩:=q;have aa:P.length<(P++(qn,qr)::Q).length:=Mco;obtain⟨b,off,rfl,hb,hc⟩:=HS.o.at aa;rw[List.getElem_append_right (Nat.le_refl _)]at hc;simp only[Nat.sub_self,List.getElem_cons_zero]at hc;have k1:w.cell? ⟨b,off+P.length*3+1,none⟩=some (.int .i64 qr.num):=hc 1 _ rfl;have k2:w.cell? ⟨b,off+P.length*3+1+1,none⟩=some (.int .i64 qr.den):=hc 2 _ rfl;have bD:(P.length:Int)<((P++(qn,qr)::Q).length:Int):=Mcl;have Kj:(0:Int)<=(P.length:Int):=Mcl;have HL:=zHi aa;clear hc aa;generalize hh:zdN ((qn,qr)::Q) nm=q at*;have Is:=zHi (HV.o.trans (by rfl:_=if q then qr else 0));cases q
  ·exact MaD
  ·exact MaD
theorem ziq (g:Grave) (A:Option Addr) (c T:Nat) (day:Int) (w:World) (h3:w.cell? ⟨T,3,none⟩=some (.int .i64 g.fin)) (h4:w.cell? ⟨T,4,none⟩=some (.slice A g.holders.length c)):
 Calls Tryz.prog 61 #[.pointer (some ⟨T,0,none⟩), .int .i64 day] w (Ret w (.bool (zaU g day))):=by
 obtain⟨pl,cl,fin,hs,di⟩:=g;simp only at*;go_enter Tryz.func61,Tryz.ntmps61
 go_wp2_with fail
 all_goals go_ret
 all_goals(refine Ret.of (zaP ?_) Bw;cases hs<;>simp_all[zaU]<;>omega)
theorem zgm {P:Program} (w:World) (dT sT ty elem:TypeId) (size b o dLen dCap:Nat) (a:Addr) (sLen sCap n:Nat) (cs:List Value)
 (hu:P.underlying dT=some (.slice elem)) (hs:(P.info? elem).map (·.size)=some size) (hn:Nat.min sLen dLen=n) (hl:cs.length=n*size)
 (Dr: ∀j v,cs[j]?=some v->w.cell? (a.add j)=some v) (hc: ∀j,j<cs.length->(w.cell? ⟨b,o+j,none⟩).isSome=true) (hf: ∀j,j<cs.length->w.frozen? ⟨b,o+j,none⟩=false) (h1: ∀v∈cs,v.oneCell'=true):
 (Builtin.copy_ #[dT,sT] ty #[.slice (some ⟨b,o,none⟩) dLen dCap, .slice (some a) sLen sCap]).run P w= .ok (goInt n) (w.setCells b o cs):=by
 have JI:=run_firstCells_some (P:=P) w size n a sLen sCap cs hl Dr;have am:=run_storeCells_cells (P:=P) b o cs 0 w Meo (by simpa using hf) h1;cases hq:P.info? elem with
 |none=>simp[hq]at hs
 |some i=>
  have hi:i.size=size:=by simpa[hq]using hs
  simp[Builtin.copy_,run_underlying hu,Builtin.lenOf,sizeOf,typeInfo,hq,hi,hn,JI,am]
theorem zbM (g:Nat) {e:TypeId}: ∀(vs:List Value) (o:Nat) (w:World) (cur:Array Value),w.heap[g]?=some (.cells cur e (0,0))->o+vs.length<=cur.size->
 ∃cur',(w.setCells g o vs).heap[g]?=some (.cells cur' e (0,0))/\cur'.size=cur.size/\(∀j,j<o\/o+vs.length<=j->cur'[j]?=cur[j]?)/\ ∀j u,vs[j]?=some u->cur'[o+j]?=some u
 | [],o,w,cur,hg,_=>⟨cur,hg,rfl,fun _ _=>rfl,fun j u h=>by simp at h⟩
 |v::r,o,w,cur,hg,hl=>by
  obtain⟨cur',h1,h2,h3,h4⟩:=zbM g r (o+1) (w.setCell ⟨g,o,none⟩ v) (cur.setIfInBounds o v) (heap_setCell_same w g o cur e v hg) (by simp at hl⊢;omega);refine⟨cur',h1,by simpa using h2,fun j hj=> ?_,fun j u hu=> ?_⟩
  ·rw[h3 j (by simp at hj;omega),Array.getElem?_setIfInBounds_ne (by simp at hj;omega)]
  ·cases j with
   |zero=>
    simp only[List.getElem?_cons_zero,Option.some.injEq]at hu;subst hu;rw[Nat.add_zero,h3 o Mcl];exact Array.getElem?_setIfInBounds_self_of_lt (by simp at hl;omega)
   |succ j=>
    have:=h4 j u (by simpa using hu);rw[show o+(j+1)=o+1+j by omega];exact this
theorem zan (p:ByteArray×Rat):(zaa p).length=3:=rfl
theorem zce (p:ByteArray×Rat): ∀u∈zaa p,u.oneCell'=true:=by simp[zaa,Value.oneCell']
theorem zir (l:Parts): ∀u∈l.flatMap zaa,u.oneCell'=true:=fun u hu=>by
 obtain⟨x,_,hx⟩:=List.mem_flatMap.1 hu;exact zce x u hx
theorem zes (l:Parts):(l.flatMap zaa).length=l.length*3:=zgb zaa 3 zan l
theorem zdO:ElTy Tryz.prog 28 63 3 32:=zd5 (z:= .agg #[.string ⟨#[]⟩, .int .i64 0, .int .i64 0]) Mcm Mcm rfl Mcn
theorem ins_get {xs:Parts} {p:ByteArray×Rat} {i:Nat} (hi:i<=xs.length) {cur:Nat->Option Value} (h0: ∀j u,j<i*3->(xs.flatMap zaa)[j]?=some u->cur j=some u) (h1: ∀j u,(zaa p)[j]?=some u->cur (i*3+j)=some u)
 (h2: ∀j u,((xs.drop i).flatMap zaa)[j]?=some u->cur ((i+1)*3+j)=some u): ∀j u,((xs.take i++p::xs.drop i).flatMap zaa)[j]?=some u->cur j=some u:=fun j u hj=>by
 have hl:((xs.take i).flatMap zaa).length=i*3:=Mc3;rw[List.flatMap_append,List.flatMap_cons]at hj;by_cases hj1:j<i*3
 ·rw[List.getElem?_append_left Mcl]at hj;refine h0 j u hj1 ?_;exact MaI
 ·rw[List.getElem?_append_right Mcl,hl]at hj;by_cases FE:j-i*3<3
  ·rw[List.getElem?_append_left (by rw[zan];exact FE)]at hj;have:=h1 _ u hj;rwa [show i*3+(j-i*3)=j by omega]at this
  ·rw[List.getElem?_append_right Md4,zan]at hj;have:=h2 _ u hj;rwa [show(i+1)*3+(j-i*3-3)=j by omega]at this
def zfb (w:World) (base:Nat) (v:Value) (ys:Parts) (e:Ending) (w':World):Prop:=
 ∃v',e= .returned v'/\OwnS w' base 63 3 zaa v' ys/\w.grownBy w' (za7 v)/\ ∀g,za7 v'=some g->za7 v=some g\/w.heap.size<=g
theorem zm5 {w:World} {vb:Nat} {p:ByteArray×Rat} {t:TypeId} {fr:Nat×Nat} (h:w.heap[vb]?=some (.cells #[.string p.1, .int .i64 p.2.num, .int .i64 p.2.den] t fr)): ∀j v,(zaa p)[j]?=some v->w.cell? ⟨vb,j,none⟩=some v:=fun j v hj=>by
 match j,hj with
 |0,hj=>simp[zaa]at hj;simp[World.cell?,h,<-hj]
 |1,hj=>simp[zaa]at hj;simp[World.cell?,h,<-hj]
 |2,hj=>simp[zaa]at hj;simp[World.cell?,h,<-hj]
 |j+3,hj=>simp[zaa]at hj
theorem zoq (base:Nat) (xs:Parts) (p:ByteArray×Rat) (vb:Nat) (w:World) (hl:xs.length<=100000) (dF:w.heap[vb]?=some (.cells #[.string p.1, .int .i64 p.2.num, .int .i64 p.2.den] 63)) (aQ:base<=w.heap.size) (v:Value) (ae:OwnS w base 63 3 zaa v xs):
 Calls Tryz.prog 179 #[v, .int .i64 xs.length, .slice (some ⟨vb,0,none⟩) 1 1] w (zfb w base v (xs++[p])):=by
 have hS:Sl w 3 zaa (some ⟨vb,0,none⟩) [p]:=fun _=>⟨vb,0,rfl,zab dF,fun k x hx j u hu=>by
  have hk:k=0:=by have:=(List.getElem?_eq_some_iff.1 hx).1;simp at this;omega
  subst hk;simp only[List.getElem?_cons_zero,Option.some.injEq]at hx;subst hx;have:=zm5 dF j u hu
  simpa using this⟩
 have HO:=zHi ae;have HS:=zHi hS;obtain⟨A,c,rfl,_,hc⟩:=ae.sl zan;have cA:(xs.length:Int)<=(c:Int):=Mcl;clear hS;have hA:A=none\/ ∃g o,A=some ⟨g,o,none⟩:=by
  rcases ae with⟨h,_⟩|⟨g,o,cap,cur,h,_⟩
  ·simp only[Value.slice.injEq]at h;exact .inl h.1
  ·simp only[Value.slice.injEq]at h;exact .inr ⟨g,o,h.1⟩
 clear ae;go_enter Tryz.func179,Tryz.ntmps179
 rcases hA with rfl|⟨g,o,rfl⟩
 ·exact Maq
 ·exact Maq
theorem zm6 (base:Nat) (xs:Parts) (p:ByteArray×Rat) (vb:Nat) (w:World) (hl:xs.length<=100000) (dF:w.heap[vb]?=some (.cells #[.string p.1, .int .i64 p.2.num, .int .i64 p.2.den] 63)) (aQ:base<=w.heap.size) (g o c:Nat) (cur:Array Value) (kh:base<=g) (hg:w.heap[g]?=some (.cells cur 63 (0,0))) (xY:xs.length+1<=c) (km:c<=maxLen) (bm:o+c*3<=cur.size) (hx: ∀j u,(xs.flatMap zaa)[j]?=some u->cur[o+j]?=some u)
 (i:Nat) (hi:i<xs.length) (ai:vb≠g):
 Calls Tryz.prog 179 #[.slice (some ⟨g,o,none⟩) xs.length c, .int .i64 i, .slice (some ⟨vb,0,none⟩) 1 1] w (zfb w base (.slice (some ⟨g,o,none⟩) xs.length c) (xs.take i++p::xs.drop i)):=by
 have mixed:Tryz.prog.follows .mixedOrders=true:=Mcm;have Jw:(c:Int)<=9223372036854775807:=by unfold maxLen at km;omega
 have Dk:(xs.length:Int)+1<=(c:Int):=Mcl;have Dl: ¬((c:Int)<(xs.length:Int)+1):=Mcl;have l9:IntKind.i64.wrap ((xs.length:Int)+1)=(xs.length:Int)+1:=McX;have j9: ¬((i:Int)=(xs.length:Int)):=Mcl;have jD:IntKind.i64.wrap ((i:Int)+1)=(i:Int)+1:=McX;have aZ:(0:Int)<=(i:Int)+1:=Mcl;have ba:(0:Int)<=(i:Int):=Mcl;have fS:((i:Int)+1).toNat=i+1:=Mcl;have bF: ¬(c=i+1):=Mcl;have aD: ¬(c=i):=Mcl;have av:(i:Int)<=(xs.length:Int)+1:=Mcl;have aj:(i:Int)<=(xs.length:Int):=Mcl;have Ku: ∀lb cb,(callFunc 189 #[.slice (some ⟨vb,0,none⟩) 1 1, .slice (some ⟨g,o+(i+1)*3,none⟩) lb cb]).run Tryz.prog w= .ok (.value (.bool false)) w:=fun lb cb=>by
  rw[run_callFunc_extern Tryz.func189 Mcm Mcm Mcm (e:=Extern.SlicesOverlaps.overlaps #[28,28] #[4]) Mcm,
   Lib.run_overlaps_apart w 28 4 63 Tryz.underlying28 3 Tryz.sizeOf63 ⟨vb,0,none⟩ ⟨g,o+(i+1)*3,none⟩ 1 1 lb cb ai 63 63 3 cur.size (by simp[World.shape?,dF]) (by simp[World.shape?,hg]) Mcl (by simp[World.frozen?,dF]) (by simp[World.frozen?,dF])]
  rfl
 obtain⟨i0,z,eN,Ag,fx,Ah,uj⟩:=zdO.hi;have hsz:(Tryz.prog.info? 63).map (·.size)=some 3:=by rw[eN];simp[fx]
 have bz:((xs.drop i).flatMap zaa).length=(xs.length-i)*3:=Md6;have bk: ∀j,j<c*3->(w.cell? ⟨g,o+j,none⟩).isSome=true:=fun j hj=>by simp[World.cell?,hg];omega
 have wJ: ∀ty dc sc,(Builtin.copy_ #[28,28] ty #[.slice (some ⟨g,o+(i+1)*3,none⟩) (xs.length+1-(i+1)) dc, .slice (some ⟨g,o+i*3,none⟩) (xs.length+1-i) sc]).run Tryz.prog w.drew= .ok (goInt (xs.length-i:Nat)) (w.drew.setCells g (o+(i+1)*3) ((xs.drop i).flatMap zaa)):=fun ty dc sc=>
  zgm w.drew _ _ ty 63 3 g (o+(i+1)*3) _ dc ⟨g,o+i*3,none⟩ _ sc (xs.length-i) _ Tryz.underlying28 hsz Mdp bz
   (fun j v hj=>by
     rw[Addr.add_lit];have e:(xs.flatMap zaa)[i*3+j]?=some v:=by
      have e2:xs.flatMap zaa=(xs.take i).flatMap zaa++(xs.drop i).flatMap zaa:=Mdb;have e3:((xs.take i).flatMap zaa).length=i*3:=Mc3;rw[e2,List.getElem?_append_right Mcl,e3,Nat.add_sub_cancel_left];exact hj
     have:=hx _ _ e;show w.cell? _=_;simp only[World.cell?,hg,Nat.add_assoc]
     exact this)
   (fun j hj=>by rw[bz]at hj;show(w.cell? _).isSome=_;rw[Nat.add_assoc];exact bk _ Mcl) (fun j hj=>by show w.frozen? _=_;simp[World.frozen?,hg]) (zir _)
 obtain⟨cur1,k1,k2,k3,k4⟩:=zbM g ((xs.drop i).flatMap zaa) (o+(i+1)*3) w.drew cur hg (by rw[bz];omega);have bP:=zbG g ((xs.drop i).flatMap zaa) (o+(i+1)*3) w.drew;obtain⟨W1,aV⟩: ∃W1,W1=w.drew.setCells g (o+(i+1)*3) ((xs.drop i).flatMap zaa):=⟨_,rfl⟩
 rw[<-aV]at wJ k1 bP;have yq:W1.heap[vb]?=some (.cells #[.string p.1, .int .i64 p.2.num, .int .i64 p.2.den] 63):=(bP.block vb (zab dF) (by simp[ai])).trans dF;have Cw: ∀(W:World),W.heap=W1.heap-> ∀ty dc,(Builtin.copy_ #[28,28] ty #[.slice (some ⟨g,o+i*3,none⟩) (xs.length+1-i) dc, .slice (some ⟨vb,0,none⟩) 1 1]).run Tryz.prog W= .ok (goInt (1:Nat)) (W.setCells g (o+i*3) (zaa p)):=fun W mg ty dc=>
  zgm W _ _ ty 63 3 g (o+i*3) _ dc ⟨vb,0,none⟩ 1 1 1 _ Tryz.underlying28 hsz Mdp (by rw[zan])
   (fun j v hj=>by rw[Addr.add_lit,Nat.zero_add];exact zm5 (by rw[mg];exact yq) j v hj)
   (fun j hj=>by rw[zan]at hj;simp[World.cell?,mg,k1,k2];omega) (fun j hj=>by simp[World.frozen?,mg,k1]) (zce p)
 have HF:Hid (∀W:World,W.heap=W1.heap->W.os=W1.os->W.tape=W1.tape->W.output=W1.output->zfb w base (.slice (some ⟨g,o,none⟩) xs.length c) (xs.take i++p::xs.drop i) (.returned (.slice (some ⟨g,o,none⟩) (xs.length+1) c)) (W.setCells g (o+i*3) (zaa p))):=by
  intro W h1 h2 h3 h4;have sG:w.grownBy W (some g):=⟨h2.trans bP.os,h3.trans bP.tape,h4.trans bP.output,by rw[h1];exact bP.size,fun k hk hn=>by rw[h1];exact bP.block k hk hn⟩
  obtain⟨cur2,l1,l2,l3,l4⟩:=zbM g (zaa p) (o+i*3) W cur1 (by rw[h1];exact k1) (by rw[zan,k2];omega);have ag:(xs.take i++p::xs.drop i).length=xs.length+1:=Mcq;refine⟨_,rfl, .inr ⟨g,o,c,cur2,by rw[ag],kh,l1,by rw[ag];exact xY,km,by rw[l2,k2];exact bm,?_⟩,zbn sG (zbG _ _ _ _),fun g' h=> .inl h⟩;refine ins_get (cur:=fun j=>cur2[o+j]?) Mcl (fun j u hj hu=> ?_) (fun j u hu=> ?_) (fun j u hu=> ?_)
  ·show cur2[o+j]?=_;rw[l3 _ (.inl Mcl),k3 _ (.inl Mcl)];exact hx j u hu
  ·have:=l4 j u hu;rw[show o+i*3+j=o+(i*3+j) by omega]at this;exact this
  ·show cur2[o+((i+1)*3+j)]?=_;rw[l3 _ (.inr Md4)];have:=k4 j u hu;rw[show o+(i+1)*3+j=o+((i+1)*3+j) by omega]at this;exact this
 clear aV k1 k2 k3 k4 bP bk hx yq bz hg dF;go_enter Tryz.func179,Tryz.ntmps179
 go_wp2_with (simp only[Ku])
 go_region_law_o (go_loud(refine step_copy_runI rfl _ _ 28 28 rfl _ _ MdS MdS (wJ _ _ _) ?_))
 go_wp2_with (at_builtin;refine wpList_copy_runI _ rfl _ _ 28 28 rfl _ _ rfl rfl (Cw _ rfl _ _) ?_)
 go_ret
 exact HF.o _ rfl rfl rfl rfl
theorem zee (z:Array Value) (k:Nat):(Builtin.zeroCells z k).size=k*z.size:=by
 simp[Builtin.zeroCells]
theorem zm7 (base:Nat) (xs:Parts) (p:ByteArray×Rat) (vb:Nat) (w:World) (hl:xs.length<=100000) (dF:w.heap[vb]?=some (.cells #[.string p.1, .int .i64 p.2.num, .int .i64 p.2.den] 63)) (aQ:base<=w.heap.size) (g o:Nat) (cur:Array Value) (hg:w.heap[g]?=some (.cells cur 63 (0,0))) (hx: ∀j u,(xs.flatMap zaa)[j]?=some u->cur[o+j]?=some u)
 (i:Nat) (hi:i<xs.length):
 Calls Tryz.prog 179 #[.slice (some ⟨g,o,none⟩) xs.length xs.length, .int .i64 i, .slice (some ⟨vb,0,none⟩) 1 1] w (zfb w base (.slice (some ⟨g,o,none⟩) xs.length xs.length) (xs.take i++p::xs.drop i)):=by
 have mixed:Tryz.prog.follows .mixedOrders=true:=Mcm;have l9:IntKind.i64.wrap ((xs.length:Int)+1)=(xs.length:Int)+1:=McX;have dt:(xs.length:Int)<(xs.length:Int)+1:=Mcl;obtain⟨c,hc⟩: ∃c,xs.length=c:=⟨_,rfl⟩
 have bF: ¬(c=i+1)\/c=i+1:=Mcl;have j9: ¬((i:Int)=(xs.length:Int)):=Mcl;have jD:IntKind.i64.wrap ((i:Int)+1)=(i:Int)+1:=McX;have aZ:(0:Int)<=(i:Int)+1:=Mcl;have ba:(0:Int)<=(i:Int):=Mcl;have fS:((i:Int)+1).toNat=i+1:=Mcl;have aj:(i:Int)<=(xs.length:Int):=Mcl;have aE:(i:Int)+1<=(xs.length:Int)+1:=Mcl;have hkw:IntKind.i64.wrap ((xs.length:Int)+1-(i:Int))=(xs.length:Int)+1-(i:Int):=McX;have fY:(xs.length:Int)+1-(i:Int)=((xs.length+1-i:Nat):Int):=Mcl;have CQ:i+(xs.length+1-i)=xs.length+1:=Mcl;obtain⟨i0,z,eN,Ag,fx,Ah,uj⟩:=zdO.hi;have hsz:(Tryz.prog.info? 63).map (·.size)=some 3:=by rw[eN];simp[fx]
 have cB:g<w.heap.size:=zab hg;have KN:vb<w.heap.size:=zab dF;have cN:((xs.take i).flatMap zaa).length=i*3:=Mc3;have cV:xs.flatMap zaa=(xs.take i).flatMap zaa++(xs.drop i).flatMap zaa:=Mdb;have ku:(Builtin.firstCells i0.size i (.slice (some ⟨g,o,none⟩) i xs.length)).run Tryz.prog w.drew= .ok ((xs.take i).flatMap zaa).toArray w.drew:=by
  rw[fx]
  exact run_firstCells_some w.drew 3 i ⟨g,o,none⟩ i xs.length _ cN (fun j v hj=>by
   rw[Addr.add_lit];have:=hx j v (by rw[cV,List.getElem?_append_left (List.getElem?_eq_some_iff.1 hj).1];exact hj);show w.cell? _=_;simp only[World.cell?,hg]
   exact this)
 have Ge: ∀ty,(Builtin.append_ #[28,3] ty #[.slice (some ⟨g,o,none⟩) i xs.length, .int .i64 ((xs.length:Int)+1-(i:Int))]).run Tryz.prog w=
  .ok (.slice (some ⟨w.heap.size,0,none⟩) (xs.length+1) (grownCap w (xs.length+1) xs.length 63)) (w.drew.alloc (.cells (((xs.take i).flatMap zaa).toArray++Builtin.zeroCells z.cells (xs.length+1-i)++Builtin.zeroCells z.cells (grownCap w (xs.length+1) xs.length 63-(xs.length+1))) 63)):=fun ty=>by
  have h:=Lib.run_append_grow_zeros w 28 3 ty 63 i0 _ .i64 .i64 Tryz.underlying28 Tryz.underlying3 eN Ag (some ⟨g,o,none⟩) i xs.length ((xs.take i).flatMap zaa) ku (xs.length+1-i) Mcl Mcl Mcl Mcl (by rw[Ah];omega) (by rw[Ah,CQ];exact growslice_fits Mcl Mcl);rw[CQ]at h;rw[fY];exact h
 obtain⟨G,hG⟩: ∃G,G=grownCap w (xs.length+1) xs.length 63:=⟨_,rfl⟩
 obtain⟨ROW,om⟩: ∃ROW:Array Value,ROW=((xs.take i).flatMap zaa).toArray++Builtin.zeroCells z.cells (xs.length+1-i)++Builtin.zeroCells z.cells (G-(xs.length+1)):=⟨_,rfl⟩
 rw[<-hG,<-om]at Ge;have IQ:xs.length+1<=G:=by rw[hG];exact grownCap_ge w _ _ _
 have BN:G<=maxLen:=by
  rw[hG];exact grownCap_le_maxLen w (xs.length+1) xs.length 63 (by unfold maxLen;omega)
 have nz:ROW.size=G*3:=by
  rw[om,Array.size_append,Array.size_append,zee,zee,uj];simp only[List.size_toArray,cN];omega
 have ol: ∀j u,((xs.take i).flatMap zaa)[j]?=some u->ROW[j]?=some u:=fun j u hj=>by
  have d9:=(List.getElem?_eq_some_iff.1 hj).1;rw[om,Array.getElem?_append_left (by rw[Array.size_append,List.size_toArray];omega),Array.getElem?_append_left (by simpa using d9)];simpa using hj
 obtain⟨W1,aV⟩: ∃W1,W1=w.drew.alloc (.cells ROW 63):=⟨_,rfl⟩
 have zD:W1.heap[w.heap.size]?=some (.cells ROW 63):=by rw[aV];exact heap_alloc_new w.drew _
 have zG: ∀k,k<w.heap.size->W1.heap[k]?=w.heap[k]?:=fun k hk=>by rw[aV];exact Below.heap_alloc w.drew _ k hk
 have wK: ∀(W:World),W.heap=W1.heap-> ∀ty dc,(Builtin.copy_ #[28,28] ty #[.slice (some ⟨w.heap.size,i*3,none⟩) (xs.length+1-i) dc, .slice (some ⟨vb,0,none⟩) 1 1]).run Tryz.prog W= .ok (goInt (1:Nat)) (W.setCells w.heap.size (i*3) (zaa p)):=fun W mg ty dc=>
  zgm W _ _ ty 63 3 w.heap.size (i*3) _ dc ⟨vb,0,none⟩ 1 1 1 _ Tryz.underlying28 hsz Mdp (by rw[zan])
   (fun j v hj=>by rw[Addr.add_lit,Nat.zero_add];exact zm5 (by rw[mg,zG vb KN];exact dF) j v hj)
   (fun j hj=>by rw[zan]at hj;simp[World.cell?,mg,zD];omega) (fun j hj=>by simp[World.frozen?,mg,zD]) (zce p)
 obtain⟨cur1,k1,k2,k3,k4⟩:=zbM w.heap.size (zaa p) (i*3) W1 ROW zD (by rw[zan,nz];omega);have bP:=zbG w.heap.size (zaa p) (i*3) W1;have bz:((xs.drop i).flatMap zaa).length=(xs.length-i)*3:=Md6;have Fy:(W1.setCells w.heap.size (i*3) (zaa p)).heap[g]?=some (.cells cur 63):=by rw[bP.block g (by rw[aV];simp;omega) Mcq,zG g cB];exact hg
 have Cx: ∀(W:World),W.heap=(W1.setCells w.heap.size (i*3) (zaa p)).heap-> ∀ty dc sc,(Builtin.copy_ #[28,28] ty #[.slice (some ⟨w.heap.size,(i+1)*3,none⟩) (xs.length-i) dc, .slice (some ⟨g,o+i*3,none⟩) (xs.length-i) sc]).run Tryz.prog W= .ok (goInt (xs.length-i:Nat)) (W.setCells w.heap.size ((i+1)*3) ((xs.drop i).flatMap zaa)):=fun W mg ty dc sc=>
  zgm W _ _ ty 63 3 w.heap.size ((i+1)*3) _ dc ⟨g,o+i*3,none⟩ _ sc (xs.length-i) _ Tryz.underlying28 hsz Mdp bz
   (fun j v hj=>by
     rw[Addr.add_lit];have e:(xs.flatMap zaa)[i*3+j]?=some v:=by
      rw[cV,List.getElem?_append_right Mcl,cN,Nat.add_sub_cancel_left];exact hj
     have:=hx _ _ e;simp only[World.cell?,mg,Fy,Nat.add_assoc]
     exact this)
   (fun j hj=>by rw[bz]at hj;simp[World.cell?,mg,k1,k2,nz];omega) (fun j hj=>by simp[World.frozen?,mg,k1]) (zir _)
 have HF:Hid (∀W:World,W.heap=(W1.setCells w.heap.size (i*3) (zaa p)).heap->W.os=w.os->W.tape=w.tape->W.output=w.output->zfb w base (.slice (some ⟨g,o,none⟩) xs.length xs.length) (xs.take i++p::xs.drop i) (.returned (.slice (some ⟨w.heap.size,0,none⟩) (xs.length+1) G)) (W.setCells w.heap.size ((i+1)*3) ((xs.drop i).flatMap zaa))):=by
  intro W h1 h2 h3 h4;have sG:w.grownBy W (some g):=⟨h2,h3,h4,by rw[h1];exact Nat.le_trans (by rw[aV];simp) bP.size,fun k hk hn=>by rw[h1,bP.block k (by rw[aV];simp;omega) Mcq,zG k hk]⟩
  obtain⟨cur2,l1,l2,l3,l4⟩:=zbM w.heap.size ((xs.drop i).flatMap zaa) ((i+1)*3) W cur1 (by rw[h1];exact k1) (by rw[bz,k2,nz];omega);have ag:(xs.take i++p::xs.drop i).length=xs.length+1:=Mcq;have bS:=zbG w.heap.size ((xs.drop i).flatMap zaa) ((i+1)*3) W;refine⟨_,rfl, .inr ⟨w.heap.size,0,G,cur2,by rw[ag],aQ,l1,by rw[ag];exact IQ,BN,by rw[l2,k2,nz];omega,?_⟩,?_,fun g' h=> .inr (by simp only[za7,Option.some.injEq]at h;omega)⟩
  ·refine ins_get (cur:=fun j=>cur2[0+j]?) Mcl (fun j u hj hu=> ?_) (fun j u hu=> ?_) (fun j u hu=> ?_)
   ·show cur2[0+j]?=_;rw[Nat.zero_add,l3 _ (.inl Mcl),k3 _ (.inl Mcl)];rw[cV,List.getElem?_append_left Mcl]at hu;exact ol j u hu
   ·show cur2[0+(i*3+j)]?=_;have CS:j<3:=by have:=(List.getElem?_eq_some_iff.1 hu).1;rwa [zan]at this
    rw[Nat.zero_add,l3 _ (.inl Mcl)];exact k4 j u hu
   ·show cur2[0+((i+1)*3+j)]?=_;rw[Nat.zero_add];exact l4 j u hu
  ·exact⟨bS.os.trans h2,bS.tape.trans h3,bS.output.trans h4,Nat.le_trans sG.size bS.size,fun k hk hn=>(bS.block k (Nat.lt_of_lt_of_le hk sG.size) Mcq).trans (sG.block k hk hn)⟩
 subst aV;have hGi: ¬(G=i):=Mcl;have IO: ¬(G=i+1):=Mcl;have tI: ¬(xs.length=i):=Mcl;have hGc:(xs.length:Int)+1<=(G:Int):=Mcl;have IN:(i:Int)<=(xs.length:Int)+1:=Mcl;clear fY CQ ku om hG nz ol cV cN bz Fy bP k1 k2 k3 k4 zD zG hx hc bF;go_enter Tryz.func179,Tryz.ntmps179
 go_upto_region 10 with(at_builtin;refine Lib.wpList_append_run _ rfl _ _ _ _ rfl _ _ rfl rfl _ _ (Ge _) ?_)
 have Fp: ∀ty dc,_:=fun ty dc=>wK ((w.alloc (.cells ROW 63)).drew) rfl ty dc
 clear wK;go_wp2_with fail
 go_region_law_o (go_loud(refine step_copy_runI rfl _ _ 28 28 rfl _ _ MdS MdS (Cx (((w.alloc (.cells ROW 63)).drew.setCells w.heap.size (i*3) (zaa p)).drew) rfl _ _ _) ?_))
 go_wp2_with fail
 go_ret
 exact HF.o _ rfl rfl rfl rfl
end Go.Proofs.YtckkbkdcdkhglaaGreatDoor

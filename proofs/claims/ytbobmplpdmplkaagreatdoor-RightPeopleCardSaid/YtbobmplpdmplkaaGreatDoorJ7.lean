import Derived.Test.YtbobmplpdmplkaaGreatDoorJ6
set_option linter.all false
set_option maxRecDepth 100000
set_option maxHeartbeats 4000000
namespace Go.Proofs.YtbobmplpdmplkaaGreatDoor
open Go.RowKit
attribute [local go_sem] World.cell?_alloc_mark zaf za4 zam za7 zaw zax zay zaz za0 za1 za2
attribute [local go_sem] zan zac
def FormsIn(w:World):Prop:=0<w.heap.size/\∀k (f:Form),zfC[k]?=some f->∀j u,f.cells[j]?=some u->w.cell? ⟨0,k*8+j,none⟩=some u
theorem FormsIn.keep{w W:World}{n:Nat}(h:FormsIn w)(hB:Below n w W)(hn:w.heap.size<=n:=by first|exact Nat.le_refl _|omega):FormsIn W:=
 ⟨Nat.lt_of_lt_of_le h.1 hB.size,fun k f hf j u hu=>(hB.cell (p:=⟨0,_,none⟩) (Nat.lt_of_lt_of_le h.1 hn)).trans (h.2 k f hf j u hu)⟩
def zdt(d:Deed):Prop:=d.place.size<=100000/\d.frm.size<=100000/\(∀p∈d.to,p.name.size<=100000)/\d.to.length<=100000
def zdl(d:Deed):Int:=
 if !inR d.kind 0 8 then 15 else
 if !zbn d.day||!inR d.cls 0 4||!inR d.years 0 99 then 2 else
 if decide (8<d.to.length)then 8 else
 if !zbz d.place||!zbz d.frm||d.to.any (fun p=>!zaS p.name)then 4 else
 let f:=zfC.getD d.kind.toNat ⟨⟨#[]⟩,false,false,false,false,false,false,false⟩
 if(f.place != !noB d.place||f.frm != !noB d.frm)||(!f.cls&&d.cls != 0)||(!f.years&&d.years != 0)then 3 else
 if d.years==0&&(d.kind==3||(d.kind==0&&d.cls==2))then 3 else
 if !zhk f d.frm d.to then 3 else 0
theorem cdc_any(q:RPart)(W:World)(hs:q.name.size<=100000):
 Calls Tryz.prog 119 #[.agg #[.string q.name,.int .i64 q.num,.int .i64 q.den]] W (Ret W (.bool (!zaS q.name))):=by
 go_enter Tryz.func119,Tryz.ntmps119
 exact Mau
theorem zge(xs:List RPart)(w:World)(hs:∀p∈xs,p.name.size<=100000):
 zeT 119 #[] (fun x=> .agg (RPart.cells x).toArray) (fun q=>!zaS q.name) xs w:=fun x hx W hW=>by
 refine(cdc_any x W (hs x hx)).mono ?_;exact Ma2
theorem zjh(d:Deed)(B:Option Addr)(c:Nat)(w:World)(hF:FormsIn w)(hO:zdt d)(ay:d.to.length<=c)(hS:Sl w 3 RPart.cells B d.to):
 Calls Tryz.prog 90 #[.agg #[.int .i64 d.kind,.int .i64 d.day,.string d.place,.string d.frm,.slice B d.to.length c,.int .i64 d.cls,.int .i64 d.years]] w (Ret w (.int .i64 (zdl d))):=by
 obtain⟨kd,dy,pl,fr,ps,cl,yr⟩:=d;obtain⟨o1,o2,o3,o4⟩:=hO;simp only at*;have eg:∀args w,(callFunc 119 args).run Tryz.prog w=.ok (.enter 119 args) w:=enters_of Tryz.func119 Mcz rfl;obtain⟨HS,HC,HN,HL⟩:=yH4 hS ay o3 o4;clear hS ay o3 o4;generalize hR:zdl ⟨kd,dy,pl,fr,ps,cl,yr⟩=R;have HR:=zHi hR;clear hR;go_enter Tryz.func90,Tryz.ntmps90
 by_cases hk:inR kd 0 8=true
 ·obtain⟨k,rfl,ir⟩:∃k:Nat,kd=k/\k<9:=by
   simp[inR]at hk;exact⟨kd.toNat,by omega,by omega⟩
  have ae:k<zfC.length:=ir;have bh:=hF.2 k _ (List.getElem?_eq_getElem ae);have eB:0<w.heap.size:=hF.1;have hf:zfC.getD ((k:Int).toNat) ⟨⟨#[]⟩,false,false,false,false,false,false,false⟩=zfC[k]:=by
   rw[List.getD_eq_getElem?_getD,Int.toNat_natCast,List.getElem?_eq_getElem ae];rfl
  generalize zfC[k]=f at bh hf;obtain⟨word,fp,ff,fc,fy,fa,fpt,fs⟩:=f;have f0:w.cell? ⟨0,k*8,none⟩=some (.string word):=bh 0 _ rfl;have f1:w.cell? ⟨0,k*8+1,none⟩=some (.bool fp):=bh 1 _ rfl;have f2:w.cell? ⟨0,k*8+2,none⟩=some (.bool ff):=bh 2 _ rfl;have f3:w.cell? ⟨0,k*8+3,none⟩=some (.bool fc):=bh 3 _ rfl;have f4:w.cell? ⟨0,k*8+4,none⟩=some (.bool fy):=bh 4 _ rfl;have f5:w.cell? ⟨0,k*8+5,none⟩=some (.bool fa):=bh 5 _ rfl;have f6:w.cell? ⟨0,k*8+6,none⟩=some (.bool fpt):=bh 6 _ rfl;have f7:w.cell? ⟨0,k*8+7,none⟩=some (.bool fs):=bh 7 _ rfl;have ng:=zHi hf;clear bh hF hf;have k0:(0:Int)<=(k:Int):=Mcy;have k9:(k:Int)<9:=Mcy;go_upto_region 3 with(go_at_call 87;refine(zbi _ _ _ _).mono ?_;rintro e wq ⟨rfl,rfl⟩;rw[hk])
  go_upto_region 7 with(first
                         |(go_at_call 87;refine(zbi _ _ _ _).mono ?_;intro e wq hq;rcases Ret0.bools hq with⟨rfl,⟨hb,rfl⟩|⟨hb,rfl⟩⟩<;>clear hq)
                         |(go_at_call 62;refine(zcP _ _).mono ?_;intro e wq hq;rcases Ret0.bools hq with⟨rfl,⟨hb,rfl⟩|⟨hb,rfl⟩⟩<;>clear hq)
                         |(go_at_call 61;refine(zbX _ _ Mc8).mono ?_;intro e wq hq;rcases Ret0.bools hq with⟨rfl,⟨hb,rfl⟩|⟨hb,rfl⟩⟩<;>clear hq)
                         |(go_at_call 74;refine(zcQ _ _ eg (fun q:RPart=>!zaS q.name) _ _ _ ps _ rfl HL.o (HS.o.keep (n:=w.heap.size) Bw) (zge ps _ HN.o)).mono ?_;intro e wq hq;rcases Ret.bools hq with⟨zq,rfl,⟨hb,rfl⟩|⟨hb,rfl⟩⟩<;>clear hq)
                         |(go_at_call 120;refine(zd5 ⟨word,fp,ff,fc,fy,fa,fpt,fs⟩ _ _ _ _ _ _ ps _ _ _ _ rfl Mcy HC.o (HS.o.keep (n:=w.heap.size) Bw)).mono ?_;intro e wq hq;rcases Ret.bools hq with⟨zq,rfl,⟨hb,rfl⟩|⟨hb,rfl⟩⟩<;>clear hq))
  all_goals(try(go_ret;exact Ret.of (zb5 Mdf) Bw))
  go_cut [31]from 4 (fun v wc=>v=.bool (!zbz pl)/\Below w.heap.size w wc/\w.heap.size+1<=wc.heap.size/\wc.heap[w.heap.size]?=some (.cells #[.int .i64 (k:Int),.int .i64 dy,.string pl,.string fr,.slice B ps.length c,.int .i64 cl,.int .i64 yr] 76))
  case first=>
   go_wp2_with (first
                 |(go_at_call 87;refine(zbi _ _ _ _).mono ?_;intro e wq hq;rcases Ret0.bools hq with⟨rfl,⟨hb,rfl⟩|⟨hb,rfl⟩⟩<;>clear hq)
                 |(go_at_call 62;refine(zcP _ _).mono ?_;intro e wq hq;rcases Ret0.bools hq with⟨rfl,⟨hb,rfl⟩|⟨hb,rfl⟩⟩<;>clear hq)
                 |(go_at_call 61;refine(zbX _ _ Mc8).mono ?_;intro e wq hq;rcases Ret0.bools hq with⟨rfl,⟨hb,rfl⟩|⟨hb,rfl⟩⟩<;>clear hq)
                 |(go_at_call 74;refine(zcQ _ _ eg (fun q:RPart=>!zaS q.name) _ _ _ ps _ rfl HL.o (HS.o.keep (n:=w.heap.size) Bw) (zge ps _ HN.o)).mono ?_;intro e wq hq;rcases Ret.bools hq with⟨zq,rfl,⟨hb,rfl⟩|⟨hb,rfl⟩⟩<;>clear hq)
                 |(go_at_call 120;refine(zd5 ⟨word,fp,ff,fc,fy,fa,fpt,fs⟩ _ _ _ _ _ _ ps _ _ _ _ rfl Mcy HC.o (HS.o.keep (n:=w.heap.size) Bw)).mono ?_;intro e wq hq;rcases Ret.bools hq with⟨zq,rfl,⟨hb,rfl⟩|⟨hb,rfl⟩⟩<;>clear hq))
   all_goals go_meet
   all_goals(refine⟨zaO (by first|exact hb.symm|simp[zbz,noB, *]),Bw,by first|omega|(simp[zaf];done)|(simp[zaf];omega),?_⟩;exact zar _ _ _ rfl)
  case rest=>
   obtain⟨rfl,hB,hsz,g0⟩:=hcut;have d0:wc.cell? ⟨w.heap.size,0,none⟩=some (.int .i64 (k:Int)):=McC;have d1:wc.cell? ⟨w.heap.size,1,none⟩=some (.int .i64 dy):=McC;have d2:wc.cell? ⟨w.heap.size,2,none⟩=some (.string pl):=McC;have d3:wc.cell? ⟨w.heap.size,3,none⟩=some (.string fr):=McC;have d4:wc.cell? ⟨w.heap.size,4,none⟩=some (.slice B ps.length c):=McC;have d5:wc.cell? ⟨w.heap.size,5,none⟩=some (.int .i64 cl):=McC;have d6:wc.cell? ⟨w.heap.size,6,none⟩=some (.int .i64 yr):=McC;have e0:w.heap.size<wc.heap.size:=Mcy;have e1:w.heap.size≠wc.heap.size:=Mcy;cases cC:zbz pl
   ·exact Mae
   ·go_upto_region 8 with fail
    go_cut [31]from 4 (fun v wc=>v=.bool (!zbz fr)/\Below w.heap.size w wc/\w.heap.size+1<=wc.heap.size/\wc.heap[w.heap.size]?=some (.cells #[.int .i64 (k:Int),.int .i64 dy,.string pl,.string fr,.slice B ps.length c,.int .i64 cl,.int .i64 yr] 76))
    case first=>
     exact My
    case rest=>
     obtain⟨rfl,hB,hsz,g0⟩:=hcut;have d0:wc.cell? ⟨w.heap.size,0,none⟩=some (.int .i64 (k:Int)):=McC;have d1:wc.cell? ⟨w.heap.size,1,none⟩=some (.int .i64 dy):=McC;have d2:wc.cell? ⟨w.heap.size,2,none⟩=some (.string pl):=McC;have d3:wc.cell? ⟨w.heap.size,3,none⟩=some (.string fr):=McC;have d4:wc.cell? ⟨w.heap.size,4,none⟩=some (.slice B ps.length c):=McC;have d5:wc.cell? ⟨w.heap.size,5,none⟩=some (.int .i64 cl):=McC;have d6:wc.cell? ⟨w.heap.size,6,none⟩=some (.int .i64 yr):=McC;have e0:w.heap.size<wc.heap.size:=Mcy;have e1:w.heap.size≠wc.heap.size:=Mcy;cases dW:zbz fr
     ·exact Mae
     ·have h8:¬8<ps.length:=Mcy;go_upto_region 9 with fail
      go_cut [31]from 4 (fun v wc=>v=.bool (ps.any (fun p=>!zaS p.name))/\Below w.heap.size w wc/\w.heap.size+1<=wc.heap.size/\wc.heap[w.heap.size]?=some (.cells #[.int .i64 (k:Int),.int .i64 dy,.string pl,.string fr,.slice B ps.length c,.int .i64 cl,.int .i64 yr] 76))
      case first=>
       exact My
      case rest=>
       obtain⟨rfl,hB,hsz,g0⟩:=hcut;have d0:wc.cell? ⟨w.heap.size,0,none⟩=some (.int .i64 (k:Int)):=McC;have d1:wc.cell? ⟨w.heap.size,1,none⟩=some (.int .i64 dy):=McC;have d2:wc.cell? ⟨w.heap.size,2,none⟩=some (.string pl):=McC;have d3:wc.cell? ⟨w.heap.size,3,none⟩=some (.string fr):=McC;have d4:wc.cell? ⟨w.heap.size,4,none⟩=some (.slice B ps.length c):=McC;have d5:wc.cell? ⟨w.heap.size,5,none⟩=some (.int .i64 cl):=McC;have d6:wc.cell? ⟨w.heap.size,6,none⟩=some (.int .i64 yr):=McC;have e0:w.heap.size<wc.heap.size:=Mcy;have e1:w.heap.size≠wc.heap.size:=Mcy;cases Ac:ps.any (fun p=>!zaS p.name)
       ·replace f0:=(hB.cell (p:=⟨0,k*8,none⟩) eB).trans f0;replace f1:=(hB.cell (p:=⟨0,k*8+1,none⟩) eB).trans f1;replace f2:=(hB.cell (p:=⟨0,k*8+2,none⟩) eB).trans f2;replace f3:=(hB.cell (p:=⟨0,k*8+3,none⟩) eB).trans f3;replace f4:=(hB.cell (p:=⟨0,k*8+4,none⟩) eB).trans f4;replace f5:=(hB.cell (p:=⟨0,k*8+5,none⟩) eB).trans f5;replace f6:=(hB.cell (p:=⟨0,k*8+6,none⟩) eB).trans f6;replace f7:=(hB.cell (p:=⟨0,k*8+7,none⟩) eB).trans f7;obtain⟨q,hq⟩:∃q,wc.heap.size=q:=⟨_,rfl⟩
        have HQ:=zHi hq;have e9:w.heap.size<q:=Mcy;have e8:w.heap.size≠q:=Mcy;clear hq;go_upto_region 11 with fail
        go_cut [0,3]from 4 (fun v0 v wc=>v=.pointer (some ⟨q,0,none⟩)/\Below w.heap.size w wc/\q<wc.heap.size/\wc.heap[w.heap.size]?=some (.cells #[.int .i64 (k:Int),.int .i64 dy,.string pl,.string fr,.slice B ps.length c,.int .i64 cl,.int .i64 yr] 76)/\wc.heap[q]?=some (.cells #[.string word,.bool fp,.bool ff,.bool fc,.bool fy,.bool fa,.bool fpt,.bool fs] 179))
        case first=>
         go_wp2_with fail
         all_goals go_meet
         all_goals(exact⟨by rw[HQ.o],Bw,by simp[HQ.o],by repeat(first|assumption|with_reducible refine zal ?_|with_reducible refine zbD ?_|with_reducible refine J_ne Mcy ?_),zar _ _ _ HQ.o.symm⟩)
        case rest=>
         obtain⟨rfl,hB,hsz,g0,g1⟩:=hcut;have d0:wc.cell? ⟨w.heap.size,0,none⟩=some (.int .i64 (k:Int)):=McC;have d1:wc.cell? ⟨w.heap.size,1,none⟩=some (.int .i64 dy):=McC;have d2:wc.cell? ⟨w.heap.size,2,none⟩=some (.string pl):=McC;have d3:wc.cell? ⟨w.heap.size,3,none⟩=some (.string fr):=McC;have d4:wc.cell? ⟨w.heap.size,4,none⟩=some (.slice B ps.length c):=McC;have d5:wc.cell? ⟨w.heap.size,5,none⟩=some (.int .i64 cl):=McC;have d6:wc.cell? ⟨w.heap.size,6,none⟩=some (.int .i64 yr):=McC;have e0:w.heap.size<wc.heap.size:=Mcy;have e1:w.heap.size≠wc.heap.size:=Mcy;have c0:wc.cell? ⟨q,0,none⟩=some (.string word):=McE;have c1:wc.cell? ⟨q,1,none⟩=some (.bool fp):=McE;have c2:wc.cell? ⟨q,2,none⟩=some (.bool ff):=McE;have c3:wc.cell? ⟨q,3,none⟩=some (.bool fc):=McE;have c4:wc.cell? ⟨q,4,none⟩=some (.bool fy):=McE;have c5:wc.cell? ⟨q,5,none⟩=some (.bool fa):=McE;have c6:wc.cell? ⟨q,6,none⟩=some (.bool fpt):=McE;have c7:wc.cell? ⟨q,7,none⟩=some (.bool fs):=McE;have e2:q≠wc.heap.size:=Mcy;go_upto_region 12 with fail
         go_cut [57]from 4 (fun v wc=>v=.bool (fp != !noB pl||ff != !noB fr)/\Below w.heap.size w wc/\q<wc.heap.size/\wc.heap[w.heap.size]?=some (.cells #[.int .i64 (k:Int),.int .i64 dy,.string pl,.string fr,.slice B ps.length c,.int .i64 cl,.int .i64 yr] 76)/\wc.heap[q]?=some (.cells #[.string word,.bool fp,.bool ff,.bool fc,.bool fy,.bool fa,.bool fpt,.bool fs] 179))
         case first=>
          exact Mz
         case rest=>
          obtain⟨rfl,hB,hsz,g0,g1⟩:=hcut;have d0:wc.cell? ⟨w.heap.size,0,none⟩=some (.int .i64 (k:Int)):=McC;have d1:wc.cell? ⟨w.heap.size,1,none⟩=some (.int .i64 dy):=McC;have d2:wc.cell? ⟨w.heap.size,2,none⟩=some (.string pl):=McC;have d3:wc.cell? ⟨w.heap.size,3,none⟩=some (.string fr):=McC;have d4:wc.cell? ⟨w.heap.size,4,none⟩=some (.slice B ps.length c):=McC;have d5:wc.cell? ⟨w.heap.size,5,none⟩=some (.int .i64 cl):=McC;have d6:wc.cell? ⟨w.heap.size,6,none⟩=some (.int .i64 yr):=McC;have e0:w.heap.size<wc.heap.size:=Mcy;have e1:w.heap.size≠wc.heap.size:=Mcy;have c0:wc.cell? ⟨q,0,none⟩=some (.string word):=McE;have c1:wc.cell? ⟨q,1,none⟩=some (.bool fp):=McE;have c2:wc.cell? ⟨q,2,none⟩=some (.bool ff):=McE;have c3:wc.cell? ⟨q,3,none⟩=some (.bool fc):=McE;have c4:wc.cell? ⟨q,4,none⟩=some (.bool fy):=McE;have c5:wc.cell? ⟨q,5,none⟩=some (.bool fa):=McE;have c6:wc.cell? ⟨q,6,none⟩=some (.bool fpt):=McE;have c7:wc.cell? ⟨q,7,none⟩=some (.bool fs):=McE;have e2:q≠wc.heap.size:=Mcy;cases Gf:(fp != !noB pl||ff != !noB fr)
          ·go_upto_region 13 with fail
           go_cut [57]from 4 (fun v wc=>v=.bool (!fc&&cl != 0)/\Below w.heap.size w wc/\q<wc.heap.size/\wc.heap[w.heap.size]?=some (.cells #[.int .i64 (k:Int),.int .i64 dy,.string pl,.string fr,.slice B ps.length c,.int .i64 cl,.int .i64 yr] 76)/\wc.heap[q]?=some (.cells #[.string word,.bool fp,.bool ff,.bool fc,.bool fy,.bool fa,.bool fpt,.bool fs] 179))
           case first=>
            exact Mz
           case rest=>
            obtain⟨rfl,hB,hsz,g0,g1⟩:=hcut;have d0:wc.cell? ⟨w.heap.size,0,none⟩=some (.int .i64 (k:Int)):=McC;have d1:wc.cell? ⟨w.heap.size,1,none⟩=some (.int .i64 dy):=McC;have d2:wc.cell? ⟨w.heap.size,2,none⟩=some (.string pl):=McC;have d3:wc.cell? ⟨w.heap.size,3,none⟩=some (.string fr):=McC;have d4:wc.cell? ⟨w.heap.size,4,none⟩=some (.slice B ps.length c):=McC;have d5:wc.cell? ⟨w.heap.size,5,none⟩=some (.int .i64 cl):=McC;have d6:wc.cell? ⟨w.heap.size,6,none⟩=some (.int .i64 yr):=McC;have e0:w.heap.size<wc.heap.size:=Mcy;have e1:w.heap.size≠wc.heap.size:=Mcy;have c0:wc.cell? ⟨q,0,none⟩=some (.string word):=McE;have c1:wc.cell? ⟨q,1,none⟩=some (.bool fp):=McE;have c2:wc.cell? ⟨q,2,none⟩=some (.bool ff):=McE;have c3:wc.cell? ⟨q,3,none⟩=some (.bool fc):=McE;have c4:wc.cell? ⟨q,4,none⟩=some (.bool fy):=McE;have c5:wc.cell? ⟨q,5,none⟩=some (.bool fa):=McE;have c6:wc.cell? ⟨q,6,none⟩=some (.bool fpt):=McE;have c7:wc.cell? ⟨q,7,none⟩=some (.bool fs):=McE;have e2:q≠wc.heap.size:=Mcy;cases hn5:(!fc&&cl != 0)
            ·go_upto_region 14 with fail
             go_cut [57]from 4 (fun v wc=>v=.bool (!fy&&yr != 0)/\Below w.heap.size w wc/\q<wc.heap.size/\wc.heap[w.heap.size]?=some (.cells #[.int .i64 (k:Int),.int .i64 dy,.string pl,.string fr,.slice B ps.length c,.int .i64 cl,.int .i64 yr] 76)/\wc.heap[q]?=some (.cells #[.string word,.bool fp,.bool ff,.bool fc,.bool fy,.bool fa,.bool fpt,.bool fs] 179))
             case first=>
              exact Mz
             case rest=>
              obtain⟨rfl,hB,hsz,g0,g1⟩:=hcut;have d0:wc.cell? ⟨w.heap.size,0,none⟩=some (.int .i64 (k:Int)):=McC;have d1:wc.cell? ⟨w.heap.size,1,none⟩=some (.int .i64 dy):=McC;have d2:wc.cell? ⟨w.heap.size,2,none⟩=some (.string pl):=McC;have d3:wc.cell? ⟨w.heap.size,3,none⟩=some (.string fr):=McC;have d4:wc.cell? ⟨w.heap.size,4,none⟩=some (.slice B ps.length c):=McC;have d5:wc.cell? ⟨w.heap.size,5,none⟩=some (.int .i64 cl):=McC;have d6:wc.cell? ⟨w.heap.size,6,none⟩=some (.int .i64 yr):=McC;have e0:w.heap.size<wc.heap.size:=Mcy;have e1:w.heap.size≠wc.heap.size:=Mcy;have c0:wc.cell? ⟨q,0,none⟩=some (.string word):=McE;have c1:wc.cell? ⟨q,1,none⟩=some (.bool fp):=McE;have c2:wc.cell? ⟨q,2,none⟩=some (.bool ff):=McE;have c3:wc.cell? ⟨q,3,none⟩=some (.bool fc):=McE;have c4:wc.cell? ⟨q,4,none⟩=some (.bool fy):=McE;have c5:wc.cell? ⟨q,5,none⟩=some (.bool fa):=McE;have c6:wc.cell? ⟨q,6,none⟩=some (.bool fpt):=McE;have c7:wc.cell? ⟨q,7,none⟩=some (.bool fs):=McE;have e2:q≠wc.heap.size:=Mcy;cases hn6:(!fy&&yr != 0)
              ·go_upto_region 16 with fail
               go_cut [88]from 4 (fun v wc=>v=.bool (yr==0&&((k:Int)==3||((k:Int)==0&&cl==2)))/\Below w.heap.size w wc/\q<wc.heap.size/\wc.heap[w.heap.size]?=some (.cells #[.int .i64 (k:Int),.int .i64 dy,.string pl,.string fr,.slice B ps.length c,.int .i64 cl,.int .i64 yr] 76)/\wc.heap[q]?=some (.cells #[.string word,.bool fp,.bool ff,.bool fc,.bool fy,.bool fa,.bool fpt,.bool fs] 179))
               case first=>
                exact Mz
               case rest=>
                obtain⟨rfl,hB,hsz,g0,g1⟩:=hcut;have d0:wc.cell? ⟨w.heap.size,0,none⟩=some (.int .i64 (k:Int)):=McC;have d1:wc.cell? ⟨w.heap.size,1,none⟩=some (.int .i64 dy):=McC;have d2:wc.cell? ⟨w.heap.size,2,none⟩=some (.string pl):=McC;have d3:wc.cell? ⟨w.heap.size,3,none⟩=some (.string fr):=McC;have d4:wc.cell? ⟨w.heap.size,4,none⟩=some (.slice B ps.length c):=McC;have d5:wc.cell? ⟨w.heap.size,5,none⟩=some (.int .i64 cl):=McC;have d6:wc.cell? ⟨w.heap.size,6,none⟩=some (.int .i64 yr):=McC;have e0:w.heap.size<wc.heap.size:=Mcy;have e1:w.heap.size≠wc.heap.size:=Mcy;have c0:wc.cell? ⟨q,0,none⟩=some (.string word):=McE;have c1:wc.cell? ⟨q,1,none⟩=some (.bool fp):=McE;have c2:wc.cell? ⟨q,2,none⟩=some (.bool ff):=McE;have c3:wc.cell? ⟨q,3,none⟩=some (.bool fc):=McE;have c4:wc.cell? ⟨q,4,none⟩=some (.bool fy):=McE;have c5:wc.cell? ⟨q,5,none⟩=some (.bool fa):=McE;have c6:wc.cell? ⟨q,6,none⟩=some (.bool fpt):=McE;have c7:wc.cell? ⟨q,7,none⟩=some (.bool fs):=McE;have e2:q≠wc.heap.size:=Mcy;cases hn7:(yr==0&&((k:Int)==3||((k:Int)==0&&cl==2)))
                ·go_wp2_with (first
                               |(go_at_call 87;refine(zbi _ _ _ _).mono ?_;intro e wq hq;rcases Ret0.bools hq with⟨rfl,⟨hb,rfl⟩|⟨hb,rfl⟩⟩<;>clear hq)
                               |(go_at_call 62;refine(zcP _ _).mono ?_;intro e wq hq;rcases Ret0.bools hq with⟨rfl,⟨hb,rfl⟩|⟨hb,rfl⟩⟩<;>clear hq)
                               |(go_at_call 61;refine(zbX _ _ Mc8).mono ?_;intro e wq hq;rcases Ret0.bools hq with⟨rfl,⟨hb,rfl⟩|⟨hb,rfl⟩⟩<;>clear hq)
                               |(go_at_call 74;refine(zcQ _ _ eg (fun q:RPart=>!zaS q.name) _ _ _ ps _ rfl HL.o (HS.o.keep (n:=w.heap.size) Bw) (zge ps _ HN.o)).mono ?_;intro e wq hq;rcases Ret.bools hq with⟨zq,rfl,⟨hb,rfl⟩|⟨hb,rfl⟩⟩<;>clear hq)
                               |(go_at_call 120;refine(zd5 ⟨word,fp,ff,fc,fy,fa,fpt,fs⟩ _ _ _ _ _ _ ps _ _ _ _ rfl Mcy HC.o (HS.o.keep (n:=w.heap.size) Bw)).mono ?_;intro e wq hq;rcases Ret.bools hq with⟨zq,rfl,⟨hb,rfl⟩|⟨hb,rfl⟩⟩<;>clear hq))
                 all_goals go_ret
                 all_goals exact Ret.of (zb5 McQ) Bw
                ·exact ME
              ·exact ME
            ·exact ME
          ·exact ME
       ·exact Mae
 ·replace hk:inR kd 0 8=false:=by simpa using hk
  go_wp2_with (go_at_call 87;refine(zbi _ _ _ _).mono ?_;rintro e wq ⟨rfl,rfl⟩;rw[hk])
  all_goals go_ret
  all_goals exact Ret.of (zb5 Mdf) Bw

/- Walk of chapter 5's CheckDeed. -/
import Derived.Test.YtmfbdfejhdkiaaaGreatDoorJ6
set_option linter.all false
set_option maxRecDepth 100000
set_option maxHeartbeats 4000000
namespace Go.Proofs.YtmfbdfejhdkiaaaGreatDoor
open Go.RowKit
attribute [local go_sem] World.cell?_alloc_mark zae za4 zao za8 zav zaw zax zay zaz za0 za1
attribute [local go_sem] zap zac
def FormsIn(w:World):Prop:=0<w.heap.size/\∀k (f:Form),zed[k]?=some f->∀j u,f.cells[j]?=some u->w.cell? ⟨0,k*8+j,none⟩=some u
theorem FormsIn.keep{w W:World}{n:Nat}(h:FormsIn w)(hB:Below n w W)(hn:w.heap.size<=n:=by first|exact Qc|omega):FormsIn W:=
 ⟨Nat.lt_of_lt_of_le h.1 hB.size,fun k f hf j u hu=>(hB.cell (p:=⟨0,_,none⟩) (Nat.lt_of_lt_of_le h.1 hn)).trans (h.2 k f hf j u hu)⟩
def zdE(d:Deed):Prop:=d.place.size<=100000/\d.frm.size<=100000/\(∀p∈d.to,p.name.size<=100000)/\d.to.length<=100000
def zc4(d:Deed):Int:=
 if !inR d.kind 0 8 then 15 else
 if !zbm d.day||!inR d.cls 0 4||!inR d.years 0 99 then 2 else
 if decide (8<d.to.length)then 8 else
 if !zcC d.place||!zcC d.frm||d.to.any (fun p=>!zaE p.name)then 4 else
 let f:=zed.getD d.kind.toNat ⟨⟨#[]⟩,false,false,false,false,false,false,false⟩
 if(f.place != !noB d.place||f.frm != !noB d.frm)||(!f.cls&&d.cls != 0)||(!f.years&&d.years != 0)then 3 else
 if d.years==0&&(d.kind==3||(d.kind==0&&d.cls==2))then 3 else
 if !zhy f d.frm d.to then 3 else 0
theorem cdc_any(q:RPart)(W:World)(hs:q.name.size<=100000):
 Calls Tryz.prog 48 #[.agg #[.string q.name,.int .i64 q.num,.int .i64 q.den]] W (Ret W (.bool (!zaE q.name))):=by
 go_enter Tryz.func48,Tryz.ntmps48
 exact MaC
theorem zgt(xs:List RPart)(w:World)(hs:∀p∈xs,p.name.size<=100000):
 zeZ 48 #[] (fun x=> .agg (RPart.cells x).toArray) (fun q=>!zaE q.name) xs w:=fun x hx W hW=>by
 refine(cdc_any x W (hs x hx)).mono ?_;exact May
theorem zfQ(d:Deed)(B:Option Addr)(c:Nat)(w:World)(hF:FormsIn w)(hO:zdE d)(ao:d.to.length<=c)(hS:Sl w 3 RPart.cells B d.to):
 Calls Tryz.prog 20 #[.agg #[.int .i64 d.kind,.int .i64 d.day,.string d.place,.string d.frm,.slice B d.to.length c,.int .i64 d.cls,.int .i64 d.years]] w (Ret w (.int .i64 (zc4 d))):=by
 obtain⟨kd,dy,pl,fr,ps,cl,yr⟩:=d;obtain⟨o1,o2,o3,o4⟩:=hO;simp only at*;have eg:∀args w,(callFunc 48 args).run Tryz.prog w=.ok (.enter 48 args) w:=enters_of Tryz.func48 Mcs rfl;obtain⟨HS,HC,HN,HL⟩:=yH4 hS ao o3 o4;clear hS ao o3 o4;generalize hR:zc4 ⟨kd,dy,pl,fr,ps,cl,yr⟩=R;have HR:=zHi hR;clear hR;go_enter Tryz.func20,Tryz.ntmps20
 by_cases hk:inR kd 0 8=true
 ·obtain⟨k,rfl,g7⟩:∃k:Nat,kd=k/\k<9:=by
   simp[inR]at hk;exact⟨kd.toNat,by omega,by omega⟩
  have aa:k<zed.length:=g7;have aQ:=hF.2 k _ (List.getElem?_eq_getElem aa);have dD:0<w.heap.size:=hF.1;have hf:zed.getD ((k:Int).toNat) ⟨⟨#[]⟩,false,false,false,false,false,false,false⟩=zed[k]:=by
   exact MbQ
  generalize zed[k]=f at aQ hf;obtain⟨word,fp,ff,fc,fy,fa,fpt,fs⟩:=f;have f0:w.cell? ⟨0,k*8,none⟩=some (.string word):=aQ 0 _ rfl;have f1:w.cell? ⟨0,k*8+1,none⟩=some (.bool fp):=aQ 1 _ rfl;have f2:w.cell? ⟨0,k*8+2,none⟩=some (.bool ff):=aQ 2 _ rfl;have f3:w.cell? ⟨0,k*8+3,none⟩=some (.bool fc):=aQ 3 _ rfl;have f4:w.cell? ⟨0,k*8+4,none⟩=some (.bool fy):=aQ 4 _ rfl;have f5:w.cell? ⟨0,k*8+5,none⟩=some (.bool fa):=aQ 5 _ rfl;have f6:w.cell? ⟨0,k*8+6,none⟩=some (.bool fpt):=aQ 6 _ rfl;have f7:w.cell? ⟨0,k*8+7,none⟩=some (.bool fs):=aQ 7 _ rfl;have lJ:=zHi hf;clear aQ hF hf;have k0:(0:Int)<=(k:Int):=Mcq;have k9:(k:Int)<9:=Mcq;go_upto_region 3 with(go_at_call 45;refine(zbq _ _ _ _).mono ?_;rintro e wq ⟨rfl,rfl⟩;rw[hk])
  go_upto_region 7 with(first
                         |(go_at_call 45;refine(zbq _ _ _ _).mono ?_;intro e wq hq;rcases Ret0.bools hq with⟨rfl,⟨hb,rfl⟩|⟨hb,rfl⟩⟩<;>clear hq)
                         |(go_at_call 30;refine(zbQ _ _).mono ?_;intro e wq hq;rcases Ret0.bools hq with⟨rfl,⟨hb,rfl⟩|⟨hb,rfl⟩⟩<;>clear hq)
                         |(go_at_call 46;refine(zdQ _ _ Mc3).mono ?_;intro e wq hq;rcases Ret0.bools hq with⟨rfl,⟨hb,rfl⟩|⟨hb,rfl⟩⟩<;>clear hq)
                         |(go_at_call 47;refine(zcf _ _ eg (fun q:RPart=>!zaE q.name) _ _ _ ps _ rfl HL.o (HS.o.keep (n:=w.heap.size) Bw) (zgt ps _ HN.o)).mono ?_;intro e wq hq;rcases Ret.bools hq with⟨zq,rfl,⟨hb,rfl⟩|⟨hb,rfl⟩⟩<;>clear hq)
                         |(go_at_call 49;refine(zbT ⟨word,fp,ff,fc,fy,fa,fpt,fs⟩ _ _ _ _ _ _ ps _ _ _ _ rfl Mcq HC.o (HS.o.keep (n:=w.heap.size) Bw)).mono ?_;intro e wq hq;rcases Ret.bools hq with⟨zq,rfl,⟨hb,rfl⟩|⟨hb,rfl⟩⟩<;>clear hq))
  all_goals(try(go_ret;exact Ret.of (zcd McU) Bw))
  go_cut [31]from 4 (fun v wc=>v=.bool (!zcC pl)/\Qa w wc/\w.heap.size+1<=wc.heap.size/\wc.heap[w.heap.size]?=some (.cells #[.int .i64 (k:Int),.int .i64 dy,.string pl,.string fr,.slice B ps.length c,.int .i64 cl,.int .i64 yr] 28))
  case first=>
   go_wp2_with (first
                 |(go_at_call 45;refine(zbq _ _ _ _).mono ?_;intro e wq hq;rcases Ret0.bools hq with⟨rfl,⟨hb,rfl⟩|⟨hb,rfl⟩⟩<;>clear hq)
                 |(go_at_call 30;refine(zbQ _ _).mono ?_;intro e wq hq;rcases Ret0.bools hq with⟨rfl,⟨hb,rfl⟩|⟨hb,rfl⟩⟩<;>clear hq)
                 |(go_at_call 46;refine(zdQ _ _ Mc3).mono ?_;intro e wq hq;rcases Ret0.bools hq with⟨rfl,⟨hb,rfl⟩|⟨hb,rfl⟩⟩<;>clear hq)
                 |(go_at_call 47;refine(zcf _ _ eg (fun q:RPart=>!zaE q.name) _ _ _ ps _ rfl HL.o (HS.o.keep (n:=w.heap.size) Bw) (zgt ps _ HN.o)).mono ?_;intro e wq hq;rcases Ret.bools hq with⟨zq,rfl,⟨hb,rfl⟩|⟨hb,rfl⟩⟩<;>clear hq)
                 |(go_at_call 49;refine(zbT ⟨word,fp,ff,fc,fy,fa,fpt,fs⟩ _ _ _ _ _ _ ps _ _ _ _ rfl Mcq HC.o (HS.o.keep (n:=w.heap.size) Bw)).mono ?_;intro e wq hq;rcases Ret.bools hq with⟨zq,rfl,⟨hb,rfl⟩|⟨hb,rfl⟩⟩<;>clear hq))
   all_goals go_meet
   all_goals(refine⟨zaR Mdo,Bw,by first|omega|(simp[zae];done)|(simp[zae];omega),?_⟩;exact zat _ _ _ rfl)
  case rest=>
   obtain⟨rfl,hB,hsz,g0⟩:=hcut;have d0:wc.cell? ⟨w.heap.size,0,none⟩=some (.int .i64 (k:Int)):=Mcr;have d1:wc.cell? ⟨w.heap.size,1,none⟩=some (.int .i64 dy):=Mcr;have d2:wc.cell? ⟨w.heap.size,2,none⟩=some (.string pl):=Mcr;have d3:wc.cell? ⟨w.heap.size,3,none⟩=some (.string fr):=Mcr;have d4:wc.cell? ⟨w.heap.size,4,none⟩=some (.slice B ps.length c):=Mcr;have d5:wc.cell? ⟨w.heap.size,5,none⟩=some (.int .i64 cl):=Mcr;have d6:wc.cell? ⟨w.heap.size,6,none⟩=some (.int .i64 yr):=Mcr;have e0:w.heap.size<wc.heap.size:=Mcq;have e1:w.heap.size≠wc.heap.size:=Mcq;cases bD:zcC pl
   ·exact MN
   ·go_upto_region 8 with fail
    go_cut [31]from 4 (fun v wc=>v=.bool (!zcC fr)/\Qa w wc/\w.heap.size+1<=wc.heap.size/\wc.heap[w.heap.size]?=some (.cells #[.int .i64 (k:Int),.int .i64 dy,.string pl,.string fr,.slice B ps.length c,.int .i64 cl,.int .i64 yr] 28))
    case first=>
     exact MC
    case rest=>
     obtain⟨rfl,hB,hsz,g0⟩:=hcut;have d0:wc.cell? ⟨w.heap.size,0,none⟩=some (.int .i64 (k:Int)):=Mcr;have d1:wc.cell? ⟨w.heap.size,1,none⟩=some (.int .i64 dy):=Mcr;have d2:wc.cell? ⟨w.heap.size,2,none⟩=some (.string pl):=Mcr;have d3:wc.cell? ⟨w.heap.size,3,none⟩=some (.string fr):=Mcr;have d4:wc.cell? ⟨w.heap.size,4,none⟩=some (.slice B ps.length c):=Mcr;have d5:wc.cell? ⟨w.heap.size,5,none⟩=some (.int .i64 cl):=Mcr;have d6:wc.cell? ⟨w.heap.size,6,none⟩=some (.int .i64 yr):=Mcr;have e0:w.heap.size<wc.heap.size:=Mcq;have e1:w.heap.size≠wc.heap.size:=Mcq;cases dY:zcC fr
     ·exact MN
     ·have h8:¬8<ps.length:=Mcq;go_upto_region 9 with fail
      go_cut [31]from 4 (fun v wc=>v=.bool (ps.any (fun p=>!zaE p.name))/\Qa w wc/\w.heap.size+1<=wc.heap.size/\wc.heap[w.heap.size]?=some (.cells #[.int .i64 (k:Int),.int .i64 dy,.string pl,.string fr,.slice B ps.length c,.int .i64 cl,.int .i64 yr] 28))
      case first=>
       exact MC
      case rest=>
       obtain⟨rfl,hB,hsz,g0⟩:=hcut;have d0:wc.cell? ⟨w.heap.size,0,none⟩=some (.int .i64 (k:Int)):=Mcr;have d1:wc.cell? ⟨w.heap.size,1,none⟩=some (.int .i64 dy):=Mcr;have d2:wc.cell? ⟨w.heap.size,2,none⟩=some (.string pl):=Mcr;have d3:wc.cell? ⟨w.heap.size,3,none⟩=some (.string fr):=Mcr;have d4:wc.cell? ⟨w.heap.size,4,none⟩=some (.slice B ps.length c):=Mcr;have d5:wc.cell? ⟨w.heap.size,5,none⟩=some (.int .i64 cl):=Mcr;have d6:wc.cell? ⟨w.heap.size,6,none⟩=some (.int .i64 yr):=Mcr;have e0:w.heap.size<wc.heap.size:=Mcq;have e1:w.heap.size≠wc.heap.size:=Mcq;cases AQ:ps.any (fun p=>!zaE p.name)
       ·replace f0:=(hB.cell (p:=⟨0,k*8,none⟩) dD).trans f0;replace f1:=(hB.cell (p:=⟨0,k*8+1,none⟩) dD).trans f1;replace f2:=(hB.cell (p:=⟨0,k*8+2,none⟩) dD).trans f2;replace f3:=(hB.cell (p:=⟨0,k*8+3,none⟩) dD).trans f3;replace f4:=(hB.cell (p:=⟨0,k*8+4,none⟩) dD).trans f4;replace f5:=(hB.cell (p:=⟨0,k*8+5,none⟩) dD).trans f5;replace f6:=(hB.cell (p:=⟨0,k*8+6,none⟩) dD).trans f6;replace f7:=(hB.cell (p:=⟨0,k*8+7,none⟩) dD).trans f7;obtain⟨q,hq⟩:∃q,wc.heap.size=q:=⟨_,rfl⟩
        have HQ:=zHi hq;have e9:w.heap.size<q:=Mcq;have e8:w.heap.size≠q:=Mcq;clear hq;go_upto_region 11 with fail
        go_cut [0,3]from 4 (fun v0 v wc=>v=.pointer (some ⟨q,0,none⟩)/\Qa w wc/\q<wc.heap.size/\wc.heap[w.heap.size]?=some (.cells #[.int .i64 (k:Int),.int .i64 dy,.string pl,.string fr,.slice B ps.length c,.int .i64 cl,.int .i64 yr] 28)/\wc.heap[q]?=some (.cells #[.string word,.bool fp,.bool ff,.bool fc,.bool fy,.bool fa,.bool fpt,.bool fs] 107))
        case first=>
         exact Mak
        case rest=>
         obtain⟨rfl,hB,hsz,g0,g1⟩:=hcut;have d0:wc.cell? ⟨w.heap.size,0,none⟩=some (.int .i64 (k:Int)):=Mcr;have d1:wc.cell? ⟨w.heap.size,1,none⟩=some (.int .i64 dy):=Mcr;have d2:wc.cell? ⟨w.heap.size,2,none⟩=some (.string pl):=Mcr;have d3:wc.cell? ⟨w.heap.size,3,none⟩=some (.string fr):=Mcr;have d4:wc.cell? ⟨w.heap.size,4,none⟩=some (.slice B ps.length c):=Mcr;have d5:wc.cell? ⟨w.heap.size,5,none⟩=some (.int .i64 cl):=Mcr;have d6:wc.cell? ⟨w.heap.size,6,none⟩=some (.int .i64 yr):=Mcr;have e0:w.heap.size<wc.heap.size:=Mcq;have e1:w.heap.size≠wc.heap.size:=Mcq;have c0:wc.cell? ⟨q,0,none⟩=some (.string word):=Mct;have c1:wc.cell? ⟨q,1,none⟩=some (.bool fp):=Mct;have c2:wc.cell? ⟨q,2,none⟩=some (.bool ff):=Mct;have c3:wc.cell? ⟨q,3,none⟩=some (.bool fc):=Mct;have c4:wc.cell? ⟨q,4,none⟩=some (.bool fy):=Mct;have c5:wc.cell? ⟨q,5,none⟩=some (.bool fa):=Mct;have c6:wc.cell? ⟨q,6,none⟩=some (.bool fpt):=Mct;have c7:wc.cell? ⟨q,7,none⟩=some (.bool fs):=Mct;have e2:q≠wc.heap.size:=Mcq;go_upto_region 12 with fail
         go_cut [57]from 4 (fun v wc=>v=.bool (fp != !noB pl||ff != !noB fr)/\Qa w wc/\q<wc.heap.size/\wc.heap[w.heap.size]?=some (.cells #[.int .i64 (k:Int),.int .i64 dy,.string pl,.string fr,.slice B ps.length c,.int .i64 cl,.int .i64 yr] 28)/\wc.heap[q]?=some (.cells #[.string word,.bool fp,.bool ff,.bool fc,.bool fy,.bool fa,.bool fpt,.bool fs] 107))
         case first=>
          exact Mr
         case rest=>
          obtain⟨rfl,hB,hsz,g0,g1⟩:=hcut;have d0:wc.cell? ⟨w.heap.size,0,none⟩=some (.int .i64 (k:Int)):=Mcr;have d1:wc.cell? ⟨w.heap.size,1,none⟩=some (.int .i64 dy):=Mcr;have d2:wc.cell? ⟨w.heap.size,2,none⟩=some (.string pl):=Mcr;have d3:wc.cell? ⟨w.heap.size,3,none⟩=some (.string fr):=Mcr;have d4:wc.cell? ⟨w.heap.size,4,none⟩=some (.slice B ps.length c):=Mcr;have d5:wc.cell? ⟨w.heap.size,5,none⟩=some (.int .i64 cl):=Mcr;have d6:wc.cell? ⟨w.heap.size,6,none⟩=some (.int .i64 yr):=Mcr;have e0:w.heap.size<wc.heap.size:=Mcq;have e1:w.heap.size≠wc.heap.size:=Mcq;have c0:wc.cell? ⟨q,0,none⟩=some (.string word):=Mct;have c1:wc.cell? ⟨q,1,none⟩=some (.bool fp):=Mct;have c2:wc.cell? ⟨q,2,none⟩=some (.bool ff):=Mct;have c3:wc.cell? ⟨q,3,none⟩=some (.bool fc):=Mct;have c4:wc.cell? ⟨q,4,none⟩=some (.bool fy):=Mct;have c5:wc.cell? ⟨q,5,none⟩=some (.bool fa):=Mct;have c6:wc.cell? ⟨q,6,none⟩=some (.bool fpt):=Mct;have c7:wc.cell? ⟨q,7,none⟩=some (.bool fs):=Mct;have e2:q≠wc.heap.size:=Mcq;cases Ep:(fp != !noB pl||ff != !noB fr)
          ·go_upto_region 13 with fail
           go_cut [57]from 4 (fun v wc=>v=.bool (!fc&&cl != 0)/\Qa w wc/\q<wc.heap.size/\wc.heap[w.heap.size]?=some (.cells #[.int .i64 (k:Int),.int .i64 dy,.string pl,.string fr,.slice B ps.length c,.int .i64 cl,.int .i64 yr] 28)/\wc.heap[q]?=some (.cells #[.string word,.bool fp,.bool ff,.bool fc,.bool fy,.bool fa,.bool fpt,.bool fs] 107))
           case first=>
            exact Mr
           case rest=>
            obtain⟨rfl,hB,hsz,g0,g1⟩:=hcut;have d0:wc.cell? ⟨w.heap.size,0,none⟩=some (.int .i64 (k:Int)):=Mcr;have d1:wc.cell? ⟨w.heap.size,1,none⟩=some (.int .i64 dy):=Mcr;have d2:wc.cell? ⟨w.heap.size,2,none⟩=some (.string pl):=Mcr;have d3:wc.cell? ⟨w.heap.size,3,none⟩=some (.string fr):=Mcr;have d4:wc.cell? ⟨w.heap.size,4,none⟩=some (.slice B ps.length c):=Mcr;have d5:wc.cell? ⟨w.heap.size,5,none⟩=some (.int .i64 cl):=Mcr;have d6:wc.cell? ⟨w.heap.size,6,none⟩=some (.int .i64 yr):=Mcr;have e0:w.heap.size<wc.heap.size:=Mcq;have e1:w.heap.size≠wc.heap.size:=Mcq;have c0:wc.cell? ⟨q,0,none⟩=some (.string word):=Mct;have c1:wc.cell? ⟨q,1,none⟩=some (.bool fp):=Mct;have c2:wc.cell? ⟨q,2,none⟩=some (.bool ff):=Mct;have c3:wc.cell? ⟨q,3,none⟩=some (.bool fc):=Mct;have c4:wc.cell? ⟨q,4,none⟩=some (.bool fy):=Mct;have c5:wc.cell? ⟨q,5,none⟩=some (.bool fa):=Mct;have c6:wc.cell? ⟨q,6,none⟩=some (.bool fpt):=Mct;have c7:wc.cell? ⟨q,7,none⟩=some (.bool fs):=Mct;have e2:q≠wc.heap.size:=Mcq;cases hn5:(!fc&&cl != 0)
            ·go_upto_region 14 with fail
             go_cut [57]from 4 (fun v wc=>v=.bool (!fy&&yr != 0)/\Qa w wc/\q<wc.heap.size/\wc.heap[w.heap.size]?=some (.cells #[.int .i64 (k:Int),.int .i64 dy,.string pl,.string fr,.slice B ps.length c,.int .i64 cl,.int .i64 yr] 28)/\wc.heap[q]?=some (.cells #[.string word,.bool fp,.bool ff,.bool fc,.bool fy,.bool fa,.bool fpt,.bool fs] 107))
             case first=>
              exact Mr
             case rest=>
              obtain⟨rfl,hB,hsz,g0,g1⟩:=hcut;have d0:wc.cell? ⟨w.heap.size,0,none⟩=some (.int .i64 (k:Int)):=Mcr;have d1:wc.cell? ⟨w.heap.size,1,none⟩=some (.int .i64 dy):=Mcr;have d2:wc.cell? ⟨w.heap.size,2,none⟩=some (.string pl):=Mcr;have d3:wc.cell? ⟨w.heap.size,3,none⟩=some (.string fr):=Mcr;have d4:wc.cell? ⟨w.heap.size,4,none⟩=some (.slice B ps.length c):=Mcr;have d5:wc.cell? ⟨w.heap.size,5,none⟩=some (.int .i64 cl):=Mcr;have d6:wc.cell? ⟨w.heap.size,6,none⟩=some (.int .i64 yr):=Mcr;have e0:w.heap.size<wc.heap.size:=Mcq;have e1:w.heap.size≠wc.heap.size:=Mcq;have c0:wc.cell? ⟨q,0,none⟩=some (.string word):=Mct;have c1:wc.cell? ⟨q,1,none⟩=some (.bool fp):=Mct;have c2:wc.cell? ⟨q,2,none⟩=some (.bool ff):=Mct;have c3:wc.cell? ⟨q,3,none⟩=some (.bool fc):=Mct;have c4:wc.cell? ⟨q,4,none⟩=some (.bool fy):=Mct;have c5:wc.cell? ⟨q,5,none⟩=some (.bool fa):=Mct;have c6:wc.cell? ⟨q,6,none⟩=some (.bool fpt):=Mct;have c7:wc.cell? ⟨q,7,none⟩=some (.bool fs):=Mct;have e2:q≠wc.heap.size:=Mcq;cases hn6:(!fy&&yr != 0)
              ·go_upto_region 16 with fail
               go_cut [88]from 4 (fun v wc=>v=.bool (yr==0&&((k:Int)==3||((k:Int)==0&&cl==2)))/\Qa w wc/\q<wc.heap.size/\wc.heap[w.heap.size]?=some (.cells #[.int .i64 (k:Int),.int .i64 dy,.string pl,.string fr,.slice B ps.length c,.int .i64 cl,.int .i64 yr] 28)/\wc.heap[q]?=some (.cells #[.string word,.bool fp,.bool ff,.bool fc,.bool fy,.bool fa,.bool fpt,.bool fs] 107))
               case first=>
                exact Mr
               case rest=>
                obtain⟨rfl,hB,hsz,g0,g1⟩:=hcut;have d0:wc.cell? ⟨w.heap.size,0,none⟩=some (.int .i64 (k:Int)):=Mcr;have d1:wc.cell? ⟨w.heap.size,1,none⟩=some (.int .i64 dy):=Mcr;have d2:wc.cell? ⟨w.heap.size,2,none⟩=some (.string pl):=Mcr;have d3:wc.cell? ⟨w.heap.size,3,none⟩=some (.string fr):=Mcr;have d4:wc.cell? ⟨w.heap.size,4,none⟩=some (.slice B ps.length c):=Mcr;have d5:wc.cell? ⟨w.heap.size,5,none⟩=some (.int .i64 cl):=Mcr;have d6:wc.cell? ⟨w.heap.size,6,none⟩=some (.int .i64 yr):=Mcr;have e0:w.heap.size<wc.heap.size:=Mcq;have e1:w.heap.size≠wc.heap.size:=Mcq;have c0:wc.cell? ⟨q,0,none⟩=some (.string word):=Mct;have c1:wc.cell? ⟨q,1,none⟩=some (.bool fp):=Mct;have c2:wc.cell? ⟨q,2,none⟩=some (.bool ff):=Mct;have c3:wc.cell? ⟨q,3,none⟩=some (.bool fc):=Mct;have c4:wc.cell? ⟨q,4,none⟩=some (.bool fy):=Mct;have c5:wc.cell? ⟨q,5,none⟩=some (.bool fa):=Mct;have c6:wc.cell? ⟨q,6,none⟩=some (.bool fpt):=Mct;have c7:wc.cell? ⟨q,7,none⟩=some (.bool fs):=Mct;have e2:q≠wc.heap.size:=Mcq;cases hn7:(yr==0&&((k:Int)==3||((k:Int)==0&&cl==2)))
                ·go_wp2_with (first
                               |(go_at_call 45;refine(zbq _ _ _ _).mono ?_;intro e wq hq;rcases Ret0.bools hq with⟨rfl,⟨hb,rfl⟩|⟨hb,rfl⟩⟩<;>clear hq)
                               |(go_at_call 30;refine(zbQ _ _).mono ?_;intro e wq hq;rcases Ret0.bools hq with⟨rfl,⟨hb,rfl⟩|⟨hb,rfl⟩⟩<;>clear hq)
                               |(go_at_call 46;refine(zdQ _ _ Mc3).mono ?_;intro e wq hq;rcases Ret0.bools hq with⟨rfl,⟨hb,rfl⟩|⟨hb,rfl⟩⟩<;>clear hq)
                               |(go_at_call 47;refine(zcf _ _ eg (fun q:RPart=>!zaE q.name) _ _ _ ps _ rfl HL.o (HS.o.keep (n:=w.heap.size) Bw) (zgt ps _ HN.o)).mono ?_;intro e wq hq;rcases Ret.bools hq with⟨zq,rfl,⟨hb,rfl⟩|⟨hb,rfl⟩⟩<;>clear hq)
                               |(go_at_call 49;refine(zbT ⟨word,fp,ff,fc,fy,fa,fpt,fs⟩ _ _ _ _ _ _ ps _ _ _ _ rfl Mcq HC.o (HS.o.keep (n:=w.heap.size) Bw)).mono ?_;intro e wq hq;rcases Ret.bools hq with⟨zq,rfl,⟨hb,rfl⟩|⟨hb,rfl⟩⟩<;>clear hq))
                 all_goals go_ret
                 all_goals exact Ret.of (zcd Mcz) Bw
                ·exact Mv
              ·exact Mv
            ·exact Mv
          ·exact Mv
       ·exact MN
 ·exact Mai

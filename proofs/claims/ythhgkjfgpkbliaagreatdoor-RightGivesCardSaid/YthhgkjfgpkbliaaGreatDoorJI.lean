import Derived.Test.YthhgkjfgpkbliaaGreatDoorJ6
import Derived.Test.YthhgkjfgpkbliaaGreatDoorO0
import Derived.Shelf.Spec.SlicesInsertGrow
set_option linter.all false
set_option maxRecDepth 100000
set_option maxHeartbeats 4000000
namespace Go.Proofs.YthhgkjfgpkbliaaGreatDoor
open Go.RowKit
attribute [local go_sem] World.cell?_alloc_mark zae zav zai zaw zam zan zao zap zaq zar zas
attribute [local go_sem] zah zac
def FormsIn(w:World):Prop:=0<w.heap.size/\∀k (f:Form),zeC[k]?=some f->∀j u,f.cells[j]?=some u->w.cell? ⟨0,k*8+j,none⟩=some u
theorem FormsIn.keep{w W:World}{n:Nat}(h:FormsIn w)(hB:Below n w W)(hn:w.heap.size<=n:=by first|exact Nat.le_refl _|omega):FormsIn W:=
 ⟨Nat.lt_of_lt_of_le h.1 hB.size,fun k f hf j u hu=>(hB.cell (p:=⟨0,_,none⟩) (Nat.lt_of_lt_of_le h.1 hn)).trans (h.2 k f hf j u hu)⟩
def zdi(d:Deed):Prop:=d.place.size<=100000/\d.frm.size<=100000/\(∀p∈d.to,p.name.size<=100000)/\d.to.length<=100000
def zcE(d:Deed):Int:=
 if !inR d.kind 0 8 then 15 else
 if !zbu d.day||!inR d.cls 0 4||!inR d.years 0 99 then 2 else
 if decide (8<d.to.length)then 8 else
 if !zbw d.place||!zbw d.frm||d.to.any (fun p=>!zaR p.name)then 4 else
 let f:=zeC.getD d.kind.toNat ⟨⟨#[]⟩,false,false,false,false,false,false,false⟩
 if(f.place != !noB d.place||f.frm != !noB d.frm)||(!f.cls&&d.cls != 0)||(!f.years&&d.years != 0)then 3 else
 if d.years==0&&(d.kind==3||(d.kind==0&&d.cls==2))then 3 else
 if !zfZ f d.frm d.to then 3 else 0
theorem cdc_any(q:RPart)(W:World)(hs:q.name.size<=100000):
 Calls Tryz.prog 94 #[.agg #[.string q.name,.int .i64 q.num,.int .i64 q.den]] W (Ret W (.bool (!zaR q.name))):=by
 go_enter Tryz.func94,Tryz.ntmps94
 exact M7
theorem zfi(xs:List RPart)(w:World)(hs:∀p∈xs,p.name.size<=100000):
 zea 94 #[] (fun x=> .agg (RPart.cells x).toArray) (fun q=>!zaR q.name) xs w:=fun x hx W hW=>by
 refine(cdc_any x W (hs x hx)).mono ?_;exact Mas
theorem zdw(d:Deed)(B:Option Addr)(c:Nat)(w:World)(hF:FormsIn w)(hO:zdi d)(aj:d.to.length<=c)(hS:Sl w 3 RPart.cells B d.to):
 Calls Tryz.prog 37 #[.agg #[.int .i64 d.kind,.int .i64 d.day,.string d.place,.string d.frm,.slice B d.to.length c,.int .i64 d.cls,.int .i64 d.years]] w (Ret w (.int .i64 (zcE d))):=by
 obtain⟨kd,dy,pl,fr,ps,cl,yr⟩:=d;obtain⟨o1,o2,o3,o4⟩:=hO;simp only at*;have eg:∀args w,(callFunc 94 args).run Tryz.prog w=.ok (.enter 94 args) w:=enters_of Tryz.func94 MbE rfl;obtain⟨HS,HC,HN,HL⟩:=yH4 hS aj o3 o4;clear hS aj o3 o4;generalize hR:zcE ⟨kd,dy,pl,fr,ps,cl,yr⟩=R;have HR:=zHi hR;clear hR;go_enter Tryz.func37,Tryz.ntmps37
 by_cases hk:inR kd 0 8=true
 ·obtain⟨k,rfl,yE⟩:∃k:Nat,kd=k/\k<9:=by
   simp[inR]at hk;exact⟨kd.toNat,by omega,by omega⟩
  have aa:k<zeC.length:=yE;have aL:=hF.2 k _ (List.getElem?_eq_getElem aa);have cy:0<w.heap.size:=hF.1;have hf:zeC.getD ((k:Int).toNat) ⟨⟨#[]⟩,false,false,false,false,false,false,false⟩=zeC[k]:=by
   rw[List.getD_eq_getElem?_getD,Int.toNat_natCast,List.getElem?_eq_getElem aa];rfl
  generalize zeC[k]=f at aL hf;obtain⟨word,fp,ff,fc,fy,fa,fpt,fs⟩:=f;have f0:w.cell? ⟨0,k*8,none⟩=some (.string word):=aL 0 _ rfl;have f1:w.cell? ⟨0,k*8+1,none⟩=some (.bool fp):=aL 1 _ rfl;have f2:w.cell? ⟨0,k*8+2,none⟩=some (.bool ff):=aL 2 _ rfl;have f3:w.cell? ⟨0,k*8+3,none⟩=some (.bool fc):=aL 3 _ rfl;have f4:w.cell? ⟨0,k*8+4,none⟩=some (.bool fy):=aL 4 _ rfl;have f5:w.cell? ⟨0,k*8+5,none⟩=some (.bool fa):=aL 5 _ rfl;have f6:w.cell? ⟨0,k*8+6,none⟩=some (.bool fpt):=aL 6 _ rfl;have f7:w.cell? ⟨0,k*8+7,none⟩=some (.bool fs):=aL 7 _ rfl;have lj:=zHi hf;clear aL hF hf;have k0:(0:Int)<=(k:Int):=MbC;have k9:(k:Int)<9:=MbC;go_upto_region 3 with(go_at_call 91;refine(zaS _ _ _ _).mono ?_;rintro e wq ⟨rfl,rfl⟩;rw[hk])
  go_upto_region 7 with(first
                         |(go_at_call 91;refine(zaS _ _ _ _).mono ?_;intro e wq hq;rcases Ret0.bools hq with⟨rfl,⟨hb,rfl⟩|⟨hb,rfl⟩⟩<;>clear hq)
                         |(go_at_call 47;refine(zcu _ _).mono ?_;intro e wq hq;rcases Ret0.bools hq with⟨rfl,⟨hb,rfl⟩|⟨hb,rfl⟩⟩<;>clear hq)
                         |(go_at_call 92;refine(zbC _ _ MbT).mono ?_;intro e wq hq;rcases Ret0.bools hq with⟨rfl,⟨hb,rfl⟩|⟨hb,rfl⟩⟩<;>clear hq)
                         |(go_at_call 93;refine(zcv _ _ eg (fun q:RPart=>!zaR q.name) _ _ _ ps _ rfl HL.o (HS.o.keep (n:=w.heap.size) Bw) (zfi ps _ HN.o)).mono ?_;intro e wq hq;rcases Ret.bools hq with⟨zq,rfl,⟨hb,rfl⟩|⟨hb,rfl⟩⟩<;>clear hq)
                         |(go_at_call 95;refine(zcT ⟨word,fp,ff,fc,fy,fa,fpt,fs⟩ _ _ _ _ _ _ ps _ _ _ _ rfl MbC HC.o (HS.o.keep (n:=w.heap.size) Bw)).mono ?_;intro e wq hq;rcases Ret.bools hq with⟨zq,rfl,⟨hb,rfl⟩|⟨hb,rfl⟩⟩<;>clear hq))
  all_goals(try(go_ret;exact Ret.of (zbU Mb0) Bw))
  go_cut [31]from 4 (fun v wc=>v=.bool (!zbw pl)/\Below w.heap.size w wc/\w.heap.size+1<=wc.heap.size/\wc.heap[w.heap.size]?=some (.cells #[.int .i64 (k:Int),.int .i64 dy,.string pl,.string fr,.slice B ps.length c,.int .i64 cl,.int .i64 yr] 28))
  case first=>
   go_wp2_with (first
                 |(go_at_call 91;refine(zaS _ _ _ _).mono ?_;intro e wq hq;rcases Ret0.bools hq with⟨rfl,⟨hb,rfl⟩|⟨hb,rfl⟩⟩<;>clear hq)
                 |(go_at_call 47;refine(zcu _ _).mono ?_;intro e wq hq;rcases Ret0.bools hq with⟨rfl,⟨hb,rfl⟩|⟨hb,rfl⟩⟩<;>clear hq)
                 |(go_at_call 92;refine(zbC _ _ MbT).mono ?_;intro e wq hq;rcases Ret0.bools hq with⟨rfl,⟨hb,rfl⟩|⟨hb,rfl⟩⟩<;>clear hq)
                 |(go_at_call 93;refine(zcv _ _ eg (fun q:RPart=>!zaR q.name) _ _ _ ps _ rfl HL.o (HS.o.keep (n:=w.heap.size) Bw) (zfi ps _ HN.o)).mono ?_;intro e wq hq;rcases Ret.bools hq with⟨zq,rfl,⟨hb,rfl⟩|⟨hb,rfl⟩⟩<;>clear hq)
                 |(go_at_call 95;refine(zcT ⟨word,fp,ff,fc,fy,fa,fpt,fs⟩ _ _ _ _ _ _ ps _ _ _ _ rfl MbC HC.o (HS.o.keep (n:=w.heap.size) Bw)).mono ?_;intro e wq hq;rcases Ret.bools hq with⟨zq,rfl,⟨hb,rfl⟩|⟨hb,rfl⟩⟩<;>clear hq))
   all_goals go_meet
   all_goals(refine⟨zaW (by first|exact hb.symm|simp[zbw,noB, *]),Bw,by first|omega|(simp[zae];done)|(simp[zae];omega),?_⟩;exact za3 _ _ _ rfl)
  case rest=>
   obtain⟨rfl,hB,hsz,g0⟩:=hcut;have d0:wc.cell? ⟨w.heap.size,0,none⟩=some (.int .i64 (k:Int)):=MbG;have d1:wc.cell? ⟨w.heap.size,1,none⟩=some (.int .i64 dy):=MbG;have d2:wc.cell? ⟨w.heap.size,2,none⟩=some (.string pl):=MbG;have d3:wc.cell? ⟨w.heap.size,3,none⟩=some (.string fr):=MbG;have d4:wc.cell? ⟨w.heap.size,4,none⟩=some (.slice B ps.length c):=MbG;have d5:wc.cell? ⟨w.heap.size,5,none⟩=some (.int .i64 cl):=MbG;have d6:wc.cell? ⟨w.heap.size,6,none⟩=some (.int .i64 yr):=MbG;have e0:w.heap.size<wc.heap.size:=MbC;have e1:w.heap.size≠wc.heap.size:=MbC;cases cY:zbw pl
   ·exact MU
   ·go_upto_region 8 with fail
    go_cut [31]from 4 (fun v wc=>v=.bool (!zbw fr)/\Below w.heap.size w wc/\w.heap.size+1<=wc.heap.size/\wc.heap[w.heap.size]?=some (.cells #[.int .i64 (k:Int),.int .i64 dy,.string pl,.string fr,.slice B ps.length c,.int .i64 cl,.int .i64 yr] 28))
    case first=>
     exact Mk
    case rest=>
     obtain⟨rfl,hB,hsz,g0⟩:=hcut;have d0:wc.cell? ⟨w.heap.size,0,none⟩=some (.int .i64 (k:Int)):=MbG;have d1:wc.cell? ⟨w.heap.size,1,none⟩=some (.int .i64 dy):=MbG;have d2:wc.cell? ⟨w.heap.size,2,none⟩=some (.string pl):=MbG;have d3:wc.cell? ⟨w.heap.size,3,none⟩=some (.string fr):=MbG;have d4:wc.cell? ⟨w.heap.size,4,none⟩=some (.slice B ps.length c):=MbG;have d5:wc.cell? ⟨w.heap.size,5,none⟩=some (.int .i64 cl):=MbG;have d6:wc.cell? ⟨w.heap.size,6,none⟩=some (.int .i64 yr):=MbG;have e0:w.heap.size<wc.heap.size:=MbC;have e1:w.heap.size≠wc.heap.size:=MbC;cases eA:zbw fr
     ·exact MU
     ·have h8:¬8<ps.length:=MbC;go_upto_region 9 with fail
      go_cut [31]from 4 (fun v wc=>v=.bool (ps.any (fun p=>!zaR p.name))/\Below w.heap.size w wc/\w.heap.size+1<=wc.heap.size/\wc.heap[w.heap.size]?=some (.cells #[.int .i64 (k:Int),.int .i64 dy,.string pl,.string fr,.slice B ps.length c,.int .i64 cl,.int .i64 yr] 28))
      case first=>
       exact Mk
      case rest=>
       obtain⟨rfl,hB,hsz,g0⟩:=hcut;have d0:wc.cell? ⟨w.heap.size,0,none⟩=some (.int .i64 (k:Int)):=MbG;have d1:wc.cell? ⟨w.heap.size,1,none⟩=some (.int .i64 dy):=MbG;have d2:wc.cell? ⟨w.heap.size,2,none⟩=some (.string pl):=MbG;have d3:wc.cell? ⟨w.heap.size,3,none⟩=some (.string fr):=MbG;have d4:wc.cell? ⟨w.heap.size,4,none⟩=some (.slice B ps.length c):=MbG;have d5:wc.cell? ⟨w.heap.size,5,none⟩=some (.int .i64 cl):=MbG;have d6:wc.cell? ⟨w.heap.size,6,none⟩=some (.int .i64 yr):=MbG;have e0:w.heap.size<wc.heap.size:=MbC;have e1:w.heap.size≠wc.heap.size:=MbC;cases CL:ps.any (fun p=>!zaR p.name)
       ·replace f0:=(hB.cell (p:=⟨0,k*8,none⟩) cy).trans f0;replace f1:=(hB.cell (p:=⟨0,k*8+1,none⟩) cy).trans f1;replace f2:=(hB.cell (p:=⟨0,k*8+2,none⟩) cy).trans f2;replace f3:=(hB.cell (p:=⟨0,k*8+3,none⟩) cy).trans f3;replace f4:=(hB.cell (p:=⟨0,k*8+4,none⟩) cy).trans f4;replace f5:=(hB.cell (p:=⟨0,k*8+5,none⟩) cy).trans f5;replace f6:=(hB.cell (p:=⟨0,k*8+6,none⟩) cy).trans f6;replace f7:=(hB.cell (p:=⟨0,k*8+7,none⟩) cy).trans f7;obtain⟨q,hq⟩:∃q,wc.heap.size=q:=⟨_,rfl⟩
        have HQ:=zHi hq;have e9:w.heap.size<q:=MbC;have e8:w.heap.size≠q:=MbC;clear hq;go_upto_region 11 with fail
        go_cut [0,3]from 4 (fun v0 v wc=>v=.pointer (some ⟨q,0,none⟩)/\Below w.heap.size w wc/\q<wc.heap.size/\wc.heap[w.heap.size]?=some (.cells #[.int .i64 (k:Int),.int .i64 dy,.string pl,.string fr,.slice B ps.length c,.int .i64 cl,.int .i64 yr] 28)/\wc.heap[q]?=some (.cells #[.string word,.bool fp,.bool ff,.bool fc,.bool fy,.bool fa,.bool fpt,.bool fs] 156))
        case first=>
         go_wp2_with fail
         all_goals go_meet
         all_goals(exact⟨by rw[HQ.o],Bw,by simp[HQ.o],by repeat(first|assumption|with_reducible refine zal ?_|with_reducible refine zbZ ?_|with_reducible refine J_ne MbC ?_),za3 _ _ _ HQ.o.symm⟩)
        case rest=>
         obtain⟨rfl,hB,hsz,g0,g1⟩:=hcut;have d0:wc.cell? ⟨w.heap.size,0,none⟩=some (.int .i64 (k:Int)):=MbG;have d1:wc.cell? ⟨w.heap.size,1,none⟩=some (.int .i64 dy):=MbG;have d2:wc.cell? ⟨w.heap.size,2,none⟩=some (.string pl):=MbG;have d3:wc.cell? ⟨w.heap.size,3,none⟩=some (.string fr):=MbG;have d4:wc.cell? ⟨w.heap.size,4,none⟩=some (.slice B ps.length c):=MbG;have d5:wc.cell? ⟨w.heap.size,5,none⟩=some (.int .i64 cl):=MbG;have d6:wc.cell? ⟨w.heap.size,6,none⟩=some (.int .i64 yr):=MbG;have e0:w.heap.size<wc.heap.size:=MbC;have e1:w.heap.size≠wc.heap.size:=MbC;have c0:wc.cell? ⟨q,0,none⟩=some (.string word):=MbI;have c1:wc.cell? ⟨q,1,none⟩=some (.bool fp):=MbI;have c2:wc.cell? ⟨q,2,none⟩=some (.bool ff):=MbI;have c3:wc.cell? ⟨q,3,none⟩=some (.bool fc):=MbI;have c4:wc.cell? ⟨q,4,none⟩=some (.bool fy):=MbI;have c5:wc.cell? ⟨q,5,none⟩=some (.bool fa):=MbI;have c6:wc.cell? ⟨q,6,none⟩=some (.bool fpt):=MbI;have c7:wc.cell? ⟨q,7,none⟩=some (.bool fs):=MbI;have e2:q≠wc.heap.size:=MbC;go_upto_region 12 with fail
         go_cut [57]from 4 (fun v wc=>v=.bool (fp != !noB pl||ff != !noB fr)/\Below w.heap.size w wc/\q<wc.heap.size/\wc.heap[w.heap.size]?=some (.cells #[.int .i64 (k:Int),.int .i64 dy,.string pl,.string fr,.slice B ps.length c,.int .i64 cl,.int .i64 yr] 28)/\wc.heap[q]?=some (.cells #[.string word,.bool fp,.bool ff,.bool fc,.bool fy,.bool fa,.bool fpt,.bool fs] 156))
         case first=>
          exact Mm
         case rest=>
          obtain⟨rfl,hB,hsz,g0,g1⟩:=hcut;have d0:wc.cell? ⟨w.heap.size,0,none⟩=some (.int .i64 (k:Int)):=MbG;have d1:wc.cell? ⟨w.heap.size,1,none⟩=some (.int .i64 dy):=MbG;have d2:wc.cell? ⟨w.heap.size,2,none⟩=some (.string pl):=MbG;have d3:wc.cell? ⟨w.heap.size,3,none⟩=some (.string fr):=MbG;have d4:wc.cell? ⟨w.heap.size,4,none⟩=some (.slice B ps.length c):=MbG;have d5:wc.cell? ⟨w.heap.size,5,none⟩=some (.int .i64 cl):=MbG;have d6:wc.cell? ⟨w.heap.size,6,none⟩=some (.int .i64 yr):=MbG;have e0:w.heap.size<wc.heap.size:=MbC;have e1:w.heap.size≠wc.heap.size:=MbC;have c0:wc.cell? ⟨q,0,none⟩=some (.string word):=MbI;have c1:wc.cell? ⟨q,1,none⟩=some (.bool fp):=MbI;have c2:wc.cell? ⟨q,2,none⟩=some (.bool ff):=MbI;have c3:wc.cell? ⟨q,3,none⟩=some (.bool fc):=MbI;have c4:wc.cell? ⟨q,4,none⟩=some (.bool fy):=MbI;have c5:wc.cell? ⟨q,5,none⟩=some (.bool fa):=MbI;have c6:wc.cell? ⟨q,6,none⟩=some (.bool fpt):=MbI;have c7:wc.cell? ⟨q,7,none⟩=some (.bool fs):=MbI;have e2:q≠wc.heap.size:=MbC;cases yN:(fp != !noB pl||ff != !noB fr)
          ·go_upto_region 13 with fail
           go_cut [57]from 4 (fun v wc=>v=.bool (!fc&&cl != 0)/\Below w.heap.size w wc/\q<wc.heap.size/\wc.heap[w.heap.size]?=some (.cells #[.int .i64 (k:Int),.int .i64 dy,.string pl,.string fr,.slice B ps.length c,.int .i64 cl,.int .i64 yr] 28)/\wc.heap[q]?=some (.cells #[.string word,.bool fp,.bool ff,.bool fc,.bool fy,.bool fa,.bool fpt,.bool fs] 156))
           case first=>
            exact Mm
           case rest=>
            obtain⟨rfl,hB,hsz,g0,g1⟩:=hcut;have d0:wc.cell? ⟨w.heap.size,0,none⟩=some (.int .i64 (k:Int)):=MbG;have d1:wc.cell? ⟨w.heap.size,1,none⟩=some (.int .i64 dy):=MbG;have d2:wc.cell? ⟨w.heap.size,2,none⟩=some (.string pl):=MbG;have d3:wc.cell? ⟨w.heap.size,3,none⟩=some (.string fr):=MbG;have d4:wc.cell? ⟨w.heap.size,4,none⟩=some (.slice B ps.length c):=MbG;have d5:wc.cell? ⟨w.heap.size,5,none⟩=some (.int .i64 cl):=MbG;have d6:wc.cell? ⟨w.heap.size,6,none⟩=some (.int .i64 yr):=MbG;have e0:w.heap.size<wc.heap.size:=MbC;have e1:w.heap.size≠wc.heap.size:=MbC;have c0:wc.cell? ⟨q,0,none⟩=some (.string word):=MbI;have c1:wc.cell? ⟨q,1,none⟩=some (.bool fp):=MbI;have c2:wc.cell? ⟨q,2,none⟩=some (.bool ff):=MbI;have c3:wc.cell? ⟨q,3,none⟩=some (.bool fc):=MbI;have c4:wc.cell? ⟨q,4,none⟩=some (.bool fy):=MbI;have c5:wc.cell? ⟨q,5,none⟩=some (.bool fa):=MbI;have c6:wc.cell? ⟨q,6,none⟩=some (.bool fpt):=MbI;have c7:wc.cell? ⟨q,7,none⟩=some (.bool fs):=MbI;have e2:q≠wc.heap.size:=MbC;cases hn5:(!fc&&cl != 0)
            ·go_upto_region 14 with fail
             go_cut [57]from 4 (fun v wc=>v=.bool (!fy&&yr != 0)/\Below w.heap.size w wc/\q<wc.heap.size/\wc.heap[w.heap.size]?=some (.cells #[.int .i64 (k:Int),.int .i64 dy,.string pl,.string fr,.slice B ps.length c,.int .i64 cl,.int .i64 yr] 28)/\wc.heap[q]?=some (.cells #[.string word,.bool fp,.bool ff,.bool fc,.bool fy,.bool fa,.bool fpt,.bool fs] 156))
             case first=>
              exact Mm
             case rest=>
              obtain⟨rfl,hB,hsz,g0,g1⟩:=hcut;have d0:wc.cell? ⟨w.heap.size,0,none⟩=some (.int .i64 (k:Int)):=MbG;have d1:wc.cell? ⟨w.heap.size,1,none⟩=some (.int .i64 dy):=MbG;have d2:wc.cell? ⟨w.heap.size,2,none⟩=some (.string pl):=MbG;have d3:wc.cell? ⟨w.heap.size,3,none⟩=some (.string fr):=MbG;have d4:wc.cell? ⟨w.heap.size,4,none⟩=some (.slice B ps.length c):=MbG;have d5:wc.cell? ⟨w.heap.size,5,none⟩=some (.int .i64 cl):=MbG;have d6:wc.cell? ⟨w.heap.size,6,none⟩=some (.int .i64 yr):=MbG;have e0:w.heap.size<wc.heap.size:=MbC;have e1:w.heap.size≠wc.heap.size:=MbC;have c0:wc.cell? ⟨q,0,none⟩=some (.string word):=MbI;have c1:wc.cell? ⟨q,1,none⟩=some (.bool fp):=MbI;have c2:wc.cell? ⟨q,2,none⟩=some (.bool ff):=MbI;have c3:wc.cell? ⟨q,3,none⟩=some (.bool fc):=MbI;have c4:wc.cell? ⟨q,4,none⟩=some (.bool fy):=MbI;have c5:wc.cell? ⟨q,5,none⟩=some (.bool fa):=MbI;have c6:wc.cell? ⟨q,6,none⟩=some (.bool fpt):=MbI;have c7:wc.cell? ⟨q,7,none⟩=some (.bool fs):=MbI;have e2:q≠wc.heap.size:=MbC;cases hn6:(!fy&&yr != 0)
              ·go_upto_region 16 with fail
               go_cut [88]from 4 (fun v wc=>v=.bool (yr==0&&((k:Int)==3||((k:Int)==0&&cl==2)))/\Below w.heap.size w wc/\q<wc.heap.size/\wc.heap[w.heap.size]?=some (.cells #[.int .i64 (k:Int),.int .i64 dy,.string pl,.string fr,.slice B ps.length c,.int .i64 cl,.int .i64 yr] 28)/\wc.heap[q]?=some (.cells #[.string word,.bool fp,.bool ff,.bool fc,.bool fy,.bool fa,.bool fpt,.bool fs] 156))
               case first=>
                exact Mm
               case rest=>
                obtain⟨rfl,hB,hsz,g0,g1⟩:=hcut;have d0:wc.cell? ⟨w.heap.size,0,none⟩=some (.int .i64 (k:Int)):=MbG;have d1:wc.cell? ⟨w.heap.size,1,none⟩=some (.int .i64 dy):=MbG;have d2:wc.cell? ⟨w.heap.size,2,none⟩=some (.string pl):=MbG;have d3:wc.cell? ⟨w.heap.size,3,none⟩=some (.string fr):=MbG;have d4:wc.cell? ⟨w.heap.size,4,none⟩=some (.slice B ps.length c):=MbG;have d5:wc.cell? ⟨w.heap.size,5,none⟩=some (.int .i64 cl):=MbG;have d6:wc.cell? ⟨w.heap.size,6,none⟩=some (.int .i64 yr):=MbG;have e0:w.heap.size<wc.heap.size:=MbC;have e1:w.heap.size≠wc.heap.size:=MbC;have c0:wc.cell? ⟨q,0,none⟩=some (.string word):=MbI;have c1:wc.cell? ⟨q,1,none⟩=some (.bool fp):=MbI;have c2:wc.cell? ⟨q,2,none⟩=some (.bool ff):=MbI;have c3:wc.cell? ⟨q,3,none⟩=some (.bool fc):=MbI;have c4:wc.cell? ⟨q,4,none⟩=some (.bool fy):=MbI;have c5:wc.cell? ⟨q,5,none⟩=some (.bool fa):=MbI;have c6:wc.cell? ⟨q,6,none⟩=some (.bool fpt):=MbI;have c7:wc.cell? ⟨q,7,none⟩=some (.bool fs):=MbI;have e2:q≠wc.heap.size:=MbC;cases hn7:(yr==0&&((k:Int)==3||((k:Int)==0&&cl==2)))
                ·go_wp2_with (first
                               |(go_at_call 91;refine(zaS _ _ _ _).mono ?_;intro e wq hq;rcases Ret0.bools hq with⟨rfl,⟨hb,rfl⟩|⟨hb,rfl⟩⟩<;>clear hq)
                               |(go_at_call 47;refine(zcu _ _).mono ?_;intro e wq hq;rcases Ret0.bools hq with⟨rfl,⟨hb,rfl⟩|⟨hb,rfl⟩⟩<;>clear hq)
                               |(go_at_call 92;refine(zbC _ _ MbT).mono ?_;intro e wq hq;rcases Ret0.bools hq with⟨rfl,⟨hb,rfl⟩|⟨hb,rfl⟩⟩<;>clear hq)
                               |(go_at_call 93;refine(zcv _ _ eg (fun q:RPart=>!zaR q.name) _ _ _ ps _ rfl HL.o (HS.o.keep (n:=w.heap.size) Bw) (zfi ps _ HN.o)).mono ?_;intro e wq hq;rcases Ret.bools hq with⟨zq,rfl,⟨hb,rfl⟩|⟨hb,rfl⟩⟩<;>clear hq)
                               |(go_at_call 95;refine(zcT ⟨word,fp,ff,fc,fy,fa,fpt,fs⟩ _ _ _ _ _ _ ps _ _ _ _ rfl MbC HC.o (HS.o.keep (n:=w.heap.size) Bw)).mono ?_;intro e wq hq;rcases Ret.bools hq with⟨zq,rfl,⟨hb,rfl⟩|⟨hb,rfl⟩⟩<;>clear hq))
                 all_goals go_ret
                 all_goals exact Ret.of (zbU MbN) Bw
                ·exact Mp
              ·exact Mp
            ·exact Mp
          ·exact Mp
       ·exact MU
 ·replace hk:inR kd 0 8=false:=by simpa using hk
  go_wp2_with (go_at_call 91;refine(zaS _ _ _ _).mono ?_;rintro e wq ⟨rfl,rfl⟩;rw[hk])
  all_goals go_ret
  all_goals exact Ret.of (zbU Mb0) Bw
open Go.Shelf
theorem zjr(a b:ByteArray)(w:World):Calls Tryz.prog 209 #[.string a,.string b] w (Ret0 w (.int .i64 (cmpN a b))):=by
 have aH:=Any.strings_Compare cmpStr a b w;change Calls Tryz.prog 209 _ _ _ at aH;exact MaI
theorem zk5(p:ByteArray×Rat)(s:ByteArray)(w:World):Calls Tryz.prog 230 #[.agg #[.string p.1,.int .i64 p.2.num,.int .i64 p.2.den],.string s] w (Ret w (.int .i64 (cmpN p.1 s))):=by
 have hc:=fun W=>zjr p.1 s W
 generalize cmpN p.1 s=r at hc⊢;go_enter Tryz.func230,Tryz.ntmps230
 go_wp2_with (go_at_call 209;refine(hc _).mono ?_;rintro e wq ⟨rfl,rfl⟩)
 go_ret
 exact Ret.of rfl Bw
def zl1(w:World)(xs:Parts)(nm:ByteArray)(e:Ending)(w':World):Prop:=
 ∃P Q,xs=P++Q/\(∀p∈P,zbm p.1 nm=true)/\(∀p∈Q,zbm p.1 nm=false)/\Ret w (.tuple #[.int .i64 P.length,.bool (zdh Q nm)]) e w'
theorem bsf_any(xs:Parts)(A:Option Addr)(n c:Nat)(nm:ByteArray)(w:World)(hn:n=xs.length)(hl:xs.length<=100000)(hA:AscP xs)(hS:Sl w 3 zaa A xs):
 Calls Tryz.prog 229 #[.slice A n c,.string nm,.func (.func 230) #[] #[]] w (zl1 w xs nm):=by
 subst hn;have eg:∀args w,(callFunc 230 args).run Tryz.prog w=.ok (.enter 230 args) w:=enters_of Tryz.func230 MbE rfl;obtain⟨HA,HC⟩:=yH2 hA (fun(p:ByteArray×Rat) W=>zk5 p nm W);go_enter Tryz.func229,Tryz.ntmps229
 go_wp2_with fail
 go_loopw [9,10] (fun i j wr=>∃lo hi:Nat,i=.int .i64 lo/\j=.int .i64 hi/\lo<=hi/\hi<=xs.length/\Hid (∀t (ht:t<xs.length),t<lo->zbm xs[t].1 nm=true)/\Hid (∀t (ht:t<xs.length),hi<=t->zbm xs[t].1 nm=false)/\∃z,wr=w.ext z) (fun i j _=>(intOf j).toNat-(intOf i).toNat)
 case atStart=>exact⟨0,xs.length,rfl,rfl,Nat.zero_le _,Nat.le_refl _,fun t ht h=>absurd h (Nat.not_lt_zero _),fun t ht h=>by omega,zaM (Below.refl _ _)⟩
 case round=>
  obtain⟨lo,hi,rfl,rfl,h1,h2,H3,H4,z,rfl⟩:=hrel;by_cases aa:lo<hi
  ·have hm:(lo+hi)/2<xs.length:=MbC;obtain⟨b,off,rfl,hb,hc⟩:=(hS.keep (za5 w z)).at hm;obtain⟨HX,HY⟩:=yH2 (fun t (ht:t<xs.length) (h:t<(lo+hi)/2)=>List.pairwise_iff_getElem.1 hA t _ ht hm h) (fun t (ht:t<xs.length) (h:(lo+hi)/2<t)=>List.pairwise_iff_getElem.1 hA _ t hm ht h);generalize hp:xs[(lo+hi)/2]=p at*;obtain⟨pn,pq⟩:=p;have hr:decide (cmpN pn nm<0)=zbm pn nm:=zly _ _;have aN:=HC.o (pn,pq);simp only at aN;generalize cmpN pn nm=r at hr aN;have c0:(w.ext z).cell? ⟨b,off+(lo+hi)/2*3,none⟩=some (.string pn):=hc 0 _ rfl;have c1:(w.ext z).cell? ⟨b,off+(lo+hi)/2*3+1,none⟩=some (.int .i64 pq.num):=hc 1 _ rfl;have c2:(w.ext z).cell? ⟨b,off+(lo+hi)/2*3+2,none⟩=some (.int .i64 pq.den):=hc 2 _ rfl;obtain⟨HP,HR⟩:=yH2 hp hr;clear hp hr hc hS hA;by_cases kP:r<0
   ·go_wp2_with (go_at_fn 230;refine(aN _).mono ?_;rintro e wq ⟨rfl,zq,rfl⟩)
    go_round
    case rel=>
     have bF:zbm pn nm=true:=by rw[<-HR.o];simpa using kP
     refine⟨(lo+hi)/2+1,hi,by go_num,rfl,by omega,h2,(show Hid _ from fun t ht h=>?_),H4,zaM Bw⟩;by_cases e:t=(lo+hi)/2
     ·subst e;rw[HP.o];exact bF
     ·have:=HX.o t ht MbC;exact zbx this bF
    case measure=>simp[intOf];omega
   ·go_wp2_with (go_at_fn 230;refine(aN _).mono ?_;rintro e wq ⟨rfl,zq,rfl⟩)
    go_round
    case rel=>
     have bF:zbm pn nm=false:=by rw[<-HR.o];simpa using kP
     refine⟨lo,(lo+hi)/2,rfl,by go_num,by omega,by omega,H3,(show Hid _ from fun t ht h=>?_),zaM Bw⟩;by_cases e:t=(lo+hi)/2
     ·subst e;rw[HP.o];exact bF
     ·have:=HY.o t ht MbC;exact less_up this bF
    case measure=>simp[intOf];omega
  ·have he:hi=lo:=MbC;subst he;have HP:Hid (∀p∈xs.take hi,zbm p.1 nm=true):=fun p hp=>by
    obtain⟨t,ht,rfl⟩:=List.getElem_of_mem hp;rw[List.getElem_take];have:t<hi:=by rw[List.length_take]at ht;omega
    exact H3.o t MbC this
   have HQ:Hid (∀p∈xs.drop hi,zbm p.1 nm=false):=fun p hp=>by
    obtain⟨t,ht,rfl⟩:=List.getElem_of_mem hp;rw[List.getElem_drop];exact H4.o (hi+t) (by rw[List.length_drop]at ht;omega) MbC
   have HL:Hid ((xs.take hi).length=hi):=by show _=_;rw[List.length_take];omega
   by_cases aT:hi<xs.length
   ·obtain⟨b,off,rfl,hb,hc⟩:=(hS.keep (za5 w z)).at aT;have hd:xs.drop hi=xs[hi]::xs.drop (hi+1):=List.drop_eq_getElem_cons aT;generalize hp:xs[hi]=p at*;obtain⟨pn,pq⟩:=p;have hr:(cmpN pn nm==0)=zag pn nm:=cmpN_zero _ _;have aN:=HC.o (pn,pq);simp only at aN;generalize cmpN pn nm=r at hr aN;have c0:(w.ext z).cell? ⟨b,off+hi*3,none⟩=some (.string pn):=hc 0 _ rfl;have c1:(w.ext z).cell? ⟨b,off+hi*3+1,none⟩=some (.int .i64 pq.num):=hc 1 _ rfl;have c2:(w.ext z).cell? ⟨b,off+hi*3+2,none⟩=some (.int .i64 pq.den):=hc 2 _ rfl;obtain⟨HR,HD⟩:=yH2 hr hd;clear hp hr hc hS hA hd;go_wp2_with (go_at_fn 230;refine(aN _).mono ?_;rintro e wq ⟨rfl,zq,rfl⟩)
    all_goals go_ret2
    all_goals exact⟨xs.take hi,xs.drop hi,(List.take_append_drop _ _).symm,HP.o,HQ.o,Ret.of (by rw[HL.o,HD.o];simp[zdh,<-HR.o, *]) Bw⟩
   ·go_wp2_with fail
    all_goals go_ret2
    all_goals exact⟨xs.take hi,xs.drop hi,(List.take_append_drop _ _).symm,HP.o,HQ.o,Ret.of (by rw[HL.o,List.drop_eq_nil_of_le MbC];simp[zdh]) Bw⟩
def zbe(W:World)(T:Nat)(pl:ByteArray)(cl fr en:Int)(v dv:Value):Prop:=W.heap[T]?=some (.cells #[.string pl,.int .i64 cl,.int .i64 fr,.int .i64 en,v,dv] 114)
theorem zl2(xs:Parts)(A:Option Addr)(c T:Nat)(nm:ByteArray)(w:World)(gq:w.cell? ⟨T,4,none⟩=some (.slice A xs.length c))(hl:xs.length<=100000)(hA:AscP xs)(hS:Sl w 3 zaa A xs):
 Calls Tryz.prog 200 #[.pointer (some ⟨T,0,none⟩),.string nm] w (zl1 w xs nm):=by
 have HB:=bsf_any xs A _ c nm w rfl hl hA hS;go_enter Tryz.func200,Tryz.ntmps200
 go_wp2_with (go_at_call 229;refine HB.mono ?_;rintro e wq ⟨P,Q,br,hP,hQ,rfl,z,rfl⟩)
 go_ret2
 exact⟨P,Q,br,hP,hQ,Ret.of rfl Bw⟩
theorem shareQ{P Q:Parts}{nm:ByteArray}(hP:∀p∈P,zbm p.1 nm=true)(hQ:∀p∈Q,zbm p.1 nm=false)(hA:AscP (P++Q)):zab (P++Q) nm=if zdh Q nm then(Q.headD (⟨#[]⟩,0)).2 else 0:=by
 rw[zeJ hP];cases hh:zdh Q nm
 ·exact zlz hQ (zgt hA) hh
 ·cases Q with
  |nil=>cases hh
  |cons q Q=>
   have hs:zag q.1 nm=true:=hh;rw[zaT,hs];rfl
theorem zd6(xs:Parts)(A:Option Addr)(c T:Nat)(nm:ByteArray)(w:World)(gq:w.cell? ⟨T,4,none⟩=some (.slice A xs.length c))(hT:T<w.heap.size)(hl:xs.length<=100000)(hA:AscP xs)(hS:Sl w 3 zaa A xs):
 Calls Tryz.prog 146 #[.pointer (some ⟨T,0,none⟩),.string nm] w (Ret w (za9 (zab xs nm))):=by
 have HF:=fun W h1 h2=>zl2 xs A c T nm W h1 hl hA h2
 obtain⟨HS,HA⟩:=yH2 hS hA;clear hS hA;have ag:T≠w.heap.size:=MbC;go_enter Tryz.func146,Tryz.ntmps146
 go_upto_region 2 with(go_at_call 200;refine(HF _ (by simp[go_sem,hT,gq]) (HS.o.keep (n:=w.heap.size) Bw)).mono ?_;rintro e wq ⟨P,Q,br,hP,hQ,rfl,z,rfl⟩;subst br)
 have hv:=shareQ hP hQ HA.o;have HV:=zHi hv;clear hv hP hQ;cases Q with
 |nil=>
  go_wp2_with fail
  refine bodyPost_ret (v:=za9 (zab (P++[]) nm)) ?_ rfl ?_
  ·rw[HV.o];refine zbA rfl _ _ w.heap.size _ _ rfl ?_ ?_<;>simp[go_sem,zdh]
  ·exact Ret.of rfl Bw
 |cons q Q=>
  obtain⟨qn,qr⟩:=q;have aa:P.length<(P++(qn,qr)::Q).length:=MbF;obtain⟨b,off,rfl,hb,hc⟩:=HS.o.at aa;rw[List.getElem_append_right (Nat.le_refl _)]at hc;simp only[Nat.sub_self,List.getElem_cons_zero]at hc;have k1:w.cell? ⟨b,off+P.length*3+1,none⟩=some (.int .i64 qr.num):=hc 1 _ rfl;have k2:w.cell? ⟨b,off+P.length*3+1+1,none⟩=some (.int .i64 qr.den):=hc 2 _ rfl;have aT:(P.length:Int)<((P++(qn,qr)::Q).length:Int):=MbC;have CC:(0:Int)<=(P.length:Int):=MbC;have HL:=zHi aa;clear hc aa;generalize hh:zdh ((qn,qr)::Q) nm=q at*;have AJ:=zHi (HV.o.trans (by rfl:_=if q then qr else 0));cases q
  ·exact M9
  ·exact M9
theorem zgX(g:Grave)(A:Option Addr)(c T:Nat)(day:Int)(w:World)(h3:w.cell? ⟨T,3,none⟩=some (.int .i64 g.fin))(h4:w.cell? ⟨T,4,none⟩=some (.slice A g.holders.length c)):
 Calls Tryz.prog 107 #[.pointer (some ⟨T,0,none⟩),.int .i64 day] w (Ret w (.bool (zaE g day))):=by
 obtain⟨pl,cl,fin,hs,di⟩:=g;simp only at*;go_enter Tryz.func107,Tryz.ntmps107
 go_wp2_with fail
 all_goals go_ret
 all_goals(refine Ret.of (zaW ?_) Bw;cases hs<;>simp_all[zaE]<;>omega)
theorem zfj{P:Program}(w:World)(dT sT ty elem:TypeId)(size b o dLen dCap:Nat)(a:Addr)(sLen sCap n:Nat)(cs:List Value)
 (hu:P.underlying dT=some (.slice elem))(hs:(P.info? elem).map (·.size)=some size)(hn:Nat.min sLen dLen=n)(hl:cs.length=n*size)
 (wh:∀j v,cs[j]?=some v->w.cell? (a.add j)=some v)(hc:∀j,j<cs.length->(w.cell? ⟨b,o+j,none⟩).isSome=true)(hf:∀j,j<cs.length->w.frozen? ⟨b,o+j,none⟩=false)(h1:∀v∈cs,v.oneCell'=true):
 (Builtin.copy_ #[dT,sT] ty #[.slice (some ⟨b,o,none⟩) dLen dCap,.slice (some a) sLen sCap]).run P w=.ok (goInt n) (w.setCells b o cs):=by
 have Cb:=run_firstCells_some (P:=P) w size n a sLen sCap cs hl wh;have am:=run_storeCells_cells (P:=P) b o cs 0 w Mcv (by simpa using hf) h1;cases hq:P.info? elem with
 |none=>simp[hq]at hs
 |some i=>
  have hi:i.size=size:=by simpa[hq]using hs
  simp[Builtin.copy_,run_underlying hu,Builtin.lenOf,sizeOf,typeInfo,hq,hi,hn,Cb,am]
theorem zby(g:Nat){e:TypeId}:∀(vs:List Value) (o:Nat) (w:World) (cur:Array Value),w.heap[g]?=some (.cells cur e (0,0))->o+vs.length<=cur.size->
 ∃cur',(w.setCells g o vs).heap[g]?=some (.cells cur' e (0,0))/\cur'.size=cur.size/\(∀j,j<o\/o+vs.length<=j->cur'[j]?=cur[j]?)/\∀j u,vs[j]?=some u->cur'[o+j]?=some u
 | [],o,w,cur,hg,_=>⟨cur,hg,rfl,fun _ _=>rfl,fun j u h=>by simp at h⟩
 |v::r,o,w,cur,hg,hl=>by
  obtain⟨cur',h1,h2,h3,h4⟩:=zby g r (o+1) (w.setCell ⟨g,o,none⟩ v) (cur.setIfInBounds o v) (heap_setCell_same w g o cur e v hg) (by simp at hl⊢;omega);refine⟨cur',h1,by simpa using h2,fun j hj=>?_,fun j u hu=>?_⟩
  ·rw[h3 j (by simp at hj;omega),Array.getElem?_setIfInBounds_ne (by simp at hj;omega)]
  ·cases j with
   |zero=>
    simp only[List.getElem?_cons_zero,Option.some.injEq]at hu;subst hu;rw[Nat.add_zero,h3 o MbC];exact Array.getElem?_setIfInBounds_self_of_lt (by simp at hl;omega)
   |succ j=>
    have:=h4 j u (by simpa using hu);rw[show o+(j+1)=o+1+j by omega];exact this
theorem za0(p:ByteArray×Rat):(zaa p).length=3:=rfl
theorem zdn(p:ByteArray×Rat):∀u∈zaa p,u.oneCell'=true:=by simp[zaa,Value.oneCell']
theorem zgY(l:Parts):∀u∈l.flatMap zaa,u.oneCell'=true:=fun u hu=>by
 obtain⟨x,_,hx⟩:=List.mem_flatMap.1 hu;exact zdn x u hx
theorem zd7(l:Parts):(l.flatMap zaa).length=l.length*3:=zeX zaa 3 za0 l
theorem zgZ:ElTy Tryz.prog 26 59 3 32:=zcZ (z:=.agg #[.string ⟨#[]⟩,.int .i64 0,.int .i64 0]) MbE MbE rfl MbD
theorem ins_get{xs:Parts}{p:ByteArray×Rat}{i:Nat}(hi:i<=xs.length){cur:Nat->Option Value}(h0:∀j u,j<i*3->(xs.flatMap zaa)[j]?=some u->cur j=some u)(h1:∀j u,(zaa p)[j]?=some u->cur (i*3+j)=some u)
 (h2:∀j u,((xs.drop i).flatMap zaa)[j]?=some u->cur ((i+1)*3+j)=some u):∀j u,((xs.take i++p::xs.drop i).flatMap zaa)[j]?=some u->cur j=some u:=fun j u hj=>by
 have hl:((xs.take i).flatMap zaa).length=i*3:=MbZ;rw[List.flatMap_append,List.flatMap_cons]at hj;by_cases hj1:j<i*3
 ·rw[List.getElem?_append_left MbC]at hj;refine h0 j u hj1 ?_;exact Mad
 ·rw[List.getElem?_append_right MbC,hl]at hj;by_cases yB:j-i*3<3
  ·rw[List.getElem?_append_left (by rw[za0];exact yB)]at hj;have:=h1 _ u hj;rwa [show i*3+(j-i*3)=j by omega]at this
  ·rw[List.getElem?_append_right McF,za0]at hj;have:=h2 _ u hj;rwa [show(i+1)*3+(j-i*3-3)=j by omega]at this
def zee(w:World)(base:Nat)(v:Value)(ys:Parts)(e:Ending)(w':World):Prop:=
 ∃v',e=.returned v'/\OwnS w' base 59 3 zaa v' ys/\w.grownBy w' (za1 v)/\∀g,za1 v'=some g->za1 v=some g\/w.heap.size<=g
theorem zk6{w:World}{vb:Nat}{p:ByteArray×Rat}{t:TypeId}{fr:Nat×Nat}(h:w.heap[vb]?=some (.cells #[.string p.1,.int .i64 p.2.num,.int .i64 p.2.den] t fr)):∀j v,(zaa p)[j]?=some v->w.cell? ⟨vb,j,none⟩=some v:=fun j v hj=>by
 match j,hj with
 |0,hj=>simp[zaa]at hj;simp[World.cell?,h,<-hj]
 |1,hj=>simp[zaa]at hj;simp[World.cell?,h,<-hj]
 |2,hj=>simp[zaa]at hj;simp[World.cell?,h,<-hj]
 |j+3,hj=>simp[zaa]at hj
theorem zmj(base:Nat)(xs:Parts)(p:ByteArray×Rat)(vb:Nat)(w:World)(hl:xs.length<=100000)(bL:w.heap[vb]?=some (.cells #[.string p.1,.int .i64 p.2.num,.int .i64 p.2.den] 59))(ak:base<=w.heap.size)(v:Value)(ae:OwnS w base 59 3 zaa v xs):
 Calls Tryz.prog 202 #[v,.int .i64 xs.length,.slice (some ⟨vb,0,none⟩) 1 1] w (zee w base v (xs++[p])):=by
 have hS:Sl w 3 zaa (some ⟨vb,0,none⟩) [p]:=fun _=>⟨vb,0,rfl,zad bL,fun k x hx j u hu=>by
  have hk:k=0:=by have:=(List.getElem?_eq_some_iff.1 hx).1;simp at this;omega
  subst hk;simp only[List.getElem?_cons_zero,Option.some.injEq]at hx;subst hx;have:=zk6 bL j u hu
  simpa using this⟩
 obtain⟨HO,HS⟩:=yH2 ae hS;obtain⟨A,c,rfl,_,hc⟩:=ae.sl za0;have bY:(xs.length:Int)<=(c:Int):=MbC;clear hS;have hA:A=none\/∃g o,A=some ⟨g,o,none⟩:=by
  rcases ae with⟨h,_⟩|⟨g,o,cap,cur,h,_⟩
  ·simp only[Value.slice.injEq]at h;exact .inl h.1
  ·simp only[Value.slice.injEq]at h;exact .inr ⟨g,o,h.1⟩
 clear ae;go_enter Tryz.func202,Tryz.ntmps202
 rcases hA with rfl|⟨g,o,rfl⟩
 ·exact M0
 ·exact M0
theorem zk7(base:Nat)(xs:Parts)(p:ByteArray×Rat)(vb:Nat)(w:World)(hl:xs.length<=100000)(bL:w.heap[vb]?=some (.cells #[.string p.1,.int .i64 p.2.num,.int .i64 p.2.den] 59))(ak:base<=w.heap.size)(g o c:Nat)(cur:Array Value)(ij:base<=g)(hg:w.heap[g]?=some (.cells cur 59 (0,0)))(rm:xs.length+1<=c)(gu:c<=maxLen)(aL:o+c*3<=cur.size)(hx:∀j u,(xs.flatMap zaa)[j]?=some u->cur[o+j]?=some u)
 (i:Nat)(hi:i<xs.length)(ag:vb≠g):
 Calls Tryz.prog 202 #[.slice (some ⟨g,o,none⟩) xs.length c,.int .i64 i,.slice (some ⟨vb,0,none⟩) 1 1] w (zee w base (.slice (some ⟨g,o,none⟩) xs.length c) (xs.take i++p::xs.drop i)):=by
 have mixed:Tryz.prog.follows .mixedOrders=true:=MbE;have BU:(c:Int)<=9223372036854775807:=by unfold maxLen at gu;omega
 have vX:(xs.length:Int)+1<=(c:Int):=MbC;have vY:¬((c:Int)<(xs.length:Int)+1):=MbC;have jd:IntKind.i64.wrap ((xs.length:Int)+1)=(xs.length:Int)+1:=MbU;have iK:¬((i:Int)=(xs.length:Int)):=MbC;have eZ:IntKind.i64.wrap ((i:Int)+1)=(i:Int)+1:=MbU;have cS:(0:Int)<=(i:Int)+1:=MbC;have ax:(0:Int)<=(i:Int):=MbC;have fI:((i:Int)+1).toNat=i+1:=MbC;have cw:¬(c=i+1):=MbC;have nK:¬(c=i):=MbC;have bW:(i:Int)<=(xs.length:Int)+1:=MbC;have bx:(i:Int)<=(xs.length:Int):=MbC;have CO:∀lb cb,(callFunc 231 #[.slice (some ⟨vb,0,none⟩) 1 1,.slice (some ⟨g,o+(i+1)*3,none⟩) lb cb]).run Tryz.prog w=.ok (.value (.bool false)) w:=fun lb cb=>by
  rw[run_callFunc_extern Tryz.func231 MbE MbE MbE (e:=Extern.SlicesOverlaps.overlaps #[26,26] #[4]) MbE,
   Lib.run_overlaps_apart w 26 4 59 Tryz.underlying26 3 Tryz.sizeOf59 ⟨vb,0,none⟩ ⟨g,o+(i+1)*3,none⟩ 1 1 lb cb ag 59 59 3 cur.size (by simp[World.shape?,bL]) (by simp[World.shape?,hg]) MbC (by simp[World.frozen?,bL]) (by simp[World.frozen?,bL])]
  rfl
 obtain⟨i0,z,kD,tB,bH,tC,oa⟩:=zgZ.hi;have hsz:(Tryz.prog.info? 59).map (·.size)=some 3:=by rw[kD];simp[bH]
 have aZ:((xs.drop i).flatMap zaa).length=(xs.length-i)*3:=McH;have ay:∀j,j<c*3->(w.cell? ⟨g,o+j,none⟩).isSome=true:=fun j hj=>by simp[World.cell?,hg];omega
 have qd:∀ty dc sc,(Builtin.copy_ #[26,26] ty #[.slice (some ⟨g,o+(i+1)*3,none⟩) (xs.length+1-(i+1)) dc,.slice (some ⟨g,o+i*3,none⟩) (xs.length+1-i) sc]).run Tryz.prog w.drew=.ok (goInt (xs.length-i:Nat)) (w.drew.setCells g (o+(i+1)*3) ((xs.drop i).flatMap zaa)):=fun ty dc sc=>
  zfj w.drew _ _ ty 59 3 g (o+(i+1)*3) _ dc ⟨g,o+i*3,none⟩ _ sc (xs.length-i) _ Tryz.underlying26 hsz Mcc aZ
   (fun j v hj=>by
     rw[Addr.add_lit];have e:(xs.flatMap zaa)[i*3+j]?=some v:=by
      have e2:xs.flatMap zaa=(xs.take i).flatMap zaa++(xs.drop i).flatMap zaa:=Mb4;have e3:((xs.take i).flatMap zaa).length=i*3:=MbZ;rw[e2,List.getElem?_append_right MbC,e3,Nat.add_sub_cancel_left];exact hj
     have:=hx _ _ e;show w.cell? _=_;simp only[World.cell?,hg,Nat.add_assoc]
     exact this)
   (fun j hj=>by rw[aZ]at hj;show(w.cell? _).isSome=_;rw[Nat.add_assoc];exact ay _ MbC) (fun j hj=>by show w.frozen? _=_;simp[World.frozen?,hg]) (zgY _)
 obtain⟨cur1,k1,k2,k3,k4⟩:=zby g ((xs.drop i).flatMap zaa) (o+(i+1)*3) w.drew cur hg (by rw[aZ];omega);have aR:=zbt g ((xs.drop i).flatMap zaa) (o+(i+1)*3) w.drew;obtain⟨W1,aV⟩:∃W1,W1=w.drew.setCells g (o+(i+1)*3) ((xs.drop i).flatMap zaa):=⟨_,rfl⟩
 rw[<-aV]at qd k1 aR;have rG:W1.heap[vb]?=some (.cells #[.string p.1,.int .i64 p.2.num,.int .i64 p.2.den] 59):=(aR.block vb (zad bL) (by simp[ag])).trans bL;have vl:∀(W:World),W.heap=W1.heap->∀ty dc,(Builtin.copy_ #[26,26] ty #[.slice (some ⟨g,o+i*3,none⟩) (xs.length+1-i) dc,.slice (some ⟨vb,0,none⟩) 1 1]).run Tryz.prog W=.ok (goInt (1:Nat)) (W.setCells g (o+i*3) (zaa p)):=fun W ic ty dc=>
  zfj W _ _ ty 59 3 g (o+i*3) _ dc ⟨vb,0,none⟩ 1 1 1 _ Tryz.underlying26 hsz Mcc (by rw[za0])
   (fun j v hj=>by rw[Addr.add_lit,Nat.zero_add];exact zk6 (by rw[ic];exact rG) j v hj)
   (fun j hj=>by rw[za0]at hj;simp[World.cell?,ic,k1,k2];omega) (fun j hj=>by simp[World.frozen?,ic,k1]) (zdn p)
 have HF:Hid (∀W:World,W.heap=W1.heap->W.os=W1.os->W.tape=W1.tape->W.output=W1.output->zee w base (.slice (some ⟨g,o,none⟩) xs.length c) (xs.take i++p::xs.drop i) (.returned (.slice (some ⟨g,o,none⟩) (xs.length+1) c)) (W.setCells g (o+i*3) (zaa p))):=by
  intro W h1 h2 h3 h4;have mY:w.grownBy W (some g):=⟨h2.trans aR.os,h3.trans aR.tape,h4.trans aR.output,by rw[h1];exact aR.size,fun k hk hn=>by rw[h1];exact aR.block k hk hn⟩
  obtain⟨cur2,l1,l2,l3,l4⟩:=zby g (zaa p) (o+i*3) W cur1 (by rw[h1];exact k1) (by rw[za0,k2];omega);have af:(xs.take i++p::xs.drop i).length=xs.length+1:=MbH;refine⟨_,rfl,.inr ⟨g,o,c,cur2,by rw[af],ij,l1,by rw[af];exact rm,gu,by rw[l2,k2];exact aL,?_⟩,zbb mY (zbt _ _ _ _),fun g' h=> .inl h⟩;refine ins_get (cur:=fun j=>cur2[o+j]?) MbC (fun j u hj hu=>?_) (fun j u hu=>?_) (fun j u hu=>?_)
  ·show cur2[o+j]?=_;rw[l3 _ (.inl MbC),k3 _ (.inl MbC)];exact hx j u hu
  ·have:=l4 j u hu;rw[show o+i*3+j=o+(i*3+j) by omega]at this;exact this
  ·show cur2[o+((i+1)*3+j)]?=_;rw[l3 _ (.inr McF)];have:=k4 j u hu;rw[show o+(i+1)*3+j=o+((i+1)*3+j) by omega]at this;exact this
 clear aV k1 k2 k3 k4 aR ay hx rG aZ hg bL;go_enter Tryz.func202,Tryz.ntmps202
 go_wp2_with (simp only[CO])
 go_region_law_o (go_loud(refine step_copy_runI rfl _ _ 26 26 rfl _ _ Mcw Mcw (qd _ _ _) ?_))
 go_wp2_with (at_builtin;refine wpList_copy_runI _ rfl _ _ 26 26 rfl _ _ rfl rfl (vl _ rfl _ _) ?_)
 go_ret
 exact HF.o _ rfl rfl rfl rfl
theorem zdx(z:Array Value)(k:Nat):(Builtin.zeroCells z k).size=k*z.size:=by
 simp[Builtin.zeroCells]
theorem zk8(base:Nat)(xs:Parts)(p:ByteArray×Rat)(vb:Nat)(w:World)(hl:xs.length<=100000)(bL:w.heap[vb]?=some (.cells #[.string p.1,.int .i64 p.2.num,.int .i64 p.2.den] 59))(ak:base<=w.heap.size)(g o:Nat)(cur:Array Value)(hg:w.heap[g]?=some (.cells cur 59 (0,0)))(hx:∀j u,(xs.flatMap zaa)[j]?=some u->cur[o+j]?=some u)
 (i:Nat)(hi:i<xs.length):
 Calls Tryz.prog 202 #[.slice (some ⟨g,o,none⟩) xs.length xs.length,.int .i64 i,.slice (some ⟨vb,0,none⟩) 1 1] w (zee w base (.slice (some ⟨g,o,none⟩) xs.length xs.length) (xs.take i++p::xs.drop i)):=by
 have mixed:Tryz.prog.follows .mixedOrders=true:=MbE;have jd:IntKind.i64.wrap ((xs.length:Int)+1)=(xs.length:Int)+1:=MbU;have dH:(xs.length:Int)<(xs.length:Int)+1:=MbC;obtain⟨c,hc⟩:∃c,xs.length=c:=⟨_,rfl⟩
 have cw:¬(c=i+1)\/c=i+1:=MbC;have iK:¬((i:Int)=(xs.length:Int)):=MbC;have eZ:IntKind.i64.wrap ((i:Int)+1)=(i:Int)+1:=MbU;have cS:(0:Int)<=(i:Int)+1:=MbC;have ax:(0:Int)<=(i:Int):=MbC;have fI:((i:Int)+1).toNat=i+1:=MbC;have bx:(i:Int)<=(xs.length:Int):=MbC;have aY:(i:Int)+1<=(xs.length:Int)+1:=MbC;have hkw:IntKind.i64.wrap ((xs.length:Int)+1-(i:Int))=(xs.length:Int)+1-(i:Int):=MbU;have dR:(xs.length:Int)+1-(i:Int)=((xs.length+1-i:Nat):Int):=MbC;have vG:i+(xs.length+1-i)=xs.length+1:=MbC;obtain⟨i0,z,kD,tB,bH,tC,oa⟩:=zgZ.hi;have hsz:(Tryz.prog.info? 59).map (·.size)=some 3:=by rw[kD];simp[bH]
 have cm:g<w.heap.size:=zad hg;have Dd:vb<w.heap.size:=zad bL;have bG:((xs.take i).flatMap zaa).length=i*3:=MbZ;have bB:xs.flatMap zaa=(xs.take i).flatMap zaa++(xs.drop i).flatMap zaa:=Mb4;have iC:(Builtin.firstCells i0.size i (.slice (some ⟨g,o,none⟩) i xs.length)).run Tryz.prog w.drew=.ok ((xs.take i).flatMap zaa).toArray w.drew:=by
  rw[bH]
  exact run_firstCells_some w.drew 3 i ⟨g,o,none⟩ i xs.length _ bG (fun j v hj=>by
   rw[Addr.add_lit];have:=hx j v (by rw[bB,List.getElem?_append_left (List.getElem?_eq_some_iff.1 hj).1];exact hj);show w.cell? _=_;simp only[World.cell?,hg]
   exact this)
 have tj:∀ty,(Builtin.append_ #[26,3] ty #[.slice (some ⟨g,o,none⟩) i xs.length,.int .i64 ((xs.length:Int)+1-(i:Int))]).run Tryz.prog w=
  .ok (.slice (some ⟨w.heap.size,0,none⟩) (xs.length+1) (grownCap w (xs.length+1) xs.length 59)) (w.drew.alloc (.cells (((xs.take i).flatMap zaa).toArray++Builtin.zeroCells z.cells (xs.length+1-i)++Builtin.zeroCells z.cells (grownCap w (xs.length+1) xs.length 59-(xs.length+1))) 59)):=fun ty=>by
  have h:=Lib.run_append_grow_zeros w 26 3 ty 59 i0 _ .i64 .i64 Tryz.underlying26 Tryz.underlying3 kD tB (some ⟨g,o,none⟩) i xs.length ((xs.take i).flatMap zaa) iC (xs.length+1-i) MbC MbC MbC MbC (by rw[tC];omega) (by rw[tC,vG];exact growslice_fits MbC MbC);rw[vG]at h;rw[dR];exact h
 obtain⟨G,hG⟩:∃G,G=grownCap w (xs.length+1) xs.length 59:=⟨_,rfl⟩
 obtain⟨ROW,jx⟩:∃ROW:Array Value,ROW=((xs.take i).flatMap zaa).toArray++Builtin.zeroCells z.cells (xs.length+1-i)++Builtin.zeroCells z.cells (G-(xs.length+1)):=⟨_,rfl⟩
 rw[<-hG,<-jx]at tj;have Bc:xs.length+1<=G:=by rw[hG];exact grownCap_ge w _ _ _
 have uE:G<=maxLen:=by
  rw[hG];exact grownCap_le_maxLen w (xs.length+1) xs.length 59 (by unfold maxLen;omega)
 have iU:ROW.size=G*3:=by
  rw[jx,Array.size_append,Array.size_append,zdx,zdx,oa];simp only[List.size_toArray,bG];omega
 have m9:∀j u,((xs.take i).flatMap zaa)[j]?=some u->ROW[j]?=some u:=fun j u hj=>by
  have dQ:=(List.getElem?_eq_some_iff.1 hj).1;rw[jx,Array.getElem?_append_left (by rw[Array.size_append,List.size_toArray];omega),Array.getElem?_append_left (by simpa using dQ)];simpa using hj
 obtain⟨W1,aV⟩:∃W1,W1=w.drew.alloc (.cells ROW 59):=⟨_,rfl⟩
 have sH:W1.heap[w.heap.size]?=some (.cells ROW 59):=by rw[aV];exact heap_alloc_new w.drew _
 have sI:∀k,k<w.heap.size->W1.heap[k]?=w.heap[k]?:=fun k hk=>by rw[aV];exact Below.heap_alloc w.drew _ k hk
 have qe:∀(W:World),W.heap=W1.heap->∀ty dc,(Builtin.copy_ #[26,26] ty #[.slice (some ⟨w.heap.size,i*3,none⟩) (xs.length+1-i) dc,.slice (some ⟨vb,0,none⟩) 1 1]).run Tryz.prog W=.ok (goInt (1:Nat)) (W.setCells w.heap.size (i*3) (zaa p)):=fun W ic ty dc=>
  zfj W _ _ ty 59 3 w.heap.size (i*3) _ dc ⟨vb,0,none⟩ 1 1 1 _ Tryz.underlying26 hsz Mcc (by rw[za0])
   (fun j v hj=>by rw[Addr.add_lit,Nat.zero_add];exact zk6 (by rw[ic,sI vb Dd];exact bL) j v hj)
   (fun j hj=>by rw[za0]at hj;simp[World.cell?,ic,sH];omega) (fun j hj=>by simp[World.frozen?,ic,sH]) (zdn p)
 obtain⟨cur1,k1,k2,k3,k4⟩:=zby w.heap.size (zaa p) (i*3) W1 ROW sH (by rw[za0,iU];omega);have aR:=zbt w.heap.size (zaa p) (i*3) W1;have aZ:((xs.drop i).flatMap zaa).length=(xs.length-i)*3:=McH;have yu:(W1.setCells w.heap.size (i*3) (zaa p)).heap[g]?=some (.cells cur 59):=by rw[aR.block g (by rw[aV];simp;omega) MbH,sI g cm];exact hg
 have vm:∀(W:World),W.heap=(W1.setCells w.heap.size (i*3) (zaa p)).heap->∀ty dc sc,(Builtin.copy_ #[26,26] ty #[.slice (some ⟨w.heap.size,(i+1)*3,none⟩) (xs.length-i) dc,.slice (some ⟨g,o+i*3,none⟩) (xs.length-i) sc]).run Tryz.prog W=.ok (goInt (xs.length-i:Nat)) (W.setCells w.heap.size ((i+1)*3) ((xs.drop i).flatMap zaa)):=fun W ic ty dc sc=>
  zfj W _ _ ty 59 3 w.heap.size ((i+1)*3) _ dc ⟨g,o+i*3,none⟩ _ sc (xs.length-i) _ Tryz.underlying26 hsz Mcc aZ
   (fun j v hj=>by
     rw[Addr.add_lit];have e:(xs.flatMap zaa)[i*3+j]?=some v:=by
      rw[bB,List.getElem?_append_right MbC,bG,Nat.add_sub_cancel_left];exact hj
     have:=hx _ _ e;simp only[World.cell?,ic,yu,Nat.add_assoc]
     exact this)
   (fun j hj=>by rw[aZ]at hj;simp[World.cell?,ic,k1,k2,iU];omega) (fun j hj=>by simp[World.frozen?,ic,k1]) (zgY _)
 have HF:Hid (∀W:World,W.heap=(W1.setCells w.heap.size (i*3) (zaa p)).heap->W.os=w.os->W.tape=w.tape->W.output=w.output->zee w base (.slice (some ⟨g,o,none⟩) xs.length xs.length) (xs.take i++p::xs.drop i) (.returned (.slice (some ⟨w.heap.size,0,none⟩) (xs.length+1) G)) (W.setCells w.heap.size ((i+1)*3) ((xs.drop i).flatMap zaa))):=by
  intro W h1 h2 h3 h4;have mY:w.grownBy W (some g):=⟨h2,h3,h4,by rw[h1];exact Nat.le_trans (by rw[aV];simp) aR.size,fun k hk hn=>by rw[h1,aR.block k (by rw[aV];simp;omega) MbH,sI k hk]⟩
  obtain⟨cur2,l1,l2,l3,l4⟩:=zby w.heap.size ((xs.drop i).flatMap zaa) ((i+1)*3) W cur1 (by rw[h1];exact k1) (by rw[aZ,k2,iU];omega);have af:(xs.take i++p::xs.drop i).length=xs.length+1:=MbH;have bp:=zbt w.heap.size ((xs.drop i).flatMap zaa) ((i+1)*3) W;refine⟨_,rfl,.inr ⟨w.heap.size,0,G,cur2,by rw[af],ak,l1,by rw[af];exact Bc,uE,by rw[l2,k2,iU];omega,?_⟩,?_,fun g' h=> .inr (by simp only[za1,Option.some.injEq]at h;omega)⟩
  ·refine ins_get (cur:=fun j=>cur2[0+j]?) MbC (fun j u hj hu=>?_) (fun j u hu=>?_) (fun j u hu=>?_)
   ·show cur2[0+j]?=_;rw[Nat.zero_add,l3 _ (.inl MbC),k3 _ (.inl MbC)];rw[bB,List.getElem?_append_left MbC]at hu;exact m9 j u hu
   ·show cur2[0+(i*3+j)]?=_;have vH:j<3:=by have:=(List.getElem?_eq_some_iff.1 hu).1;rwa [za0]at this
    rw[Nat.zero_add,l3 _ (.inl MbC)];exact k4 j u hu
   ·show cur2[0+((i+1)*3+j)]?=_;rw[Nat.zero_add];exact l4 j u hu
  ·exact⟨bp.os.trans h2,bp.tape.trans h3,bp.output.trans h4,Nat.le_trans mY.size bp.size,fun k hk hn=>(bp.block k (Nat.lt_of_lt_of_le hk mY.size) MbH).trans (mY.block k hk hn)⟩
 subst aV;have hGi:¬(G=i):=MbC;have Bb:¬(G=i+1):=MbC;have nM:¬(xs.length=i):=MbC;have hGc:(xs.length:Int)+1<=(G:Int):=MbC;have Ba:(i:Int)<=(xs.length:Int)+1:=MbC;clear dR vG iC jx hG iU m9 bB bG aZ yu aR k1 k2 k3 k4 sH sI hx hc cw;go_enter Tryz.func202,Tryz.ntmps202
 go_upto_region 10 with(at_builtin;refine Lib.wpList_append_run _ rfl _ _ _ _ rfl _ _ rfl rfl _ _ (tj _) ?_)
 have yh:∀ty dc,_:=fun ty dc=>qe ((w.alloc (.cells ROW 59)).drew) rfl ty dc
 clear qe;go_wp2_with fail
 go_region_law_o (go_loud(refine step_copy_runI rfl _ _ 26 26 rfl _ _ Mcw Mcw (vm (((w.alloc (.cells ROW 59)).drew.setCells w.heap.size (i*3) (zaa p)).drew) rfl _ _ _) ?_))
 go_wp2_with fail
 go_ret
 exact HF.o _ rfl rfl rfl rfl

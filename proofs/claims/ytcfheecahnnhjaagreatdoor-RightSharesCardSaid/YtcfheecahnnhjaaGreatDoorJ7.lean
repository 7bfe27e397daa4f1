import Derived.Test.YtcfheecahnnhjaaGreatDoorJ6
set_option linter.all false
set_option maxRecDepth 100000
set_option maxHeartbeats 4000000
namespace Go.Proofs.YtcfheecahnnhjaaGreatDoor
open Go.RowKit
attribute [local go_sem] World.cell?_alloc_mark zag za4 zar zaB zaw zax zay zaz za0 za1 za2
attribute [local go_sem] zas zad
def FormsIn(w:World):Prop:=0<w.heap.size/\∀k (f:Form),zfH[k]?=some f->∀j u,f.cells[j]?=some u->w.cell? ⟨0,k*8+j,none⟩=some u
theorem FormsIn.keep{w W:World}{n:Nat}(h:FormsIn w)(hB:Below n w W)(hn:w.heap.size<=n:=by first|exact Nat.le_refl _|omega):FormsIn W:=
 ⟨Nat.lt_of_lt_of_le h.1 hB.size,fun k f hf j u hu=>(hB.cell (p:=⟨0,_,none⟩) (Nat.lt_of_lt_of_le h.1 hn)).trans (h.2 k f hf j u hu)⟩
def zdB(d:Deed):Prop:=d.place.size<=100000/\d.frm.size<=100000/\(∀p∈d.to,p.name.size<=100000)/\d.to.length<=100000
def zdq(d:Deed):Int:=
 if !inR d.kind 0 8 then 15 else
 if !zbl d.day||!inR d.cls 0 4||!inR d.years 0 99 then 2 else
 if decide (8<d.to.length)then 8 else
 if !zb1 d.place||!zb1 d.frm||d.to.any (fun p=>!zaT p.name)then 4 else
 let f:=zfH.getD d.kind.toNat ⟨⟨#[]⟩,false,false,false,false,false,false,false⟩
 if(f.place != !noB d.place||f.frm != !noB d.frm)||(!f.cls&&d.cls != 0)||(!f.years&&d.years != 0)then 3 else
 if d.years==0&&(d.kind==3||(d.kind==0&&d.cls==2))then 3 else
 if !zhq f d.frm d.to then 3 else 0
theorem cdc_any(q:RPart)(W:World)(hs:q.name.size<=100000):
 Calls Tryz.prog 107 #[.agg #[.string q.name,.int .i64 q.num,.int .i64 q.den]] W (Ret W (.bool (!zaT q.name))):=by
 go_enter Tryz.func107,Tryz.ntmps107
 exact Maw
theorem zgi(xs:List RPart)(w:World)(hs:∀p∈xs,p.name.size<=100000):
 zfb 107 #[] (fun x=> .agg (RPart.cells x).toArray) (fun q=>!zaT q.name) xs w:=fun x hx W hW=>by
 refine(cdc_any x W (hs x hx)).mono ?_;exact Ma2
theorem zjp(d:Deed)(B:Option Addr)(c:Nat)(w:World)(hF:FormsIn w)(hO:zdB d)(ax:d.to.length<=c)(hS:Sl w 3 RPart.cells B d.to):
 Calls Tryz.prog 79 #[.agg #[.int .i64 d.kind,.int .i64 d.day,.string d.place,.string d.frm,.slice B d.to.length c,.int .i64 d.cls,.int .i64 d.years]] w (Ret w (.int .i64 (zdq d))):=by
 obtain⟨kd,dy,pl,fr,ps,cl,yr⟩:=d;obtain⟨o1,o2,o3,o4⟩:=hO;simp only at*;have eg:∀args w,(callFunc 107 args).run Tryz.prog w=.ok (.enter 107 args) w:=enters_of Tryz.func107 Mcv rfl;obtain⟨HS,HC,HN,HL⟩:=yH4 hS ax o3 o4;clear hS ax o3 o4;generalize hR:zdq ⟨kd,dy,pl,fr,ps,cl,yr⟩=R;have HR:=zHi hR;clear hR;go_enter Tryz.func79,Tryz.ntmps79
 by_cases hk:inR kd 0 8=true
 ·obtain⟨k,rfl,iy⟩:∃k:Nat,kd=k/\k<9:=by
   simp[inR]at hk;exact⟨kd.toNat,by omega,by omega⟩
  have ae:k<zfH.length:=iy;have bh:=hF.2 k _ (List.getElem?_eq_getElem ae);have eE:0<w.heap.size:=hF.1;have hf:zfH.getD ((k:Int).toNat) ⟨⟨#[]⟩,false,false,false,false,false,false,false⟩=zfH[k]:=by
   rw[List.getD_eq_getElem?_getD,Int.toNat_natCast,List.getElem?_eq_getElem ae];rfl
  generalize zfH[k]=f at bh hf;obtain⟨word,fp,ff,fc,fy,fa,fpt,fs⟩:=f;have f0:w.cell? ⟨0,k*8,none⟩=some (.string word):=bh 0 _ rfl;have f1:w.cell? ⟨0,k*8+1,none⟩=some (.bool fp):=bh 1 _ rfl;have f2:w.cell? ⟨0,k*8+2,none⟩=some (.bool ff):=bh 2 _ rfl;have f3:w.cell? ⟨0,k*8+3,none⟩=some (.bool fc):=bh 3 _ rfl;have f4:w.cell? ⟨0,k*8+4,none⟩=some (.bool fy):=bh 4 _ rfl;have f5:w.cell? ⟨0,k*8+5,none⟩=some (.bool fa):=bh 5 _ rfl;have f6:w.cell? ⟨0,k*8+6,none⟩=some (.bool fpt):=bh 6 _ rfl;have f7:w.cell? ⟨0,k*8+7,none⟩=some (.bool fs):=bh 7 _ rfl;have nr:=zHi hf;clear bh hF hf;have k0:(0:Int)<=(k:Int):=Mcu;have k9:(k:Int)<9:=Mcu;go_upto_region 3 with(go_at_call 76;refine(zbk _ _ _ _).mono ?_;rintro e wq ⟨rfl,rfl⟩;rw[hk])
  go_upto_region 7 with(first
                         |(go_at_call 76;refine(zbk _ _ _ _).mono ?_;intro e wq hq;rcases Ret0.bools hq with⟨rfl,⟨hb,rfl⟩|⟨hb,rfl⟩⟩<;>clear hq)
                         |(go_at_call 51;refine(zcU _ _).mono ?_;intro e wq hq;rcases Ret0.bools hq with⟨rfl,⟨hb,rfl⟩|⟨hb,rfl⟩⟩<;>clear hq)
                         |(go_at_call 50;refine(zcb _ _ Mc6).mono ?_;intro e wq hq;rcases Ret0.bools hq with⟨rfl,⟨hb,rfl⟩|⟨hb,rfl⟩⟩<;>clear hq)
                         |(go_at_call 62;refine(zcV _ _ eg (fun q:RPart=>!zaT q.name) _ _ _ ps _ rfl HL.o (HS.o.keep (n:=w.heap.size) Bw) (zgi ps _ HN.o)).mono ?_;intro e wq hq;rcases Ret.bools hq with⟨zq,rfl,⟨hb,rfl⟩|⟨hb,rfl⟩⟩<;>clear hq)
                         |(go_at_call 108;refine(zdC ⟨word,fp,ff,fc,fy,fa,fpt,fs⟩ _ _ _ _ _ _ ps _ _ _ _ rfl Mcu HC.o (HS.o.keep (n:=w.heap.size) Bw)).mono ?_;intro e wq hq;rcases Ret.bools hq with⟨zq,rfl,⟨hb,rfl⟩|⟨hb,rfl⟩⟩<;>clear hq))
  all_goals(try(go_ret;exact Ret.of (zbB Mdb) Bw))
  go_cut [31]from 4 (fun v wc=>v=.bool (!zb1 pl)/\Below w.heap.size w wc/\w.heap.size+1<=wc.heap.size/\wc.heap[w.heap.size]?=some (.cells #[.int .i64 (k:Int),.int .i64 dy,.string pl,.string fr,.slice B ps.length c,.int .i64 cl,.int .i64 yr] 69))
  case first=>
   go_wp2_with (first
                 |(go_at_call 76;refine(zbk _ _ _ _).mono ?_;intro e wq hq;rcases Ret0.bools hq with⟨rfl,⟨hb,rfl⟩|⟨hb,rfl⟩⟩<;>clear hq)
                 |(go_at_call 51;refine(zcU _ _).mono ?_;intro e wq hq;rcases Ret0.bools hq with⟨rfl,⟨hb,rfl⟩|⟨hb,rfl⟩⟩<;>clear hq)
                 |(go_at_call 50;refine(zcb _ _ Mc6).mono ?_;intro e wq hq;rcases Ret0.bools hq with⟨rfl,⟨hb,rfl⟩|⟨hb,rfl⟩⟩<;>clear hq)
                 |(go_at_call 62;refine(zcV _ _ eg (fun q:RPart=>!zaT q.name) _ _ _ ps _ rfl HL.o (HS.o.keep (n:=w.heap.size) Bw) (zgi ps _ HN.o)).mono ?_;intro e wq hq;rcases Ret.bools hq with⟨zq,rfl,⟨hb,rfl⟩|⟨hb,rfl⟩⟩<;>clear hq)
                 |(go_at_call 108;refine(zdC ⟨word,fp,ff,fc,fy,fa,fpt,fs⟩ _ _ _ _ _ _ ps _ _ _ _ rfl Mcu HC.o (HS.o.keep (n:=w.heap.size) Bw)).mono ?_;intro e wq hq;rcases Ret.bools hq with⟨zq,rfl,⟨hb,rfl⟩|⟨hb,rfl⟩⟩<;>clear hq))
   all_goals go_meet
   all_goals(refine⟨zaP (by first|exact hb.symm|simp[zb1,noB, *]),Bw,by first|omega|(simp[zag];done)|(simp[zag];omega),?_⟩;exact zaq _ _ _ rfl)
  case rest=>
   obtain⟨rfl,hB,hsz,g0⟩:=hcut;have d0:wc.cell? ⟨w.heap.size,0,none⟩=some (.int .i64 (k:Int)):=Mcy;have d1:wc.cell? ⟨w.heap.size,1,none⟩=some (.int .i64 dy):=Mcy;have d2:wc.cell? ⟨w.heap.size,2,none⟩=some (.string pl):=Mcy;have d3:wc.cell? ⟨w.heap.size,3,none⟩=some (.string fr):=Mcy;have d4:wc.cell? ⟨w.heap.size,4,none⟩=some (.slice B ps.length c):=Mcy;have d5:wc.cell? ⟨w.heap.size,5,none⟩=some (.int .i64 cl):=Mcy;have d6:wc.cell? ⟨w.heap.size,6,none⟩=some (.int .i64 yr):=Mcy;have e0:w.heap.size<wc.heap.size:=Mcu;have e1:w.heap.size≠wc.heap.size:=Mcu;cases cx:zb1 pl
   ·exact Maf
   ·go_upto_region 8 with fail
    go_cut [31]from 4 (fun v wc=>v=.bool (!zb1 fr)/\Below w.heap.size w wc/\w.heap.size+1<=wc.heap.size/\wc.heap[w.heap.size]?=some (.cells #[.int .i64 (k:Int),.int .i64 dy,.string pl,.string fr,.slice B ps.length c,.int .i64 cl,.int .i64 yr] 69))
    case first=>
     exact My
    case rest=>
     obtain⟨rfl,hB,hsz,g0⟩:=hcut;have d0:wc.cell? ⟨w.heap.size,0,none⟩=some (.int .i64 (k:Int)):=Mcy;have d1:wc.cell? ⟨w.heap.size,1,none⟩=some (.int .i64 dy):=Mcy;have d2:wc.cell? ⟨w.heap.size,2,none⟩=some (.string pl):=Mcy;have d3:wc.cell? ⟨w.heap.size,3,none⟩=some (.string fr):=Mcy;have d4:wc.cell? ⟨w.heap.size,4,none⟩=some (.slice B ps.length c):=Mcy;have d5:wc.cell? ⟨w.heap.size,5,none⟩=some (.int .i64 cl):=Mcy;have d6:wc.cell? ⟨w.heap.size,6,none⟩=some (.int .i64 yr):=Mcy;have e0:w.heap.size<wc.heap.size:=Mcu;have e1:w.heap.size≠wc.heap.size:=Mcu;cases dY:zb1 fr
     ·exact Maf
     ·have h8:¬8<ps.length:=Mcu;go_upto_region 9 with fail
      go_cut [31]from 4 (fun v wc=>v=.bool (ps.any (fun p=>!zaT p.name))/\Below w.heap.size w wc/\w.heap.size+1<=wc.heap.size/\wc.heap[w.heap.size]?=some (.cells #[.int .i64 (k:Int),.int .i64 dy,.string pl,.string fr,.slice B ps.length c,.int .i64 cl,.int .i64 yr] 69))
      case first=>
       exact My
      case rest=>
       obtain⟨rfl,hB,hsz,g0⟩:=hcut;have d0:wc.cell? ⟨w.heap.size,0,none⟩=some (.int .i64 (k:Int)):=Mcy;have d1:wc.cell? ⟨w.heap.size,1,none⟩=some (.int .i64 dy):=Mcy;have d2:wc.cell? ⟨w.heap.size,2,none⟩=some (.string pl):=Mcy;have d3:wc.cell? ⟨w.heap.size,3,none⟩=some (.string fr):=Mcy;have d4:wc.cell? ⟨w.heap.size,4,none⟩=some (.slice B ps.length c):=Mcy;have d5:wc.cell? ⟨w.heap.size,5,none⟩=some (.int .i64 cl):=Mcy;have d6:wc.cell? ⟨w.heap.size,6,none⟩=some (.int .i64 yr):=Mcy;have e0:w.heap.size<wc.heap.size:=Mcu;have e1:w.heap.size≠wc.heap.size:=Mcu;cases AH:ps.any (fun p=>!zaT p.name)
       ·replace f0:=(hB.cell (p:=⟨0,k*8,none⟩) eE).trans f0;replace f1:=(hB.cell (p:=⟨0,k*8+1,none⟩) eE).trans f1;replace f2:=(hB.cell (p:=⟨0,k*8+2,none⟩) eE).trans f2;replace f3:=(hB.cell (p:=⟨0,k*8+3,none⟩) eE).trans f3;replace f4:=(hB.cell (p:=⟨0,k*8+4,none⟩) eE).trans f4;replace f5:=(hB.cell (p:=⟨0,k*8+5,none⟩) eE).trans f5;replace f6:=(hB.cell (p:=⟨0,k*8+6,none⟩) eE).trans f6;replace f7:=(hB.cell (p:=⟨0,k*8+7,none⟩) eE).trans f7;obtain⟨q,hq⟩:∃q,wc.heap.size=q:=⟨_,rfl⟩
        have HQ:=zHi hq;have e9:w.heap.size<q:=Mcu;have e8:w.heap.size≠q:=Mcu;clear hq;go_upto_region 11 with fail
        go_cut [0,3]from 4 (fun v0 v wc=>v=.pointer (some ⟨q,0,none⟩)/\Below w.heap.size w wc/\q<wc.heap.size/\wc.heap[w.heap.size]?=some (.cells #[.int .i64 (k:Int),.int .i64 dy,.string pl,.string fr,.slice B ps.length c,.int .i64 cl,.int .i64 yr] 69)/\wc.heap[q]?=some (.cells #[.string word,.bool fp,.bool ff,.bool fc,.bool fy,.bool fa,.bool fpt,.bool fs] 169))
        case first=>
         go_wp2_with fail
         all_goals go_meet
         all_goals(exact⟨by rw[HQ.o],Bw,by simp[HQ.o],by repeat(first|assumption|with_reducible refine zal ?_|with_reducible refine zb5 ?_|with_reducible refine J_ne Mcu ?_),zaq _ _ _ HQ.o.symm⟩)
        case rest=>
         obtain⟨rfl,hB,hsz,g0,g1⟩:=hcut;have d0:wc.cell? ⟨w.heap.size,0,none⟩=some (.int .i64 (k:Int)):=Mcy;have d1:wc.cell? ⟨w.heap.size,1,none⟩=some (.int .i64 dy):=Mcy;have d2:wc.cell? ⟨w.heap.size,2,none⟩=some (.string pl):=Mcy;have d3:wc.cell? ⟨w.heap.size,3,none⟩=some (.string fr):=Mcy;have d4:wc.cell? ⟨w.heap.size,4,none⟩=some (.slice B ps.length c):=Mcy;have d5:wc.cell? ⟨w.heap.size,5,none⟩=some (.int .i64 cl):=Mcy;have d6:wc.cell? ⟨w.heap.size,6,none⟩=some (.int .i64 yr):=Mcy;have e0:w.heap.size<wc.heap.size:=Mcu;have e1:w.heap.size≠wc.heap.size:=Mcu;have c0:wc.cell? ⟨q,0,none⟩=some (.string word):=McA;have c1:wc.cell? ⟨q,1,none⟩=some (.bool fp):=McA;have c2:wc.cell? ⟨q,2,none⟩=some (.bool ff):=McA;have c3:wc.cell? ⟨q,3,none⟩=some (.bool fc):=McA;have c4:wc.cell? ⟨q,4,none⟩=some (.bool fy):=McA;have c5:wc.cell? ⟨q,5,none⟩=some (.bool fa):=McA;have c6:wc.cell? ⟨q,6,none⟩=some (.bool fpt):=McA;have c7:wc.cell? ⟨q,7,none⟩=some (.bool fs):=McA;have e2:q≠wc.heap.size:=Mcu;go_upto_region 12 with fail
         go_cut [57]from 4 (fun v wc=>v=.bool (fp != !noB pl||ff != !noB fr)/\Below w.heap.size w wc/\q<wc.heap.size/\wc.heap[w.heap.size]?=some (.cells #[.int .i64 (k:Int),.int .i64 dy,.string pl,.string fr,.slice B ps.length c,.int .i64 cl,.int .i64 yr] 69)/\wc.heap[q]?=some (.cells #[.string word,.bool fp,.bool ff,.bool fc,.bool fy,.bool fa,.bool fpt,.bool fs] 169))
         case first=>
          exact Mz
         case rest=>
          obtain⟨rfl,hB,hsz,g0,g1⟩:=hcut;have d0:wc.cell? ⟨w.heap.size,0,none⟩=some (.int .i64 (k:Int)):=Mcy;have d1:wc.cell? ⟨w.heap.size,1,none⟩=some (.int .i64 dy):=Mcy;have d2:wc.cell? ⟨w.heap.size,2,none⟩=some (.string pl):=Mcy;have d3:wc.cell? ⟨w.heap.size,3,none⟩=some (.string fr):=Mcy;have d4:wc.cell? ⟨w.heap.size,4,none⟩=some (.slice B ps.length c):=Mcy;have d5:wc.cell? ⟨w.heap.size,5,none⟩=some (.int .i64 cl):=Mcy;have d6:wc.cell? ⟨w.heap.size,6,none⟩=some (.int .i64 yr):=Mcy;have e0:w.heap.size<wc.heap.size:=Mcu;have e1:w.heap.size≠wc.heap.size:=Mcu;have c0:wc.cell? ⟨q,0,none⟩=some (.string word):=McA;have c1:wc.cell? ⟨q,1,none⟩=some (.bool fp):=McA;have c2:wc.cell? ⟨q,2,none⟩=some (.bool ff):=McA;have c3:wc.cell? ⟨q,3,none⟩=some (.bool fc):=McA;have c4:wc.cell? ⟨q,4,none⟩=some (.bool fy):=McA;have c5:wc.cell? ⟨q,5,none⟩=some (.bool fa):=McA;have c6:wc.cell? ⟨q,6,none⟩=some (.bool fpt):=McA;have c7:wc.cell? ⟨q,7,none⟩=some (.bool fs):=McA;have e2:q≠wc.heap.size:=Mcu;cases Gy:(fp != !noB pl||ff != !noB fr)
          ·go_upto_region 13 with fail
           go_cut [57]from 4 (fun v wc=>v=.bool (!fc&&cl != 0)/\Below w.heap.size w wc/\q<wc.heap.size/\wc.heap[w.heap.size]?=some (.cells #[.int .i64 (k:Int),.int .i64 dy,.string pl,.string fr,.slice B ps.length c,.int .i64 cl,.int .i64 yr] 69)/\wc.heap[q]?=some (.cells #[.string word,.bool fp,.bool ff,.bool fc,.bool fy,.bool fa,.bool fpt,.bool fs] 169))
           case first=>
            exact Mz
           case rest=>
            obtain⟨rfl,hB,hsz,g0,g1⟩:=hcut;have d0:wc.cell? ⟨w.heap.size,0,none⟩=some (.int .i64 (k:Int)):=Mcy;have d1:wc.cell? ⟨w.heap.size,1,none⟩=some (.int .i64 dy):=Mcy;have d2:wc.cell? ⟨w.heap.size,2,none⟩=some (.string pl):=Mcy;have d3:wc.cell? ⟨w.heap.size,3,none⟩=some (.string fr):=Mcy;have d4:wc.cell? ⟨w.heap.size,4,none⟩=some (.slice B ps.length c):=Mcy;have d5:wc.cell? ⟨w.heap.size,5,none⟩=some (.int .i64 cl):=Mcy;have d6:wc.cell? ⟨w.heap.size,6,none⟩=some (.int .i64 yr):=Mcy;have e0:w.heap.size<wc.heap.size:=Mcu;have e1:w.heap.size≠wc.heap.size:=Mcu;have c0:wc.cell? ⟨q,0,none⟩=some (.string word):=McA;have c1:wc.cell? ⟨q,1,none⟩=some (.bool fp):=McA;have c2:wc.cell? ⟨q,2,none⟩=some (.bool ff):=McA;have c3:wc.cell? ⟨q,3,none⟩=some (.bool fc):=McA;have c4:wc.cell? ⟨q,4,none⟩=some (.bool fy):=McA;have c5:wc.cell? ⟨q,5,none⟩=some (.bool fa):=McA;have c6:wc.cell? ⟨q,6,none⟩=some (.bool fpt):=McA;have c7:wc.cell? ⟨q,7,none⟩=some (.bool fs):=McA;have e2:q≠wc.heap.size:=Mcu;cases hn5:(!fc&&cl != 0)
            ·go_upto_region 14 with fail
             go_cut [57]from 4 (fun v wc=>v=.bool (!fy&&yr != 0)/\Below w.heap.size w wc/\q<wc.heap.size/\wc.heap[w.heap.size]?=some (.cells #[.int .i64 (k:Int),.int .i64 dy,.string pl,.string fr,.slice B ps.length c,.int .i64 cl,.int .i64 yr] 69)/\wc.heap[q]?=some (.cells #[.string word,.bool fp,.bool ff,.bool fc,.bool fy,.bool fa,.bool fpt,.bool fs] 169))
             case first=>
              exact Mz
             case rest=>
              obtain⟨rfl,hB,hsz,g0,g1⟩:=hcut;have d0:wc.cell? ⟨w.heap.size,0,none⟩=some (.int .i64 (k:Int)):=Mcy;have d1:wc.cell? ⟨w.heap.size,1,none⟩=some (.int .i64 dy):=Mcy;have d2:wc.cell? ⟨w.heap.size,2,none⟩=some (.string pl):=Mcy;have d3:wc.cell? ⟨w.heap.size,3,none⟩=some (.string fr):=Mcy;have d4:wc.cell? ⟨w.heap.size,4,none⟩=some (.slice B ps.length c):=Mcy;have d5:wc.cell? ⟨w.heap.size,5,none⟩=some (.int .i64 cl):=Mcy;have d6:wc.cell? ⟨w.heap.size,6,none⟩=some (.int .i64 yr):=Mcy;have e0:w.heap.size<wc.heap.size:=Mcu;have e1:w.heap.size≠wc.heap.size:=Mcu;have c0:wc.cell? ⟨q,0,none⟩=some (.string word):=McA;have c1:wc.cell? ⟨q,1,none⟩=some (.bool fp):=McA;have c2:wc.cell? ⟨q,2,none⟩=some (.bool ff):=McA;have c3:wc.cell? ⟨q,3,none⟩=some (.bool fc):=McA;have c4:wc.cell? ⟨q,4,none⟩=some (.bool fy):=McA;have c5:wc.cell? ⟨q,5,none⟩=some (.bool fa):=McA;have c6:wc.cell? ⟨q,6,none⟩=some (.bool fpt):=McA;have c7:wc.cell? ⟨q,7,none⟩=some (.bool fs):=McA;have e2:q≠wc.heap.size:=Mcu;cases hn6:(!fy&&yr != 0)
              ·go_upto_region 16 with fail
               go_cut [88]from 4 (fun v wc=>v=.bool (yr==0&&((k:Int)==3||((k:Int)==0&&cl==2)))/\Below w.heap.size w wc/\q<wc.heap.size/\wc.heap[w.heap.size]?=some (.cells #[.int .i64 (k:Int),.int .i64 dy,.string pl,.string fr,.slice B ps.length c,.int .i64 cl,.int .i64 yr] 69)/\wc.heap[q]?=some (.cells #[.string word,.bool fp,.bool ff,.bool fc,.bool fy,.bool fa,.bool fpt,.bool fs] 169))
               case first=>
                exact Mz
               case rest=>
                obtain⟨rfl,hB,hsz,g0,g1⟩:=hcut;have d0:wc.cell? ⟨w.heap.size,0,none⟩=some (.int .i64 (k:Int)):=Mcy;have d1:wc.cell? ⟨w.heap.size,1,none⟩=some (.int .i64 dy):=Mcy;have d2:wc.cell? ⟨w.heap.size,2,none⟩=some (.string pl):=Mcy;have d3:wc.cell? ⟨w.heap.size,3,none⟩=some (.string fr):=Mcy;have d4:wc.cell? ⟨w.heap.size,4,none⟩=some (.slice B ps.length c):=Mcy;have d5:wc.cell? ⟨w.heap.size,5,none⟩=some (.int .i64 cl):=Mcy;have d6:wc.cell? ⟨w.heap.size,6,none⟩=some (.int .i64 yr):=Mcy;have e0:w.heap.size<wc.heap.size:=Mcu;have e1:w.heap.size≠wc.heap.size:=Mcu;have c0:wc.cell? ⟨q,0,none⟩=some (.string word):=McA;have c1:wc.cell? ⟨q,1,none⟩=some (.bool fp):=McA;have c2:wc.cell? ⟨q,2,none⟩=some (.bool ff):=McA;have c3:wc.cell? ⟨q,3,none⟩=some (.bool fc):=McA;have c4:wc.cell? ⟨q,4,none⟩=some (.bool fy):=McA;have c5:wc.cell? ⟨q,5,none⟩=some (.bool fa):=McA;have c6:wc.cell? ⟨q,6,none⟩=some (.bool fpt):=McA;have c7:wc.cell? ⟨q,7,none⟩=some (.bool fs):=McA;have e2:q≠wc.heap.size:=Mcu;cases hn7:(yr==0&&((k:Int)==3||((k:Int)==0&&cl==2)))
                ·go_wp2_with (first
                               |(go_at_call 76;refine(zbk _ _ _ _).mono ?_;intro e wq hq;rcases Ret0.bools hq with⟨rfl,⟨hb,rfl⟩|⟨hb,rfl⟩⟩<;>clear hq)
                               |(go_at_call 51;refine(zcU _ _).mono ?_;intro e wq hq;rcases Ret0.bools hq with⟨rfl,⟨hb,rfl⟩|⟨hb,rfl⟩⟩<;>clear hq)
                               |(go_at_call 50;refine(zcb _ _ Mc6).mono ?_;intro e wq hq;rcases Ret0.bools hq with⟨rfl,⟨hb,rfl⟩|⟨hb,rfl⟩⟩<;>clear hq)
                               |(go_at_call 62;refine(zcV _ _ eg (fun q:RPart=>!zaT q.name) _ _ _ ps _ rfl HL.o (HS.o.keep (n:=w.heap.size) Bw) (zgi ps _ HN.o)).mono ?_;intro e wq hq;rcases Ret.bools hq with⟨zq,rfl,⟨hb,rfl⟩|⟨hb,rfl⟩⟩<;>clear hq)
                               |(go_at_call 108;refine(zdC ⟨word,fp,ff,fc,fy,fa,fpt,fs⟩ _ _ _ _ _ _ ps _ _ _ _ rfl Mcu HC.o (HS.o.keep (n:=w.heap.size) Bw)).mono ?_;intro e wq hq;rcases Ret.bools hq with⟨zq,rfl,⟨hb,rfl⟩|⟨hb,rfl⟩⟩<;>clear hq))
                 all_goals go_ret
                 all_goals exact Ret.of (zbB McN) Bw
                ·exact MF
              ·exact MF
            ·exact MF
          ·exact MF
       ·exact Maf
 ·replace hk:inR kd 0 8=false:=by simpa using hk
  go_wp2_with (go_at_call 76;refine(zbk _ _ _ _).mono ?_;rintro e wq ⟨rfl,rfl⟩;rw[hk])
  all_goals go_ret
  all_goals exact Ret.of (zbB Mdb) Bw

import Derived.Test.YtegdimedhfafjaaGreatDoorJ6
import Derived.Test.YtegdimedhfafjaaGreatDoorO3
import Derived.Shelf.Spec.SlicesInsertGrow
set_option linter.all false
set_option maxRecDepth 100000
set_option maxHeartbeats 4000000
namespace Go.Proofs.YtegdimedhfafjaaGreatDoor
open Go.RowKit
attribute [local go_sem] World.cell?_alloc_mark zaf za5 zao za8 zav zaw zax zay zaz za0 za1
attribute [local go_sem] zaq zad
def FormsIn(w:World):Prop:=0<w.heap.size/\∀k (f:Form),zfM[k]?=some f->∀j u,f.cells[j]?=some u->w.cell? ⟨0,k*8+j,none⟩=some u
theorem FormsIn.keep{w W:World}{n:Nat}(h:FormsIn w)(hB:Below n w W)(hn:w.heap.size<=n:=by first|exact Nat.le_refl _|omega):FormsIn W:=
 ⟨Nat.lt_of_lt_of_le h.1 hB.size,fun k f hf j u hu=>(hB.cell (p:=⟨0,_,none⟩) (Nat.lt_of_lt_of_le h.1 hn)).trans (h.2 k f hf j u hu)⟩
def zdt(d:Deed):Prop:=d.place.size<=100000/\d.frm.size<=100000/\(∀p∈d.to,p.name.size<=100000)/\d.to.length<=100000
def zdi(d:Deed):Int:=
 if !inR d.kind 0 8 then 15 else
 if !zb0 d.day||!inR d.cls 0 4||!inR d.years 0 99 then 2 else
 if decide (8<d.to.length)then 8 else
 if !zb1 d.place||!zb1 d.frm||d.to.any (fun p=>!zaS p.name)then 4 else
 let f:=zfM.getD d.kind.toNat ⟨⟨#[]⟩,false,false,false,false,false,false,false⟩
 if(f.place != !noB d.place||f.frm != !noB d.frm)||(!f.cls&&d.cls != 0)||(!f.years&&d.years != 0)then 3 else
 if d.years==0&&(d.kind==3||(d.kind==0&&d.cls==2))then 3 else
 if !zhq f d.frm d.to then 3 else 0
theorem cdc_any(q:RPart)(W:World)(hs:q.name.size<=100000):
 Calls Tryz.prog 49 #[.agg #[.string q.name,.int .i64 q.num,.int .i64 q.den]] W (Ret W (.bool (!zaS q.name))):=by
 go_enter Tryz.func49,Tryz.ntmps49
 exact May
theorem zgs(xs:List RPart)(w:World)(hs:∀p∈xs,p.name.size<=100000):
 zeY 49 #[] (fun x=> .agg (RPart.cells x).toArray) (fun q=>!zaS q.name) xs w:=fun x hx W hW=>by
 refine(cdc_any x W (hs x hx)).mono ?_;exact MaZ
theorem zeg(d:Deed)(B:Option Addr)(c:Nat)(w:World)(hF:FormsIn w)(hO:zdt d)(ar:d.to.length<=c)(hS:Sl w 3 RPart.cells B d.to):
 Calls Tryz.prog 21 #[.agg #[.int .i64 d.kind,.int .i64 d.day,.string d.place,.string d.frm,.slice B d.to.length c,.int .i64 d.cls,.int .i64 d.years]] w (Ret w (.int .i64 (zdi d))):=by
 obtain⟨kd,dy,pl,fr,ps,cl,yr⟩:=d;obtain⟨o1,o2,o3,o4⟩:=hO;simp only at*;have eg:∀args w,(callFunc 49 args).run Tryz.prog w=.ok (.enter 49 args) w:=enters_of Tryz.func49 Mcn rfl;obtain⟨HS,HC,HN,HL⟩:=yH4 hS ar o3 o4;clear hS ar o3 o4;generalize hR:zdi ⟨kd,dy,pl,fr,ps,cl,yr⟩=R;have HR:=zHi hR;clear hR;go_enter Tryz.func21,Tryz.ntmps21
 by_cases hk:inR kd 0 8=true
 ·obtain⟨k,rfl,i8⟩:∃k:Nat,kd=k/\k<9:=by
   simp[inR]at hk;exact⟨kd.toNat,by omega,by omega⟩
  have aa:k<zfM.length:=i8;have bj:=hF.2 k _ (List.getElem?_eq_getElem aa);have eD:0<w.heap.size:=hF.1;have hf:zfM.getD ((k:Int).toNat) ⟨⟨#[]⟩,false,false,false,false,false,false,false⟩=zfM[k]:=by
   rw[List.getD_eq_getElem?_getD,Int.toNat_natCast,List.getElem?_eq_getElem aa];rfl
  generalize zfM[k]=f at bj hf;obtain⟨word,fp,ff,fc,fy,fa,fpt,fs⟩:=f;have f0:w.cell? ⟨0,k*8,none⟩=some (.string word):=bj 0 _ rfl;have f1:w.cell? ⟨0,k*8+1,none⟩=some (.bool fp):=bj 1 _ rfl;have f2:w.cell? ⟨0,k*8+2,none⟩=some (.bool ff):=bj 2 _ rfl;have f3:w.cell? ⟨0,k*8+3,none⟩=some (.bool fc):=bj 3 _ rfl;have f4:w.cell? ⟨0,k*8+4,none⟩=some (.bool fy):=bj 4 _ rfl;have f5:w.cell? ⟨0,k*8+5,none⟩=some (.bool fa):=bj 5 _ rfl;have f6:w.cell? ⟨0,k*8+6,none⟩=some (.bool fpt):=bj 6 _ rfl;have f7:w.cell? ⟨0,k*8+7,none⟩=some (.bool fs):=bj 7 _ rfl;have ng:=zHi hf;clear bj hF hf;have k0:(0:Int)<=(k:Int):=Mcm;have k9:(k:Int)<9:=Mcm;go_upto_region 3 with(go_at_call 45;refine(zbi _ _ _ _).mono ?_;rintro e wq ⟨rfl,rfl⟩;rw[hk])
  go_upto_region 7 with(first
                         |(go_at_call 45;refine(zbi _ _ _ _).mono ?_;intro e wq hq;rcases Ret0.bools hq with⟨rfl,⟨hb,rfl⟩|⟨hb,rfl⟩⟩<;>clear hq)
                         |(go_at_call 46;refine(zcI _ _).mono ?_;intro e wq hq;rcases Ret0.bools hq with⟨rfl,⟨hb,rfl⟩|⟨hb,rfl⟩⟩<;>clear hq)
                         |(go_at_call 47;refine(zca _ _ Mc2).mono ?_;intro e wq hq;rcases Ret0.bools hq with⟨rfl,⟨hb,rfl⟩|⟨hb,rfl⟩⟩<;>clear hq)
                         |(go_at_call 48;refine(zcJ _ _ eg (fun q:RPart=>!zaS q.name) _ _ _ ps _ rfl HL.o (HS.o.keep (n:=w.heap.size) Bw) (zgs ps _ HN.o)).mono ?_;intro e wq hq;rcases Ret.bools hq with⟨zq,rfl,⟨hb,rfl⟩|⟨hb,rfl⟩⟩<;>clear hq)
                         |(go_at_call 50;refine(zd5 ⟨word,fp,ff,fc,fy,fa,fpt,fs⟩ _ _ _ _ _ _ ps _ _ _ _ rfl Mcm HC.o (HS.o.keep (n:=w.heap.size) Bw)).mono ?_;intro e wq hq;rcases Ret.bools hq with⟨zq,rfl,⟨hb,rfl⟩|⟨hb,rfl⟩⟩<;>clear hq))
  all_goals(try(go_ret;exact Ret.of (zbC Mc5) Bw))
  go_cut [31]from 4 (fun v wc=>v=.bool (!zb1 pl)/\Below w.heap.size w wc/\w.heap.size+1<=wc.heap.size/\wc.heap[w.heap.size]?=some (.cells #[.int .i64 (k:Int),.int .i64 dy,.string pl,.string fr,.slice B ps.length c,.int .i64 cl,.int .i64 yr] 28))
  case first=>
   go_wp2_with (first
                 |(go_at_call 45;refine(zbi _ _ _ _).mono ?_;intro e wq hq;rcases Ret0.bools hq with⟨rfl,⟨hb,rfl⟩|⟨hb,rfl⟩⟩<;>clear hq)
                 |(go_at_call 46;refine(zcI _ _).mono ?_;intro e wq hq;rcases Ret0.bools hq with⟨rfl,⟨hb,rfl⟩|⟨hb,rfl⟩⟩<;>clear hq)
                 |(go_at_call 47;refine(zca _ _ Mc2).mono ?_;intro e wq hq;rcases Ret0.bools hq with⟨rfl,⟨hb,rfl⟩|⟨hb,rfl⟩⟩<;>clear hq)
                 |(go_at_call 48;refine(zcJ _ _ eg (fun q:RPart=>!zaS q.name) _ _ _ ps _ rfl HL.o (HS.o.keep (n:=w.heap.size) Bw) (zgs ps _ HN.o)).mono ?_;intro e wq hq;rcases Ret.bools hq with⟨zq,rfl,⟨hb,rfl⟩|⟨hb,rfl⟩⟩<;>clear hq)
                 |(go_at_call 50;refine(zd5 ⟨word,fp,ff,fc,fy,fa,fpt,fs⟩ _ _ _ _ _ _ ps _ _ _ _ rfl Mcm HC.o (HS.o.keep (n:=w.heap.size) Bw)).mono ?_;intro e wq hq;rcases Ret.bools hq with⟨zq,rfl,⟨hb,rfl⟩|⟨hb,rfl⟩⟩<;>clear hq))
   all_goals go_meet
   all_goals(refine⟨zaO (by first|exact hb.symm|simp[zb1,noB, *]),Bw,by first|omega|(simp[zaf];done)|(simp[zaf];omega),?_⟩;exact zas _ _ _ rfl)
  case rest=>
   obtain⟨rfl,hB,hsz,g0⟩:=hcut;have d0:wc.cell? ⟨w.heap.size,0,none⟩=some (.int .i64 (k:Int)):=Mcq;have d1:wc.cell? ⟨w.heap.size,1,none⟩=some (.int .i64 dy):=Mcq;have d2:wc.cell? ⟨w.heap.size,2,none⟩=some (.string pl):=Mcq;have d3:wc.cell? ⟨w.heap.size,3,none⟩=some (.string fr):=Mcq;have d4:wc.cell? ⟨w.heap.size,4,none⟩=some (.slice B ps.length c):=Mcq;have d5:wc.cell? ⟨w.heap.size,5,none⟩=some (.int .i64 cl):=Mcq;have d6:wc.cell? ⟨w.heap.size,6,none⟩=some (.int .i64 yr):=Mcq;have e0:w.heap.size<wc.heap.size:=Mcm;have e1:w.heap.size≠wc.heap.size:=Mcm;cases cA:zb1 pl
   ·exact Mag
   ·go_upto_region 8 with fail
    go_cut [31]from 4 (fun v wc=>v=.bool (!zb1 fr)/\Below w.heap.size w wc/\w.heap.size+1<=wc.heap.size/\wc.heap[w.heap.size]?=some (.cells #[.int .i64 (k:Int),.int .i64 dy,.string pl,.string fr,.slice B ps.length c,.int .i64 cl,.int .i64 yr] 28))
    case first=>
     exact MC
    case rest=>
     obtain⟨rfl,hB,hsz,g0⟩:=hcut;have d0:wc.cell? ⟨w.heap.size,0,none⟩=some (.int .i64 (k:Int)):=Mcq;have d1:wc.cell? ⟨w.heap.size,1,none⟩=some (.int .i64 dy):=Mcq;have d2:wc.cell? ⟨w.heap.size,2,none⟩=some (.string pl):=Mcq;have d3:wc.cell? ⟨w.heap.size,3,none⟩=some (.string fr):=Mcq;have d4:wc.cell? ⟨w.heap.size,4,none⟩=some (.slice B ps.length c):=Mcq;have d5:wc.cell? ⟨w.heap.size,5,none⟩=some (.int .i64 cl):=Mcq;have d6:wc.cell? ⟨w.heap.size,6,none⟩=some (.int .i64 yr):=Mcq;have e0:w.heap.size<wc.heap.size:=Mcm;have e1:w.heap.size≠wc.heap.size:=Mcm;cases dW:zb1 fr
     ·exact Mag
     ·have h8:¬8<ps.length:=Mcm;go_upto_region 9 with fail
      go_cut [31]from 4 (fun v wc=>v=.bool (ps.any (fun p=>!zaS p.name))/\Below w.heap.size w wc/\w.heap.size+1<=wc.heap.size/\wc.heap[w.heap.size]?=some (.cells #[.int .i64 (k:Int),.int .i64 dy,.string pl,.string fr,.slice B ps.length c,.int .i64 cl,.int .i64 yr] 28))
      case first=>
       exact MC
      case rest=>
       obtain⟨rfl,hB,hsz,g0⟩:=hcut;have d0:wc.cell? ⟨w.heap.size,0,none⟩=some (.int .i64 (k:Int)):=Mcq;have d1:wc.cell? ⟨w.heap.size,1,none⟩=some (.int .i64 dy):=Mcq;have d2:wc.cell? ⟨w.heap.size,2,none⟩=some (.string pl):=Mcq;have d3:wc.cell? ⟨w.heap.size,3,none⟩=some (.string fr):=Mcq;have d4:wc.cell? ⟨w.heap.size,4,none⟩=some (.slice B ps.length c):=Mcq;have d5:wc.cell? ⟨w.heap.size,5,none⟩=some (.int .i64 cl):=Mcq;have d6:wc.cell? ⟨w.heap.size,6,none⟩=some (.int .i64 yr):=Mcq;have e0:w.heap.size<wc.heap.size:=Mcm;have e1:w.heap.size≠wc.heap.size:=Mcm;cases Az:ps.any (fun p=>!zaS p.name)
       ·replace f0:=(hB.cell (p:=⟨0,k*8,none⟩) eD).trans f0;replace f1:=(hB.cell (p:=⟨0,k*8+1,none⟩) eD).trans f1;replace f2:=(hB.cell (p:=⟨0,k*8+2,none⟩) eD).trans f2;replace f3:=(hB.cell (p:=⟨0,k*8+3,none⟩) eD).trans f3;replace f4:=(hB.cell (p:=⟨0,k*8+4,none⟩) eD).trans f4;replace f5:=(hB.cell (p:=⟨0,k*8+5,none⟩) eD).trans f5;replace f6:=(hB.cell (p:=⟨0,k*8+6,none⟩) eD).trans f6;replace f7:=(hB.cell (p:=⟨0,k*8+7,none⟩) eD).trans f7;obtain⟨q,hq⟩:∃q,wc.heap.size=q:=⟨_,rfl⟩
        have HQ:=zHi hq;have e9:w.heap.size<q:=Mcm;have e8:w.heap.size≠q:=Mcm;clear hq;go_upto_region 11 with fail
        go_cut [0,3]from 4 (fun v0 v wc=>v=.pointer (some ⟨q,0,none⟩)/\Below w.heap.size w wc/\q<wc.heap.size/\wc.heap[w.heap.size]?=some (.cells #[.int .i64 (k:Int),.int .i64 dy,.string pl,.string fr,.slice B ps.length c,.int .i64 cl,.int .i64 yr] 28)/\wc.heap[q]?=some (.cells #[.string word,.bool fp,.bool ff,.bool fc,.bool fy,.bool fa,.bool fpt,.bool fs] 112))
        case first=>
         go_wp2_with fail
         all_goals go_meet
         all_goals(exact⟨by rw[HQ.o],Bw,by simp[HQ.o],by repeat(first|assumption|with_reducible refine zak ?_|with_reducible refine zbv ?_|with_reducible refine J_ne Mcm ?_),zas _ _ _ HQ.o.symm⟩)
        case rest=>
         obtain⟨rfl,hB,hsz,g0,g1⟩:=hcut;have d0:wc.cell? ⟨w.heap.size,0,none⟩=some (.int .i64 (k:Int)):=Mcq;have d1:wc.cell? ⟨w.heap.size,1,none⟩=some (.int .i64 dy):=Mcq;have d2:wc.cell? ⟨w.heap.size,2,none⟩=some (.string pl):=Mcq;have d3:wc.cell? ⟨w.heap.size,3,none⟩=some (.string fr):=Mcq;have d4:wc.cell? ⟨w.heap.size,4,none⟩=some (.slice B ps.length c):=Mcq;have d5:wc.cell? ⟨w.heap.size,5,none⟩=some (.int .i64 cl):=Mcq;have d6:wc.cell? ⟨w.heap.size,6,none⟩=some (.int .i64 yr):=Mcq;have e0:w.heap.size<wc.heap.size:=Mcm;have e1:w.heap.size≠wc.heap.size:=Mcm;have c0:wc.cell? ⟨q,0,none⟩=some (.string word):=Mcs;have c1:wc.cell? ⟨q,1,none⟩=some (.bool fp):=Mcs;have c2:wc.cell? ⟨q,2,none⟩=some (.bool ff):=Mcs;have c3:wc.cell? ⟨q,3,none⟩=some (.bool fc):=Mcs;have c4:wc.cell? ⟨q,4,none⟩=some (.bool fy):=Mcs;have c5:wc.cell? ⟨q,5,none⟩=some (.bool fa):=Mcs;have c6:wc.cell? ⟨q,6,none⟩=some (.bool fpt):=Mcs;have c7:wc.cell? ⟨q,7,none⟩=some (.bool fs):=Mcs;have e2:q≠wc.heap.size:=Mcm;go_upto_region 12 with fail
         go_cut [57]from 4 (fun v wc=>v=.bool (fp != !noB pl||ff != !noB fr)/\Below w.heap.size w wc/\q<wc.heap.size/\wc.heap[w.heap.size]?=some (.cells #[.int .i64 (k:Int),.int .i64 dy,.string pl,.string fr,.slice B ps.length c,.int .i64 cl,.int .i64 yr] 28)/\wc.heap[q]?=some (.cells #[.string word,.bool fp,.bool ff,.bool fc,.bool fy,.bool fa,.bool fpt,.bool fs] 112))
         case first=>
          exact ME
         case rest=>
          obtain⟨rfl,hB,hsz,g0,g1⟩:=hcut;have d0:wc.cell? ⟨w.heap.size,0,none⟩=some (.int .i64 (k:Int)):=Mcq;have d1:wc.cell? ⟨w.heap.size,1,none⟩=some (.int .i64 dy):=Mcq;have d2:wc.cell? ⟨w.heap.size,2,none⟩=some (.string pl):=Mcq;have d3:wc.cell? ⟨w.heap.size,3,none⟩=some (.string fr):=Mcq;have d4:wc.cell? ⟨w.heap.size,4,none⟩=some (.slice B ps.length c):=Mcq;have d5:wc.cell? ⟨w.heap.size,5,none⟩=some (.int .i64 cl):=Mcq;have d6:wc.cell? ⟨w.heap.size,6,none⟩=some (.int .i64 yr):=Mcq;have e0:w.heap.size<wc.heap.size:=Mcm;have e1:w.heap.size≠wc.heap.size:=Mcm;have c0:wc.cell? ⟨q,0,none⟩=some (.string word):=Mcs;have c1:wc.cell? ⟨q,1,none⟩=some (.bool fp):=Mcs;have c2:wc.cell? ⟨q,2,none⟩=some (.bool ff):=Mcs;have c3:wc.cell? ⟨q,3,none⟩=some (.bool fc):=Mcs;have c4:wc.cell? ⟨q,4,none⟩=some (.bool fy):=Mcs;have c5:wc.cell? ⟨q,5,none⟩=some (.bool fa):=Mcs;have c6:wc.cell? ⟨q,6,none⟩=some (.bool fpt):=Mcs;have c7:wc.cell? ⟨q,7,none⟩=some (.bool fs):=Mcs;have e2:q≠wc.heap.size:=Mcm;cases GE:(fp != !noB pl||ff != !noB fr)
          ·go_upto_region 13 with fail
           go_cut [57]from 4 (fun v wc=>v=.bool (!fc&&cl != 0)/\Below w.heap.size w wc/\q<wc.heap.size/\wc.heap[w.heap.size]?=some (.cells #[.int .i64 (k:Int),.int .i64 dy,.string pl,.string fr,.slice B ps.length c,.int .i64 cl,.int .i64 yr] 28)/\wc.heap[q]?=some (.cells #[.string word,.bool fp,.bool ff,.bool fc,.bool fy,.bool fa,.bool fpt,.bool fs] 112))
           case first=>
            exact ME
           case rest=>
            obtain⟨rfl,hB,hsz,g0,g1⟩:=hcut;have d0:wc.cell? ⟨w.heap.size,0,none⟩=some (.int .i64 (k:Int)):=Mcq;have d1:wc.cell? ⟨w.heap.size,1,none⟩=some (.int .i64 dy):=Mcq;have d2:wc.cell? ⟨w.heap.size,2,none⟩=some (.string pl):=Mcq;have d3:wc.cell? ⟨w.heap.size,3,none⟩=some (.string fr):=Mcq;have d4:wc.cell? ⟨w.heap.size,4,none⟩=some (.slice B ps.length c):=Mcq;have d5:wc.cell? ⟨w.heap.size,5,none⟩=some (.int .i64 cl):=Mcq;have d6:wc.cell? ⟨w.heap.size,6,none⟩=some (.int .i64 yr):=Mcq;have e0:w.heap.size<wc.heap.size:=Mcm;have e1:w.heap.size≠wc.heap.size:=Mcm;have c0:wc.cell? ⟨q,0,none⟩=some (.string word):=Mcs;have c1:wc.cell? ⟨q,1,none⟩=some (.bool fp):=Mcs;have c2:wc.cell? ⟨q,2,none⟩=some (.bool ff):=Mcs;have c3:wc.cell? ⟨q,3,none⟩=some (.bool fc):=Mcs;have c4:wc.cell? ⟨q,4,none⟩=some (.bool fy):=Mcs;have c5:wc.cell? ⟨q,5,none⟩=some (.bool fa):=Mcs;have c6:wc.cell? ⟨q,6,none⟩=some (.bool fpt):=Mcs;have c7:wc.cell? ⟨q,7,none⟩=some (.bool fs):=Mcs;have e2:q≠wc.heap.size:=Mcm;cases hn5:(!fc&&cl != 0)
            ·go_upto_region 14 with fail
             go_cut [57]from 4 (fun v wc=>v=.bool (!fy&&yr != 0)/\Below w.heap.size w wc/\q<wc.heap.size/\wc.heap[w.heap.size]?=some (.cells #[.int .i64 (k:Int),.int .i64 dy,.string pl,.string fr,.slice B ps.length c,.int .i64 cl,.int .i64 yr] 28)/\wc.heap[q]?=some (.cells #[.string word,.bool fp,.bool ff,.bool fc,.bool fy,.bool fa,.bool fpt,.bool fs] 112))
             case first=>
              exact ME
             case rest=>
              obtain⟨rfl,hB,hsz,g0,g1⟩:=hcut;have d0:wc.cell? ⟨w.heap.size,0,none⟩=some (.int .i64 (k:Int)):=Mcq;have d1:wc.cell? ⟨w.heap.size,1,none⟩=some (.int .i64 dy):=Mcq;have d2:wc.cell? ⟨w.heap.size,2,none⟩=some (.string pl):=Mcq;have d3:wc.cell? ⟨w.heap.size,3,none⟩=some (.string fr):=Mcq;have d4:wc.cell? ⟨w.heap.size,4,none⟩=some (.slice B ps.length c):=Mcq;have d5:wc.cell? ⟨w.heap.size,5,none⟩=some (.int .i64 cl):=Mcq;have d6:wc.cell? ⟨w.heap.size,6,none⟩=some (.int .i64 yr):=Mcq;have e0:w.heap.size<wc.heap.size:=Mcm;have e1:w.heap.size≠wc.heap.size:=Mcm;have c0:wc.cell? ⟨q,0,none⟩=some (.string word):=Mcs;have c1:wc.cell? ⟨q,1,none⟩=some (.bool fp):=Mcs;have c2:wc.cell? ⟨q,2,none⟩=some (.bool ff):=Mcs;have c3:wc.cell? ⟨q,3,none⟩=some (.bool fc):=Mcs;have c4:wc.cell? ⟨q,4,none⟩=some (.bool fy):=Mcs;have c5:wc.cell? ⟨q,5,none⟩=some (.bool fa):=Mcs;have c6:wc.cell? ⟨q,6,none⟩=some (.bool fpt):=Mcs;have c7:wc.cell? ⟨q,7,none⟩=some (.bool fs):=Mcs;have e2:q≠wc.heap.size:=Mcm;cases hn6:(!fy&&yr != 0)
              ·go_upto_region 16 with fail
               go_cut [88]from 4 (fun v wc=>v=.bool (yr==0&&((k:Int)==3||((k:Int)==0&&cl==2)))/\Below w.heap.size w wc/\q<wc.heap.size/\wc.heap[w.heap.size]?=some (.cells #[.int .i64 (k:Int),.int .i64 dy,.string pl,.string fr,.slice B ps.length c,.int .i64 cl,.int .i64 yr] 28)/\wc.heap[q]?=some (.cells #[.string word,.bool fp,.bool ff,.bool fc,.bool fy,.bool fa,.bool fpt,.bool fs] 112))
               case first=>
                exact ME
               case rest=>
                obtain⟨rfl,hB,hsz,g0,g1⟩:=hcut;have d0:wc.cell? ⟨w.heap.size,0,none⟩=some (.int .i64 (k:Int)):=Mcq;have d1:wc.cell? ⟨w.heap.size,1,none⟩=some (.int .i64 dy):=Mcq;have d2:wc.cell? ⟨w.heap.size,2,none⟩=some (.string pl):=Mcq;have d3:wc.cell? ⟨w.heap.size,3,none⟩=some (.string fr):=Mcq;have d4:wc.cell? ⟨w.heap.size,4,none⟩=some (.slice B ps.length c):=Mcq;have d5:wc.cell? ⟨w.heap.size,5,none⟩=some (.int .i64 cl):=Mcq;have d6:wc.cell? ⟨w.heap.size,6,none⟩=some (.int .i64 yr):=Mcq;have e0:w.heap.size<wc.heap.size:=Mcm;have e1:w.heap.size≠wc.heap.size:=Mcm;have c0:wc.cell? ⟨q,0,none⟩=some (.string word):=Mcs;have c1:wc.cell? ⟨q,1,none⟩=some (.bool fp):=Mcs;have c2:wc.cell? ⟨q,2,none⟩=some (.bool ff):=Mcs;have c3:wc.cell? ⟨q,3,none⟩=some (.bool fc):=Mcs;have c4:wc.cell? ⟨q,4,none⟩=some (.bool fy):=Mcs;have c5:wc.cell? ⟨q,5,none⟩=some (.bool fa):=Mcs;have c6:wc.cell? ⟨q,6,none⟩=some (.bool fpt):=Mcs;have c7:wc.cell? ⟨q,7,none⟩=some (.bool fs):=Mcs;have e2:q≠wc.heap.size:=Mcm;cases hn7:(yr==0&&((k:Int)==3||((k:Int)==0&&cl==2)))
                ·go_wp2_with (first
                               |(go_at_call 45;refine(zbi _ _ _ _).mono ?_;intro e wq hq;rcases Ret0.bools hq with⟨rfl,⟨hb,rfl⟩|⟨hb,rfl⟩⟩<;>clear hq)
                               |(go_at_call 46;refine(zcI _ _).mono ?_;intro e wq hq;rcases Ret0.bools hq with⟨rfl,⟨hb,rfl⟩|⟨hb,rfl⟩⟩<;>clear hq)
                               |(go_at_call 47;refine(zca _ _ Mc2).mono ?_;intro e wq hq;rcases Ret0.bools hq with⟨rfl,⟨hb,rfl⟩|⟨hb,rfl⟩⟩<;>clear hq)
                               |(go_at_call 48;refine(zcJ _ _ eg (fun q:RPart=>!zaS q.name) _ _ _ ps _ rfl HL.o (HS.o.keep (n:=w.heap.size) Bw) (zgs ps _ HN.o)).mono ?_;intro e wq hq;rcases Ret.bools hq with⟨zq,rfl,⟨hb,rfl⟩|⟨hb,rfl⟩⟩<;>clear hq)
                               |(go_at_call 50;refine(zd5 ⟨word,fp,ff,fc,fy,fa,fpt,fs⟩ _ _ _ _ _ _ ps _ _ _ _ rfl Mcm HC.o (HS.o.keep (n:=w.heap.size) Bw)).mono ?_;intro e wq hq;rcases Ret.bools hq with⟨zq,rfl,⟨hb,rfl⟩|⟨hb,rfl⟩⟩<;>clear hq))
                 all_goals go_ret
                 all_goals exact Ret.of (zbC McE) Bw
                ·exact MI
              ·exact MI
            ·exact MI
          ·exact MI
       ·exact Mag
 ·replace hk:inR kd 0 8=false:=by simpa using hk
  go_wp2_with (go_at_call 45;refine(zbi _ _ _ _).mono ?_;rintro e wq ⟨rfl,rfl⟩;rw[hk])
  all_goals go_ret
  all_goals exact Ret.of (zbC Mc5) Bw
open Go.Shelf
theorem zli(a b:ByteArray)(w:World):Calls Tryz.prog 133 #[.string a,.string b] w (Ret0 w (.int .i64 (cmpN a b))):=by
 have bz:=Any.strings_Compare cmpStr a b w;change Calls Tryz.prog 133 _ _ _ at bz;exact Mbe
theorem zm8(p:ByteArray×Rat)(s:ByteArray)(w:World):Calls Tryz.prog 158 #[.agg #[.string p.1,.int .i64 p.2.num,.int .i64 p.2.den],.string s] w (Ret w (.int .i64 (cmpN p.1 s))):=by
 have hc:=fun W=>zli p.1 s W
 generalize cmpN p.1 s=r at hc⊢;go_enter Tryz.func158,Tryz.ntmps158
 go_wp2_with (go_at_call 133;refine(hc _).mono ?_;rintro e wq ⟨rfl,rfl⟩)
 go_ret
 exact Ret.of rfl Bw
def znM(w:World)(xs:Parts)(nm:ByteArray)(e:Ending)(w':World):Prop:=
 ∃P Q,xs=P++Q/\(∀p∈P,zbq p.1 nm=true)/\(∀p∈Q,zbq p.1 nm=false)/\Ret w (.tuple #[.int .i64 P.length,.bool (zdP Q nm)]) e w'
theorem bsf_any(xs:Parts)(A:Option Addr)(n c:Nat)(nm:ByteArray)(w:World)(hn:n=xs.length)(hl:xs.length<=100000)(hA:AscP xs)(hS:Sl w 3 zaa A xs):
 Calls Tryz.prog 157 #[.slice A n c,.string nm,.func (.func 158) #[] #[]] w (znM w xs nm):=by
 subst hn;have eg:∀args w,(callFunc 158 args).run Tryz.prog w=.ok (.enter 158 args) w:=enters_of Tryz.func158 Mcn rfl;obtain⟨HA,HC⟩:=yH2 hA (fun(p:ByteArray×Rat) W=>zm8 p nm W);go_enter Tryz.func157,Tryz.ntmps157
 go_wp2_with fail
 go_loopw [9,10] (fun i j wr=>∃lo hi:Nat,i=.int .i64 lo/\j=.int .i64 hi/\lo<=hi/\hi<=xs.length/\Hid (∀t (ht:t<xs.length),t<lo->zbq xs[t].1 nm=true)/\Hid (∀t (ht:t<xs.length),hi<=t->zbq xs[t].1 nm=false)/\∃z,wr=w.ext z) (fun i j _=>(intOf j).toNat-(intOf i).toNat)
 case atStart=>exact⟨0,xs.length,rfl,rfl,Nat.zero_le _,Nat.le_refl _,fun t ht h=>absurd h (Nat.not_lt_zero _),fun t ht h=>by omega,zaV (Below.refl _ _)⟩
 case round=>
  obtain⟨lo,hi,rfl,rfl,h1,h2,H3,H4,z,rfl⟩:=hrel;by_cases aa:lo<hi
  ·have hm:(lo+hi)/2<xs.length:=Mcm;obtain⟨b,off,rfl,hb,hc⟩:=(hS.keep (zap w z)).at hm;obtain⟨HX,HY⟩:=yH2 (fun t (ht:t<xs.length) (h:t<(lo+hi)/2)=>List.pairwise_iff_getElem.1 hA t _ ht hm h) (fun t (ht:t<xs.length) (h:(lo+hi)/2<t)=>List.pairwise_iff_getElem.1 hA _ t hm ht h);generalize hp:xs[(lo+hi)/2]=p at*;obtain⟨pn,pq⟩:=p;have hr:decide (cmpN pn nm<0)=zbq pn nm:=znE _ _;have bK:=HC.o (pn,pq);simp only at bK;generalize cmpN pn nm=r at hr bK;have c0:(w.ext z).cell? ⟨b,off+(lo+hi)/2*3,none⟩=some (.string pn):=hc 0 _ rfl;have c1:(w.ext z).cell? ⟨b,off+(lo+hi)/2*3+1,none⟩=some (.int .i64 pq.num):=hc 1 _ rfl;have c2:(w.ext z).cell? ⟨b,off+(lo+hi)/2*3+2,none⟩=some (.int .i64 pq.den):=hc 2 _ rfl;obtain⟨HP,HR⟩:=yH2 hp hr;clear hp hr hc hS hA;by_cases qg:r<0
   ·go_wp2_with (go_at_fn 158;refine(bK _).mono ?_;rintro e wq ⟨rfl,zq,rfl⟩)
    go_round
    case rel=>
     have bG:zbq pn nm=true:=by rw[<-HR.o];simpa using qg
     refine⟨(lo+hi)/2+1,hi,by go_num,rfl,by omega,h2,(show Hid _ from fun t ht h=>?_),H4,zaV Bw⟩;by_cases e:t=(lo+hi)/2
     ·subst e;rw[HP.o];exact bG
     ·have:=HX.o t ht Mcm;exact zb6 this bG
    case measure=>simp[intOf];omega
   ·go_wp2_with (go_at_fn 158;refine(bK _).mono ?_;rintro e wq ⟨rfl,zq,rfl⟩)
    go_round
    case rel=>
     have bG:zbq pn nm=false:=by rw[<-HR.o];simpa using qg
     refine⟨lo,(lo+hi)/2,rfl,by go_num,by omega,by omega,H3,(show Hid _ from fun t ht h=>?_),zaV Bw⟩;by_cases e:t=(lo+hi)/2
     ·subst e;rw[HP.o];exact bG
     ·have:=HY.o t ht Mcm;exact less_up this bG
    case measure=>simp[intOf];omega
  ·have he:hi=lo:=Mcm;subst he;have HP:Hid (∀p∈xs.take hi,zbq p.1 nm=true):=fun p hp=>by
    obtain⟨t,ht,rfl⟩:=List.getElem_of_mem hp;rw[List.getElem_take];have:t<hi:=by rw[List.length_take]at ht;omega
    exact H3.o t Mcm this
   have HQ:Hid (∀p∈xs.drop hi,zbq p.1 nm=false):=fun p hp=>by
    obtain⟨t,ht,rfl⟩:=List.getElem_of_mem hp;rw[List.getElem_drop];exact H4.o (hi+t) (by rw[List.length_drop]at ht;omega) Mcm
   have HL:Hid ((xs.take hi).length=hi):=by show _=_;rw[List.length_take];omega
   by_cases br:hi<xs.length
   ·obtain⟨b,off,rfl,hb,hc⟩:=(hS.keep (zap w z)).at br;have hd:xs.drop hi=xs[hi]::xs.drop (hi+1):=List.drop_eq_getElem_cons br;generalize hp:xs[hi]=p at*;obtain⟨pn,pq⟩:=p;have hr:(cmpN pn nm==0)=zae pn nm:=cmpN_zero _ _;have bK:=HC.o (pn,pq);simp only at bK;generalize cmpN pn nm=r at hr bK;have c0:(w.ext z).cell? ⟨b,off+hi*3,none⟩=some (.string pn):=hc 0 _ rfl;have c1:(w.ext z).cell? ⟨b,off+hi*3+1,none⟩=some (.int .i64 pq.num):=hc 1 _ rfl;have c2:(w.ext z).cell? ⟨b,off+hi*3+2,none⟩=some (.int .i64 pq.den):=hc 2 _ rfl;obtain⟨HR,HD⟩:=yH2 hr hd;clear hp hr hc hS hA hd;go_wp2_with (go_at_fn 158;refine(bK _).mono ?_;rintro e wq ⟨rfl,zq,rfl⟩)
    all_goals go_ret2
    all_goals exact⟨xs.take hi,xs.drop hi,(List.take_append_drop _ _).symm,HP.o,HQ.o,Ret.of (by rw[HL.o,HD.o];simp[zdP,<-HR.o, *]) Bw⟩
   ·go_wp2_with fail
    all_goals go_ret2
    all_goals exact⟨xs.take hi,xs.drop hi,(List.take_append_drop _ _).symm,HP.o,HQ.o,Ret.of (by rw[HL.o,List.drop_eq_nil_of_le Mcm];simp[zdP]) Bw⟩
def zbz(W:World)(T:Nat)(pl:ByteArray)(cl fr en:Int)(v dv:Value):Prop:=W.heap[T]?=some (.cells #[.string pl,.int .i64 cl,.int .i64 fr,.int .i64 en,v,dv] 84)
theorem znN(xs:Parts)(A:Option Addr)(c T:Nat)(nm:ByteArray)(w:World)(iS:w.cell? ⟨T,4,none⟩=some (.slice A xs.length c))(hl:xs.length<=100000)(hA:AscP xs)(hS:Sl w 3 zaa A xs):
 Calls Tryz.prog 123 #[.pointer (some ⟨T,0,none⟩),.string nm] w (znM w xs nm):=by
 have HB:=bsf_any xs A _ c nm w rfl hl hA hS;go_enter Tryz.func123,Tryz.ntmps123
 go_wp2_with (go_at_call 157;refine HB.mono ?_;rintro e wq ⟨P,Q,bu,hP,hQ,rfl,z,rfl⟩)
 go_ret2
 exact⟨P,Q,bu,hP,hQ,Ret.of rfl Bw⟩
theorem shareQ{P Q:Parts}{nm:ByteArray}(hP:∀p∈P,zbq p.1 nm=true)(hQ:∀p∈Q,zbq p.1 nm=false)(hA:AscP (P++Q)):zag (P++Q) nm=if zdP Q nm then(Q.headD (⟨#[]⟩,0)).2 else 0:=by
 rw[zfT hP];cases hh:zdP Q nm
 ·exact znF hQ (zhA hA) hh
 ·cases Q with
  |nil=>cases hh
  |cons q Q=>
   have hs:zae q.1 nm=true:=hh;rw[zbt,hs];rfl
theorem zes(xs:Parts)(A:Option Addr)(c T:Nat)(nm:ByteArray)(w:World)(iS:w.cell? ⟨T,4,none⟩=some (.slice A xs.length c))(hT:T<w.heap.size)(hl:xs.length<=100000)(hA:AscP xs)(hS:Sl w 3 zaa A xs):
 Calls Tryz.prog 87 #[.pointer (some ⟨T,0,none⟩),.string nm] w (Ret w (zaC (zag xs nm))):=by
 have HF:=fun W h1 h2=>znN xs A c T nm W h1 hl hA h2
 obtain⟨HS,HA⟩:=yH2 hS hA;clear hS hA;have ai:T≠w.heap.size:=Mcm;go_enter Tryz.func87,Tryz.ntmps87
 go_upto_region 2 with(go_at_call 123;refine(HF _ (by simp[go_sem,hT,iS]) (HS.o.keep (n:=w.heap.size) Bw)).mono ?_;rintro e wq ⟨P,Q,bu,hP,hQ,rfl,z,rfl⟩;subst bu)
 have hv:=shareQ hP hQ HA.o;have HV:=zHi hv;clear hv hP hQ;cases Q with
 |nil=>
  go_wp2_with fail
  refine bodyPost_ret (v:=zaC (zag (P++[]) nm)) ?_ rfl ?_
  ·rw[HV.o];refine zaZ rfl _ _ w.heap.size _ _ rfl ?_ ?_<;>simp[go_sem,zdP]
  ·exact Ret.of rfl Bw
 |cons q Q=>
  obtain⟨qn,qr⟩:=q;have aa:P.length<(P++(qn,qr)::Q).length:=Mcp;obtain⟨b,off,rfl,hb,hc⟩:=HS.o.at aa;rw[List.getElem_append_right (Nat.le_refl _)]at hc;simp only[Nat.sub_self,List.getElem_cons_zero]at hc;have k1:w.cell? ⟨b,off+P.length*3+1,none⟩=some (.int .i64 qr.num):=hc 1 _ rfl;have k2:w.cell? ⟨b,off+P.length*3+1+1,none⟩=some (.int .i64 qr.den):=hc 2 _ rfl;have br:(P.length:Int)<((P++(qn,qr)::Q).length:Int):=Mcm;have L9:(0:Int)<=(P.length:Int):=Mcm;have HL:=zHi aa;clear hc aa;generalize hh:zdP ((qn,qr)::Q) nm=q at*;have J6:=zHi (HV.o.trans (by rfl:_=if q then qr else 0));cases q
  ·exact MaB
  ·exact MaB
theorem zir(g:Grave)(A:Option Addr)(c T:Nat)(day:Int)(w:World)(h3:w.cell? ⟨T,3,none⟩=some (.int .i64 g.fin))(h4:w.cell? ⟨T,4,none⟩=some (.slice A g.holders.length c)):
 Calls Tryz.prog 67 #[.pointer (some ⟨T,0,none⟩),.int .i64 day] w (Ret w (.bool (zaT g day))):=by
 obtain⟨pl,cl,fin,hs,di⟩:=g;simp only at*;go_enter Tryz.func67,Tryz.ntmps67
 go_wp2_with fail
 all_goals go_ret
 all_goals(refine Ret.of (zaO ?_) Bw;cases hs<;>simp_all[zaT]<;>omega)
theorem zgt{P:Program}(w:World)(dT sT ty elem:TypeId)(size b o dLen dCap:Nat)(a:Addr)(sLen sCap n:Nat)(cs:List Value)
 (hu:P.underlying dT=some (.slice elem))(hs:(P.info? elem).map (·.size)=some size)(hn:Nat.min sLen dLen=n)(hl:cs.length=n*size)
 (E7:∀j v,cs[j]?=some v->w.cell? (a.add j)=some v)(hc:∀j,j<cs.length->(w.cell? ⟨b,o+j,none⟩).isSome=true)(hf:∀j,j<cs.length->w.frozen? ⟨b,o+j,none⟩=false)(h1:∀v∈cs,v.oneCell'=true):
 (Builtin.copy_ #[dT,sT] ty #[.slice (some ⟨b,o,none⟩) dLen dCap,.slice (some a) sLen sCap]).run P w=.ok (goInt n) (w.setCells b o cs):=by
 have KF:=run_firstCells_some (P:=P) w size n a sLen sCap cs hl E7;have aj:=run_storeCells_cells (P:=P) b o cs 0 w Mdx (by simpa using hf) h1;cases hq:P.info? elem with
 |none=>simp[hq]at hs
 |some i=>
  have hi:i.size=size:=by simpa[hq]using hs
  simp[Builtin.copy_,run_underlying hu,Builtin.lenOf,sizeOf,typeInfo,hq,hi,hn,KF,aj]
theorem zbN(g:Nat){e:TypeId}:∀(vs:List Value) (o:Nat) (w:World) (cur:Array Value),w.heap[g]?=some (.cells cur e (0,0))->o+vs.length<=cur.size->
 ∃cur',(w.setCells g o vs).heap[g]?=some (.cells cur' e (0,0))/\cur'.size=cur.size/\(∀j,j<o\/o+vs.length<=j->cur'[j]?=cur[j]?)/\∀j u,vs[j]?=some u->cur'[o+j]?=some u
 | [],o,w,cur,hg,_=>⟨cur,hg,rfl,fun _ _=>rfl,fun j u h=>by simp at h⟩
 |v::r,o,w,cur,hg,hl=>by
  obtain⟨cur',h1,h2,h3,h4⟩:=zbN g r (o+1) (w.setCell ⟨g,o,none⟩ v) (cur.setIfInBounds o v) (heap_setCell_same w g o cur e v hg) (by simp at hl⊢;omega);refine⟨cur',h1,by simpa using h2,fun j hj=>?_,fun j u hu=>?_⟩
  ·rw[h3 j (by simp at hj;omega),Array.getElem?_setIfInBounds_ne (by simp at hj;omega)]
  ·cases j with
   |zero=>
    simp only[List.getElem?_cons_zero,Option.some.injEq]at hu;subst hu;rw[Nat.add_zero,h3 o Mcm];exact Array.getElem?_setIfInBounds_self_of_lt (by simp at hl;omega)
   |succ j=>
    have:=h4 j u (by simpa using hu);rw[show o+(j+1)=o+1+j by omega];exact this
theorem zan(p:ByteArray×Rat):(zaa p).length=3:=rfl
theorem zcd(p:ByteArray×Rat):∀u∈zaa p,u.oneCell'=true:=by simp[zaa,Value.oneCell']
theorem zis(l:Parts):∀u∈l.flatMap zaa,u.oneCell'=true:=fun u hu=>by
 obtain⟨x,_,hx⟩:=List.mem_flatMap.1 hu;exact zcd x u hx
theorem zet(l:Parts):(l.flatMap zaa).length=l.length*3:=zgh zaa 3 zan l
theorem zdQ:ElTy Tryz.prog 26 62 3 32:=zd3 (z:=.agg #[.string ⟨#[]⟩,.int .i64 0,.int .i64 0]) Mcn Mcn rfl Mco
theorem ins_get{xs:Parts}{p:ByteArray×Rat}{i:Nat}(hi:i<=xs.length){cur:Nat->Option Value}(h0:∀j u,j<i*3->(xs.flatMap zaa)[j]?=some u->cur j=some u)(h1:∀j u,(zaa p)[j]?=some u->cur (i*3+j)=some u)
 (h2:∀j u,((xs.drop i).flatMap zaa)[j]?=some u->cur ((i+1)*3+j)=some u):∀j u,((xs.take i++p::xs.drop i).flatMap zaa)[j]?=some u->cur j=some u:=fun j u hj=>by
 have hl:((xs.take i).flatMap zaa).length=i*3:=Mc4;rw[List.flatMap_append,List.flatMap_cons]at hj;by_cases hj1:j<i*3
 ·rw[List.getElem?_append_left Mcm]at hj;refine h0 j u hj1 ?_;exact MaG
 ·rw[List.getElem?_append_right Mcm,hl]at hj;by_cases Gm:j-i*3<3
  ·rw[List.getElem?_append_left (by rw[zan];exact Gm)]at hj;have:=h1 _ u hj;rwa [show i*3+(j-i*3)=j by omega]at this
  ·rw[List.getElem?_append_right Meb,zan]at hj;have:=h2 _ u hj;rwa [show(i+1)*3+(j-i*3-3)=j by omega]at this
def zfh(w:World)(base:Nat)(v:Value)(ys:Parts)(e:Ending)(w':World):Prop:=
 ∃v',e=.returned v'/\OwnS w' base 62 3 zaa v' ys/\w.grownBy w' (za7 v)/\∀g,za7 v'=some g->za7 v=some g\/w.heap.size<=g
theorem zm9{w:World}{vb:Nat}{p:ByteArray×Rat}{t:TypeId}{fr:Nat×Nat}(h:w.heap[vb]?=some (.cells #[.string p.1,.int .i64 p.2.num,.int .i64 p.2.den] t fr)):∀j v,(zaa p)[j]?=some v->w.cell? ⟨vb,j,none⟩=some v:=fun j v hj=>by
 match j,hj with
 |0,hj=>simp[zaa]at hj;simp[World.cell?,h,<-hj]
 |1,hj=>simp[zaa]at hj;simp[World.cell?,h,<-hj]
 |2,hj=>simp[zaa]at hj;simp[World.cell?,h,<-hj]
 |j+3,hj=>simp[zaa]at hj
theorem zoy(base:Nat)(xs:Parts)(p:ByteArray×Rat)(vb:Nat)(w:World)(hl:xs.length<=100000)(dw:w.heap[vb]?=some (.cells #[.string p.1,.int .i64 p.2.num,.int .i64 p.2.den] 62))(aM:base<=w.heap.size)(v:Value)(ae:OwnS w base 62 3 zaa v xs):
 Calls Tryz.prog 125 #[v,.int .i64 xs.length,.slice (some ⟨vb,0,none⟩) 1 1] w (zfh w base v (xs++[p])):=by
 have hS:Sl w 3 zaa (some ⟨vb,0,none⟩) [p]:=fun _=>⟨vb,0,rfl,zab dw,fun k x hx j u hu=>by
  have hk:k=0:=by have:=(List.getElem?_eq_some_iff.1 hx).1;simp at this;omega
  subst hk;simp only[List.getElem?_cons_zero,Option.some.injEq]at hx;subst hx;have:=zm9 dw j u hu
  simpa using this⟩
 obtain⟨HO,HS⟩:=yH2 ae hS;obtain⟨A,c,rfl,_,hc⟩:=ae.sl zan;have cd:(xs.length:Int)<=(c:Int):=Mcm;clear hS;have hA:A=none\/∃g o,A=some ⟨g,o,none⟩:=by
  rcases ae with⟨h,_⟩|⟨g,o,cap,cur,h,_⟩
  ·simp only[Value.slice.injEq]at h;exact .inl h.1
  ·simp only[Value.slice.injEq]at h;exact .inr ⟨g,o,h.1⟩
 clear ae;go_enter Tryz.func125,Tryz.ntmps125
 rcases hA with rfl|⟨g,o,rfl⟩
 ·exact Mal
 ·exact Mal
theorem zmA(base:Nat)(xs:Parts)(p:ByteArray×Rat)(vb:Nat)(w:World)(hl:xs.length<=100000)(dw:w.heap[vb]?=some (.cells #[.string p.1,.int .i64 p.2.num,.int .i64 p.2.den] 62))(aM:base<=w.heap.size)(g o c:Nat)(cur:Array Value)(km:base<=g)(hg:w.heap[g]?=some (.cells cur 62 (0,0)))(yu:xs.length+1<=c)(ko:c<=maxLen)(bj:o+c*3<=cur.size)(hx:∀j u,(xs.flatMap zaa)[j]?=some u->cur[o+j]?=some u)
 (i:Nat)(hi:i<xs.length)(ai:vb≠g):
 Calls Tryz.prog 125 #[.slice (some ⟨g,o,none⟩) xs.length c,.int .i64 i,.slice (some ⟨vb,0,none⟩) 1 1] w (zfh w base (.slice (some ⟨g,o,none⟩) xs.length c) (xs.take i++p::xs.drop i)):=by
 have mixed:Tryz.prog.follows .mixedOrders=true:=Mcn;have Kq:(c:Int)<=9223372036854775807:=by unfold maxLen at ko;omega
 have DZ:(xs.length:Int)+1<=(c:Int):=Mcm;have E0:¬((c:Int)<(xs.length:Int)+1):=Mcm;have kB:IntKind.i64.wrap ((xs.length:Int)+1)=(xs.length:Int)+1:=McZ;have jc:¬((i:Int)=(xs.length:Int)):=Mcm;have jI:IntKind.i64.wrap ((i:Int)+1)=(i:Int)+1:=McZ;have aU:(0:Int)<=(i:Int)+1:=Mcm;have b8:(0:Int)<=(i:Int):=Mcm;have fK:((i:Int)+1).toNat=i+1:=Mcm;have bF:¬(c=i+1):=Mcm;have aD:¬(c=i):=Mcm;have aC:(i:Int)<=(xs.length:Int)+1:=Mcm;have aq:(i:Int)<=(xs.length:Int):=Mcm;have Lj:∀lb cb,(callFunc 159 #[.slice (some ⟨vb,0,none⟩) 1 1,.slice (some ⟨g,o+(i+1)*3,none⟩) lb cb]).run Tryz.prog w=.ok (.value (.bool false)) w:=fun lb cb=>by
  rw[run_callFunc_extern Tryz.func159 Mcn Mcn Mcn (e:=Extern.SlicesOverlaps.overlaps #[26,26] #[4]) Mcn,
   Lib.run_overlaps_apart w 26 4 62 Tryz.underlying26 3 Tryz.sizeOf62 ⟨vb,0,none⟩ ⟨g,o+(i+1)*3,none⟩ 1 1 lb cb ai 62 62 3 cur.size (by simp[World.shape?,dw]) (by simp[World.shape?,hg]) Mcm (by simp[World.frozen?,dw]) (by simp[World.frozen?,dw])]
  rfl
 obtain⟨i0,z,fk,AG,cZ,AH,uy⟩:=zdQ.hi;have hsz:(Tryz.prog.info? 62).map (·.size)=some 3:=by rw[fk];simp[cZ]
 have bA:((xs.drop i).flatMap zaa).length=(xs.length-i)*3:=Med;have bi:∀j,j<c*3->(w.cell? ⟨g,o+j,none⟩).isSome=true:=fun j hj=>by simp[World.cell?,hg];omega
 have wZ:∀ty dc sc,(Builtin.copy_ #[26,26] ty #[.slice (some ⟨g,o+(i+1)*3,none⟩) (xs.length+1-(i+1)) dc,.slice (some ⟨g,o+i*3,none⟩) (xs.length+1-i) sc]).run Tryz.prog w.drew=.ok (goInt (xs.length-i:Nat)) (w.drew.setCells g (o+(i+1)*3) ((xs.drop i).flatMap zaa)):=fun ty dc sc=>
  zgt w.drew _ _ ty 62 3 g (o+(i+1)*3) _ dc ⟨g,o+i*3,none⟩ _ sc (xs.length-i) _ Tryz.underlying26 hsz Mdt bA
   (fun j v hj=>by
     rw[Addr.add_lit];have e:(xs.flatMap zaa)[i*3+j]?=some v:=by
      have e2:xs.flatMap zaa=(xs.take i).flatMap zaa++(xs.drop i).flatMap zaa:=Mdd;have e3:((xs.take i).flatMap zaa).length=i*3:=Mc4;rw[e2,List.getElem?_append_right Mcm,e3,Nat.add_sub_cancel_left];exact hj
     have:=hx _ _ e;show w.cell? _=_;simp only[World.cell?,hg,Nat.add_assoc]
     exact this)
   (fun j hj=>by rw[bA]at hj;show(w.cell? _).isSome=_;rw[Nat.add_assoc];exact bi _ Mcm) (fun j hj=>by show w.frozen? _=_;simp[World.frozen?,hg]) (zis _)
 obtain⟨cur1,k1,k2,k3,k4⟩:=zbN g ((xs.drop i).flatMap zaa) (o+(i+1)*3) w.drew cur hg (by rw[bA];omega);have bN:=zbJ g ((xs.drop i).flatMap zaa) (o+(i+1)*3) w.drew;obtain⟨W1,aI⟩:∃W1,W1=w.drew.setCells g (o+(i+1)*3) ((xs.drop i).flatMap zaa):=⟨_,rfl⟩
 rw[<-aI]at wZ k1 bN;have yI:W1.heap[vb]?=some (.cells #[.string p.1,.int .i64 p.2.num,.int .i64 p.2.den] 62):=(bN.block vb (zab dw) (by simp[ai])).trans dw;have Db:∀(W:World),W.heap=W1.heap->∀ty dc,(Builtin.copy_ #[26,26] ty #[.slice (some ⟨g,o+i*3,none⟩) (xs.length+1-i) dc,.slice (some ⟨vb,0,none⟩) 1 1]).run Tryz.prog W=.ok (goInt (1:Nat)) (W.setCells g (o+i*3) (zaa p)):=fun W m8 ty dc=>
  zgt W _ _ ty 62 3 g (o+i*3) _ dc ⟨vb,0,none⟩ 1 1 1 _ Tryz.underlying26 hsz Mdt (by rw[zan])
   (fun j v hj=>by rw[Addr.add_lit,Nat.zero_add];exact zm9 (by rw[m8];exact yI) j v hj)
   (fun j hj=>by rw[zan]at hj;simp[World.cell?,m8,k1,k2];omega) (fun j hj=>by simp[World.frozen?,m8,k1]) (zcd p)
 have HF:Hid (∀W:World,W.heap=W1.heap->W.os=W1.os->W.tape=W1.tape->W.output=W1.output->zfh w base (.slice (some ⟨g,o,none⟩) xs.length c) (xs.take i++p::xs.drop i) (.returned (.slice (some ⟨g,o,none⟩) (xs.length+1) c)) (W.setCells g (o+i*3) (zaa p))):=by
  intro W h1 h2 h3 h4;have ta:w.grownBy W (some g):=⟨h2.trans bN.os,h3.trans bN.tape,h4.trans bN.output,by rw[h1];exact bN.size,fun k hk hn=>by rw[h1];exact bN.block k hk hn⟩
  obtain⟨cur2,l1,l2,l3,l4⟩:=zbN g (zaa p) (o+i*3) W cur1 (by rw[h1];exact k1) (by rw[zan,k2];omega);have ag:(xs.take i++p::xs.drop i).length=xs.length+1:=Mcr;refine⟨_,rfl,.inr ⟨g,o,c,cur2,by rw[ag],km,l1,by rw[ag];exact yu,ko,by rw[l2,k2];exact bj,?_⟩,zbo ta (zbJ _ _ _ _),fun g' h=> .inl h⟩;refine ins_get (cur:=fun j=>cur2[o+j]?) Mcm (fun j u hj hu=>?_) (fun j u hu=>?_) (fun j u hu=>?_)
  ·show cur2[o+j]?=_;rw[l3 _ (.inl Mcm),k3 _ (.inl Mcm)];exact hx j u hu
  ·have:=l4 j u hu;rw[show o+i*3+j=o+(i*3+j) by omega]at this;exact this
  ·show cur2[o+((i+1)*3+j)]?=_;rw[l3 _ (.inr Meb)];have:=k4 j u hu;rw[show o+(i+1)*3+j=o+((i+1)*3+j) by omega]at this;exact this
 clear aI k1 k2 k3 k4 bN bi hx yI bA hg dw;go_enter Tryz.func125,Tryz.ntmps125
 go_wp2_with (simp only[Lj])
 go_region_law_o (go_loud(refine step_copy_runI rfl _ _ 26 26 rfl _ _ Md0 Md0 (wZ _ _ _) ?_))
 go_wp2_with (at_builtin;refine wpList_copy_runI _ rfl _ _ 26 26 rfl _ _ rfl rfl (Db _ rfl _ _) ?_)
 go_ret
 exact HF.o _ rfl rfl rfl rfl
theorem zeh(z:Array Value)(k:Nat):(Builtin.zeroCells z k).size=k*z.size:=by
 simp[Builtin.zeroCells]
theorem zmB(base:Nat)(xs:Parts)(p:ByteArray×Rat)(vb:Nat)(w:World)(hl:xs.length<=100000)(dw:w.heap[vb]?=some (.cells #[.string p.1,.int .i64 p.2.num,.int .i64 p.2.den] 62))(aM:base<=w.heap.size)(g o:Nat)(cur:Array Value)(hg:w.heap[g]?=some (.cells cur 62 (0,0)))(hx:∀j u,(xs.flatMap zaa)[j]?=some u->cur[o+j]?=some u)
 (i:Nat)(hi:i<xs.length):
 Calls Tryz.prog 125 #[.slice (some ⟨g,o,none⟩) xs.length xs.length,.int .i64 i,.slice (some ⟨vb,0,none⟩) 1 1] w (zfh w base (.slice (some ⟨g,o,none⟩) xs.length xs.length) (xs.take i++p::xs.drop i)):=by
 have mixed:Tryz.prog.follows .mixedOrders=true:=Mcn;have kB:IntKind.i64.wrap ((xs.length:Int)+1)=(xs.length:Int)+1:=McZ;have dj:(xs.length:Int)<(xs.length:Int)+1:=Mcm;obtain⟨c,hc⟩:∃c,xs.length=c:=⟨_,rfl⟩
 have bF:¬(c=i+1)\/c=i+1:=Mcm;have jc:¬((i:Int)=(xs.length:Int)):=Mcm;have jI:IntKind.i64.wrap ((i:Int)+1)=(i:Int)+1:=McZ;have aU:(0:Int)<=(i:Int)+1:=Mcm;have b8:(0:Int)<=(i:Int):=Mcm;have fK:((i:Int)+1).toNat=i+1:=Mcm;have aq:(i:Int)<=(xs.length:Int):=Mcm;have aG:(i:Int)+1<=(xs.length:Int)+1:=Mcm;have hkw:IntKind.i64.wrap ((xs.length:Int)+1-(i:Int))=(xs.length:Int)+1-(i:Int):=McZ;have fR:(xs.length:Int)+1-(i:Int)=((xs.length+1-i:Nat):Int):=Mcm;have Dy:i+(xs.length+1-i)=xs.length+1:=Mcm;obtain⟨i0,z,fk,AG,cZ,AH,uy⟩:=zdQ.hi;have hsz:(Tryz.prog.info? 62).map (·.size)=some 3:=by rw[fk];simp[cZ]
 have cx:g<w.heap.size:=zab hg;have LG:vb<w.heap.size:=zab dw;have cL:((xs.take i).flatMap zaa).length=i*3:=Mc4;have cT:xs.flatMap zaa=(xs.take i).flatMap zaa++(xs.drop i).flatMap zaa:=Mdd;have mM:(Builtin.firstCells i0.size i (.slice (some ⟨g,o,none⟩) i xs.length)).run Tryz.prog w.drew=.ok ((xs.take i).flatMap zaa).toArray w.drew:=by
  rw[cZ]
  exact run_firstCells_some w.drew 3 i ⟨g,o,none⟩ i xs.length _ cL (fun j v hj=>by
   rw[Addr.add_lit];have:=hx j v (by rw[cT,List.getElem?_append_left (List.getElem?_eq_some_iff.1 hj).1];exact hj);show w.cell? _=_;simp only[World.cell?,hg]
   exact this)
 have AC:∀ty,(Builtin.append_ #[26,3] ty #[.slice (some ⟨g,o,none⟩) i xs.length,.int .i64 ((xs.length:Int)+1-(i:Int))]).run Tryz.prog w=
  .ok (.slice (some ⟨w.heap.size,0,none⟩) (xs.length+1) (grownCap w (xs.length+1) xs.length 62)) (w.drew.alloc (.cells (((xs.take i).flatMap zaa).toArray++Builtin.zeroCells z.cells (xs.length+1-i)++Builtin.zeroCells z.cells (grownCap w (xs.length+1) xs.length 62-(xs.length+1))) 62)):=fun ty=>by
  have h:=Lib.run_append_grow_zeros w 26 3 ty 62 i0 _ .i64 .i64 Tryz.underlying26 Tryz.underlying3 fk AG (some ⟨g,o,none⟩) i xs.length ((xs.take i).flatMap zaa) mM (xs.length+1-i) Mcm Mcm Mcm Mcm (by rw[AH];omega) (by rw[AH,Dy];exact growslice_fits Mcm Mcm);rw[Dy]at h;rw[fR];exact h
 obtain⟨G,hG⟩:∃G,G=grownCap w (xs.length+1) xs.length 62:=⟨_,rfl⟩
 obtain⟨ROW,ox⟩:∃ROW:Array Value,ROW=((xs.take i).flatMap zaa).toArray++Builtin.zeroCells z.cells (xs.length+1-i)++Builtin.zeroCells z.cells (G-(xs.length+1)):=⟨_,rfl⟩
 rw[<-hG,<-ox]at AC;have JA:xs.length+1<=G:=by rw[hG];exact grownCap_ge w _ _ _
 have Ci:G<=maxLen:=by
  rw[hG];exact grownCap_le_maxLen w (xs.length+1) xs.length 62 (by unfold maxLen;omega)
 have nA:ROW.size=G*3:=by
  rw[ox,Array.size_append,Array.size_append,zeh,zeh,uy];simp only[List.size_toArray,cL];omega
 have rI:∀j u,((xs.take i).flatMap zaa)[j]?=some u->ROW[j]?=some u:=fun j u hj=>by
  have cW:=(List.getElem?_eq_some_iff.1 hj).1;rw[ox,Array.getElem?_append_left (by rw[Array.size_append,List.size_toArray];omega),Array.getElem?_append_left (by simpa using cW)];simpa using hj
 obtain⟨W1,aI⟩:∃W1,W1=w.drew.alloc (.cells ROW 62):=⟨_,rfl⟩
 have Ab:W1.heap[w.heap.size]?=some (.cells ROW 62):=by rw[aI];exact heap_alloc_new w.drew _
 have Ae:∀k,k<w.heap.size->W1.heap[k]?=w.heap[k]?:=fun k hk=>by rw[aI];exact Below.heap_alloc w.drew _ k hk
 have x8:∀(W:World),W.heap=W1.heap->∀ty dc,(Builtin.copy_ #[26,26] ty #[.slice (some ⟨w.heap.size,i*3,none⟩) (xs.length+1-i) dc,.slice (some ⟨vb,0,none⟩) 1 1]).run Tryz.prog W=.ok (goInt (1:Nat)) (W.setCells w.heap.size (i*3) (zaa p)):=fun W m8 ty dc=>
  zgt W _ _ ty 62 3 w.heap.size (i*3) _ dc ⟨vb,0,none⟩ 1 1 1 _ Tryz.underlying26 hsz Mdt (by rw[zan])
   (fun j v hj=>by rw[Addr.add_lit,Nat.zero_add];exact zm9 (by rw[m8,Ae vb LG];exact dw) j v hj)
   (fun j hj=>by rw[zan]at hj;simp[World.cell?,m8,Ab];omega) (fun j hj=>by simp[World.frozen?,m8,Ab]) (zcd p)
 obtain⟨cur1,k1,k2,k3,k4⟩:=zbN w.heap.size (zaa p) (i*3) W1 ROW Ab (by rw[zan,nA];omega);have bN:=zbJ w.heap.size (zaa p) (i*3) W1;have bA:((xs.drop i).flatMap zaa).length=(xs.length-i)*3:=Med;have Gg:(W1.setCells w.heap.size (i*3) (zaa p)).heap[g]?=some (.cells cur 62):=by rw[bN.block g (by rw[aI];simp;omega) Mcr,Ae g cx];exact hg
 have Dc:∀(W:World),W.heap=(W1.setCells w.heap.size (i*3) (zaa p)).heap->∀ty dc sc,(Builtin.copy_ #[26,26] ty #[.slice (some ⟨w.heap.size,(i+1)*3,none⟩) (xs.length-i) dc,.slice (some ⟨g,o+i*3,none⟩) (xs.length-i) sc]).run Tryz.prog W=.ok (goInt (xs.length-i:Nat)) (W.setCells w.heap.size ((i+1)*3) ((xs.drop i).flatMap zaa)):=fun W m8 ty dc sc=>
  zgt W _ _ ty 62 3 w.heap.size ((i+1)*3) _ dc ⟨g,o+i*3,none⟩ _ sc (xs.length-i) _ Tryz.underlying26 hsz Mdt bA
   (fun j v hj=>by
     rw[Addr.add_lit];have e:(xs.flatMap zaa)[i*3+j]?=some v:=by
      rw[cT,List.getElem?_append_right Mcm,cL,Nat.add_sub_cancel_left];exact hj
     have:=hx _ _ e;simp only[World.cell?,m8,Gg,Nat.add_assoc]
     exact this)
   (fun j hj=>by rw[bA]at hj;simp[World.cell?,m8,k1,k2,nA];omega) (fun j hj=>by simp[World.frozen?,m8,k1]) (zis _)
 have HF:Hid (∀W:World,W.heap=(W1.setCells w.heap.size (i*3) (zaa p)).heap->W.os=w.os->W.tape=w.tape->W.output=w.output->zfh w base (.slice (some ⟨g,o,none⟩) xs.length xs.length) (xs.take i++p::xs.drop i) (.returned (.slice (some ⟨w.heap.size,0,none⟩) (xs.length+1) G)) (W.setCells w.heap.size ((i+1)*3) ((xs.drop i).flatMap zaa))):=by
  intro W h1 h2 h3 h4;have ta:w.grownBy W (some g):=⟨h2,h3,h4,by rw[h1];exact Nat.le_trans (by rw[aI];simp) bN.size,fun k hk hn=>by rw[h1,bN.block k (by rw[aI];simp;omega) Mcr,Ae k hk]⟩
  obtain⟨cur2,l1,l2,l3,l4⟩:=zbN w.heap.size ((xs.drop i).flatMap zaa) ((i+1)*3) W cur1 (by rw[h1];exact k1) (by rw[bA,k2,nA];omega);have ag:(xs.take i++p::xs.drop i).length=xs.length+1:=Mcr;have cw:=zbJ w.heap.size ((xs.drop i).flatMap zaa) ((i+1)*3) W;refine⟨_,rfl,.inr ⟨w.heap.size,0,G,cur2,by rw[ag],aM,l1,by rw[ag];exact JA,Ci,by rw[l2,k2,nA];omega,?_⟩,?_,fun g' h=> .inr (by simp only[za7,Option.some.injEq]at h;omega)⟩
  ·refine ins_get (cur:=fun j=>cur2[0+j]?) Mcm (fun j u hj hu=>?_) (fun j u hu=>?_) (fun j u hu=>?_)
   ·show cur2[0+j]?=_;rw[Nat.zero_add,l3 _ (.inl Mcm),k3 _ (.inl Mcm)];rw[cT,List.getElem?_append_left Mcm]at hu;exact rI j u hu
   ·show cur2[0+(i*3+j)]?=_;have DC:j<3:=by have:=(List.getElem?_eq_some_iff.1 hu).1;rwa [zan]at this
    rw[Nat.zero_add,l3 _ (.inl Mcm)];exact k4 j u hu
   ·show cur2[0+((i+1)*3+j)]?=_;rw[Nat.zero_add];exact l4 j u hu
  ·exact⟨cw.os.trans h2,cw.tape.trans h3,cw.output.trans h4,Nat.le_trans ta.size cw.size,fun k hk hn=>(cw.block k (Nat.lt_of_lt_of_le hk ta.size) Mcr).trans (ta.block k hk hn)⟩
 subst aI;have hGi:¬(G=i):=Mcm;have Jy:¬(G=i+1):=Mcm;have tY:¬(xs.length=i):=Mcm;have hGc:(xs.length:Int)+1<=(G:Int):=Mcm;have Jw:(i:Int)<=(xs.length:Int)+1:=Mcm;clear fR Dy mM ox hG nA rI cT cL bA Gg bN k1 k2 k3 k4 Ab Ae hx hc bF;go_enter Tryz.func125,Tryz.ntmps125
 go_upto_region 10 with(at_builtin;refine Lib.wpList_append_run _ rfl _ _ _ _ rfl _ _ rfl rfl _ _ (AC _) ?_)
 have FZ:∀ty dc,_:=fun ty dc=>x8 ((w.alloc (.cells ROW 62)).drew) rfl ty dc
 clear x8;go_wp2_with fail
 go_region_law_o (go_loud(refine step_copy_runI rfl _ _ 26 26 rfl _ _ Md0 Md0 (Dc (((w.alloc (.cells ROW 62)).drew.setCells w.heap.size (i*3) (zaa p)).drew) rfl _ _ _) ?_))
 go_wp2_with fail
 go_ret
 exact HF.o _ rfl rfl rfl rfl
theorem zoz{P:Program}(w:World)(t e ty:TypeId)(z:Value)(ht:P.underlying t=some (.slice e))(hv:∀w,(zeroValue e).run P w=.ok z w)(h1:∀u∈z.cells,u.oneCell'=true)(hp:0<z.cells.size)(b o n c:Nat)(hn:0<n)
 (hc:∀j,j<n*z.cells.size->(w.cell? ⟨b,o+j,none⟩).isSome=true)(hf:∀j,j<n*z.cells.size->w.frozen? ⟨b,o+j,none⟩=false):
 (Builtin.clear_ #[t] ty #[.slice (some ⟨b,o,none⟩) n c]).run P w=.ok (.tuple #[]) (w.setCells b o (Builtin.zeroCells z.cells n).toList):=by
 have hl:(Builtin.zeroCells z.cells n).toList.length=n*z.cells.size:=by simp[Builtin.zeroCells]
 have aj:=run_storeCells_cells (P:=P) b o (Builtin.zeroCells z.cells n).toList 0 w (by rw[hl];simpa using hc) (by rw[hl];simpa using hf) (by
  intro v jH;refine h1 v ?_;obtain⟨i,hi,rfl⟩:=List.getElem_of_mem jH;simp[Builtin.zeroCells]at hi⊢
  first|done|exact Array.getElem_mem _|simp[Nat.mod_lt _ hp])
 simp only[Nat.add_zero]at aj;obtain⟨m,rfl⟩:∃m,n=m+1:=⟨n-1,by omega⟩
 simp[Builtin.clear_,run_underlying ht,hv,aj]
theorem zeQ{P:Program}{ops:Array Oper}{o:Oper}{a:Act}{w:World}{K:Act->World->Prop}{Q:Exit->Act->World->Prop}{E:Prop}
 (hg:o.guard=none)(d x:Operand)(dT sT:TypeId)(Li:o.op=Op.call {callee:=Callee.builtin Builtin.append,args:= #[d,x],argTypes:= #[dT,sT]})
 (v u:Value)(hd:a.eval d=v)(hx:a.eval x=u){v':Value}{w':World}(hr:(Builtin.append_ #[dT,sT] o.type #[v,u]).run P w=.ok v' w')(hK:K (a.put o.dst v') w'):
 if Region.wanted o (yielded ops a.tmps)=true then Oper.wp P o a w K Q else E:=by
 have hw:Region.wanted o (yielded ops a.tmps)=true:=by simp[Region.wanted,hg]
 rw[if_pos hw];unfold Oper.wp;simp[execOp,Li,resolve,invoke,builtin,hd,hx,hr,Result.andThen];exact hK
theorem del_any(base:Nat)(xs:Parts)(w:World)(hl:xs.length<=100000)(v:Value)(ae:OwnS w base 62 3 zaa v xs)(i:Nat)(hi:i<xs.length):
 Calls Tryz.prog 124 #[v,.int .i64 i,.int .i64 (i+1:Nat)] w (zfh w base v (xs.take i++xs.drop (i+1))):=by
 rcases ae with⟨rfl,rfl⟩|⟨g,o,c,cur,rfl,km,hg,hc,ko,bj,hx⟩
 ·simp at hi
 have mixed:Tryz.prog.follows .mixedOrders=true:=Mcn;obtain⟨i0,z,fk,AG,cZ,AH,uy⟩:=zdQ.hi;have hsz:(Tryz.prog.info? 62).map (·.size)=some 3:=by rw[fk];simp[cZ]
 have bA:((xs.drop (i+1)).flatMap zaa).length=(xs.length-(i+1))*3:=Med;have bi:∀j,j<c*3->(w.cell? ⟨g,o+j,none⟩).isSome=true:=fun j hj=>by simp[World.cell?,hg];omega
 have cL:((xs.take (i+1)).flatMap zaa).length=(i+1)*3:=Mc4;have cT:xs.flatMap zaa=(xs.take (i+1)).flatMap zaa++(xs.drop (i+1)).flatMap zaa:=Mdd;have nD:∀(A:Addr),(i+1<xs.length->A=⟨g,o+(i+1)*3,none⟩)->∀ty cc,(Builtin.append_ #[26,26] ty #[.slice (some ⟨g,o,none⟩) i c,.slice (some A) (xs.length-(i+1)) cc]).run Tryz.prog w.drew=.ok (.slice (some ⟨g,o,none⟩) (i+(xs.length-(i+1))) c) (w.drew.setCells g (o+i*3) ((xs.drop (i+1)).flatMap zaa)):=fun A hA ty cc=>by
  have:=run_append_room_cells (P:=Tryz.prog) w.drew 26 ty 62 i0 Tryz.underlying26 fk g o i c A (xs.length-(i+1)) cc ((xs.drop (i+1)).flatMap zaa) (by rw[bA,cZ])
   (fun j u hj=>by
     have cW:=(List.getElem?_eq_some_iff.1 hj).1;rw[hA Mcm,Addr.add_lit];have e:(xs.flatMap zaa)[(i+1)*3+j]?=some u:=by rw[cT,List.getElem?_append_right Mcm,cL,Nat.add_sub_cancel_left];exact hj
     have:=hx _ _ e;show w.cell? _=_;simp only[World.cell?,hg,Nat.add_assoc]
     exact this) (zis _) Mcm (fun j hj=>by rw[cZ];rw[bA]at hj;show(w.cell? _).isSome=_;rw[Nat.add_assoc];exact bi _ Mcm) (fun j hj=>by show w.frozen? _=_;simp[World.frozen?,hg])
  rw[cZ]at this;exact this
 have aQ:i+(xs.length-(i+1))=xs.length-1:=Mcm;rw[aQ]at nD;obtain⟨cur1,k1,k2,k3,k4⟩:=zbN g ((xs.drop (i+1)).flatMap zaa) (o+i*3) w.drew cur hg (by rw[bA];omega);have bN:=zbJ g ((xs.drop (i+1)).flatMap zaa) (o+i*3) w.drew;obtain⟨W1,aI⟩:∃W1,W1=w.drew.setCells g (o+i*3) ((xs.drop (i+1)).flatMap zaa):=⟨_,rfl⟩
 rw[<-aI]at nD k1 bN;have D9:∀ty cc,(Builtin.clear_ #[26] ty #[.slice (some ⟨g,o+(xs.length-1)*3,none⟩) (xs.length-(xs.length-1)) cc]).run Tryz.prog W1=.ok (.tuple #[]) (W1.setCells g (o+(xs.length-1)*3) (Builtin.zeroCells (Value.agg #[.string ⟨#[]⟩,.int .i64 0,.int .i64 0]).cells (xs.length-(xs.length-1))).toList):=fun ty cc=>
  zoz W1 26 62 ty (.agg #[.string ⟨#[]⟩,.int .i64 0,.int .i64 0]) Tryz.underlying26 Tryz.zeroValue62 (by simp[Value.cells,Value.oneCell']) (by simp[Value.cells]) g _ _ cc Mcm
   (fun j hj=>by simp[Value.cells]at hj;simp[World.cell?,k1,k2];omega) (fun j hj=>by simp[World.frozen?,k1])
 have HF:Hid (zfh w base (.slice (some ⟨g,o,none⟩) xs.length c) (xs.take i++xs.drop (i+1)) (.returned (.slice (some ⟨g,o,none⟩) (xs.length-1) c)) (W1.setCells g (o+(xs.length-1)*3) (Builtin.zeroCells (Value.agg #[.string ⟨#[]⟩,.int .i64 0,.int .i64 0]).cells (xs.length-(xs.length-1))).toList)):=by
  have ta:w.grownBy W1 (some g):=⟨bN.os,bN.tape,bN.output,bN.size,bN.block⟩
  have pg:(Builtin.zeroCells (Value.agg #[.string ⟨#[]⟩,.int .i64 0,.int .i64 0]).cells (xs.length-(xs.length-1))).toList.length=3:=by
   rw[Array.length_toList,zeh];simp[Value.cells];omega
  obtain⟨cur2,l1,l2,l3,l4⟩:=zbN g _ (o+(xs.length-1)*3) W1 cur1 k1 (by rw[pg,k2];omega);have ag:(xs.take i++xs.drop (i+1)).length=xs.length-1:=Mcr;refine⟨_,rfl,.inr ⟨g,o,c,cur2,by rw[ag],km,l1,by rw[ag];omega,ko,by rw[l2,k2];exact bj,fun j u hj=>?_⟩,zbo ta (zbJ _ _ _ _),fun g' h=> .inl h⟩;have cW:=(List.getElem?_eq_some_iff.1 hj).1;rw[zet,ag]at cW;rw[l3 _ (.inl Mcm)];have Lv:((xs.take i).flatMap zaa).length=i*3:=Mc4;rw[List.flatMap_append]at hj;by_cases cz:j<i*3
  ·rw[List.getElem?_append_left Mcm]at hj;rw[k3 _ (.inl Mcm)];refine hx j u ?_;exact MaG
  ·rw[List.getElem?_append_right Mcm,Lv]at hj;have:=k4 _ u hj;rwa [show o+i*3+(j-i*3)=o+j by omega]at this
 have aU:(i:Int)+1<=(xs.length:Int):=Mcm;have b8:(0:Int)<=(i:Int):=Mcm;have bF:¬((i:Int)=(i:Int)+1):=Mcm;have aC:(xs.length:Int)<=(c:Int):=Mcm;have aD:(i:Int)<=(c:Int):=Mcm;have aq:¬(c=xs.length-1):=Mcm;have aG:((xs.length-1:Nat):Int)<=(xs.length:Int):=Mcm;have aR:(0:Int)<=(i:Int)+1:=Mcm;have fK:((i:Int)+1).toNat=i+1:=Mcm;clear aI k1 k2 k3 k4 bN bi hx bA cL cT hg aQ;go_enter Tryz.func124,Tryz.ntmps124
 by_cases hlast:c=i+1
 ·clear aC aD aq aG aU hl;generalize hm:xs.length=m at*;obtain rfl:m=i+1:=by omega
  subst hlast;clear hm hc hi;have cY:(i:Int)<=(i:Int)+1:=Mcm;simp only[Nat.add_sub_cancel,Nat.add_sub_cancel_left,Nat.sub_self]at nD D9 HF;go_wp2_with fail
  go_region_law_o (go_loud(refine zeQ rfl _ _ 26 26 rfl _ (.slice (some ⟨g,o,none⟩) 0 0) Mdc (by simp[Act.eval,Act.put]) (nD _ (fun h=>absurd h Mcm) _ _) ?_))
  go_wp2_with fail
  go_ret
  exact HF.o
 ·go_wp2_with fail
  go_region_law_o (go_loud(refine zeQ rfl _ _ 26 26 rfl _ _ Mdc Mdc (nD _ (fun _=>rfl) _ _) ?_))
  go_wp2_with fail
  go_ret
  exact HF.o
theorem ins_any(base:Nat)(xs:Parts)(p:ByteArray×Rat)(vb:Nat)(w:World)(hl:xs.length<=100000)(dw:w.heap[vb]?=some (.cells #[.string p.1,.int .i64 p.2.num,.int .i64 p.2.den] 62))(aM:base<=w.heap.size)(v:Value)
 (ae:OwnS w base 62 3 zaa v xs)(ai:za7 v≠some vb)(i:Nat)(hi:i<=xs.length):
 Calls Tryz.prog 125 #[v,.int .i64 i,.slice (some ⟨vb,0,none⟩) 1 1] w (zfh w base v (xs.take i++p::xs.drop i)):=by
 by_cases he:i=xs.length
 ·subst he;rw[List.take_of_length_le (Nat.le_refl _),List.drop_eq_nil_of_le (Nat.le_refl _)];exact zoy base xs p vb w hl dw aM v ae
 ·have aa:i<xs.length:=Mcm;rcases ae with⟨rfl,rfl⟩|⟨g,o,c,cur,rfl,km,hg,hc,ko,bj,hx⟩
  ·simp at aa
  ·by_cases hr:xs.length+1<=c
   ·exact zmA base xs p vb w hl dw aM g o c cur km hg hr ko bj hx i aa (fun e=>ai (by rw[e];rfl))
   ·have e:c=xs.length:=Mcm;subst e;exact zmB base xs p vb w hl dw aM g o cur hg hx i aa
theorem zhF{W:World}{base:Nat}{e t:TypeId}{size:Nat}{f:ByteArray×Rat->List Value}{v:Value}{xs:Parts}{T:Nat}{cs:Array Value}{fr:Nat×Nat}(h:OwnS W base e size f v xs)(hT:W.heap[T]?=some (.cells cs t fr))(ai:t≠e):za7 v≠some T:=by
 exact M3
def zko(w:World)(base T:Nat)(pl:ByteArray)(cl fr en:Int)(dv v:Value)(ys:Parts)(e:Ending)(w':World):Prop:=
 e=.returned (.tuple #[])/\∃v',zbz w' T pl cl fr en v' dv/\OwnS w' base 62 3 zaa v' ys/\Below base w w'/\∀k,k<w.heap.size->k≠T->za7 v≠some k->w'.heap[k]?=w.heap[k]?
theorem numZ(q:Rat):(q==0)=(q.num==0):=by
 rw[Bool.eq_iff_iff,beq_iff_eq,beq_iff_eq,Rat.num_eq_zero]
theorem set_at{P Q:Parts}{nm:ByteArray}{q:Rat}(hP:∀p∈P,zbq p.1 nm=true)(hQ:∀p∈Q,zbq p.1 nm=false):
 setP (P++Q) nm q=if q.num==0 then(if zdP Q nm then P++Q.drop 1 else P++Q)else if zdP Q nm then P++(nm,q)::Q.drop 1 else P++(nm,q)::Q:=by
 rw[zeq hP,<-numZ];cases Q with
 |nil=>simp[setP,zdP];split<;>simp
 |cons b Q=>
  rw[setP,hQ b Mcp];simp only[zdP,Bool.false_eq_true,if_false,List.drop_succ_cons,List.drop_zero];split<;>split<;>simp_all
theorem zgu{W:World}{T:Nat}{pl:ByteArray}{cl fr en:Int}{v dv:Value}(h:zbz W T pl cl fr en v dv)(v':Value):zbz (W.setCell ⟨T,4,none⟩ v') T pl cl fr en v' dv:=by
 unfold zbz at*;have:=Joins.block_setCell (i:=4) h v';simpa using this
theorem own_set2{W:World}{base g o n c:Nat}{P Q:Parts}{b:ByteArray×Rat}{q:Rat}(h:OwnS W base 62 3 zaa (.slice (some ⟨g,o,none⟩) n c) (P++b::Q)):
 OwnS ((W.setCell ⟨g,o+P.length*3+1,none⟩ (.int .i64 q.num)).setCell ⟨g,o+P.length*3+1+1,none⟩ (.int .i64 q.den)) base 62 3 zaa (.slice (some ⟨g,o,none⟩) n c) (P++(b.1,q)::Q):=by
 rcases h with⟨h,_⟩|⟨g',o',c',cur,h,hb,hg,hc,hm,hs,hx⟩
 ·cases h
 ·simp only[Value.slice.injEq,Option.some.injEq,Addr.mk.injEq,and_true]at h;obtain⟨⟨rfl,rfl⟩,rfl,rfl⟩:=h;refine .inr ⟨g,o,c,(cur.setIfInBounds (o+P.length*3+1) (.int .i64 q.num)).setIfInBounds (o+P.length*3+1+1) (.int .i64 q.den),by simp,hb,heap_setCell_same _ g _ _ _ _ (heap_setCell_same W g _ cur _ _ hg),by simpa using hc,hm,by simpa using hs,fun j u hj=>?_⟩;have hl:(P.flatMap zaa).length=P.length*3:=zet P;have cW:=(List.getElem?_eq_some_iff.1 hj).1;rw[zet]at cW;simp only[List.length_append,List.length_cons]at cW hc;rw[List.flatMap_append,List.flatMap_cons]at hj;by_cases h1:j<P.length*3
  ·rw[List.getElem?_append_left Mcm]at hj;rw[Array.getElem?_setIfInBounds_ne Mcm,Array.getElem?_setIfInBounds_ne Mcm];refine hx j u ?_;rw[List.flatMap_append,List.getElem?_append_left Mcm];exact hj
  ·rw[List.getElem?_append_right Mcm,hl]at hj;by_cases h2:j-P.length*3<3
   ·rw[List.getElem?_append_left (by rw[zan];exact h2)]at hj;obtain h3|h3|h3:j-P.length*3=0\/j-P.length*3=1\/j-P.length*3=2:=by omega
    ·rw[h3]at hj;rw[Array.getElem?_setIfInBounds_ne Mcm,Array.getElem?_setIfInBounds_ne Mcm];refine hx j u ?_;rw[List.flatMap_append,List.flatMap_cons,List.getElem?_append_right Mcm,hl,List.getElem?_append_left (by rw[zan];exact h2),h3];exact hj
    ·rw[h3]at hj;rw[Array.getElem?_setIfInBounds_ne Mcm,show o+j=o+P.length*3+1 by omega,Array.getElem?_setIfInBounds_self_of_lt Mcm];simpa[zaa]using hj
    ·rw[h3]at hj;rw[show o+j=o+P.length*3+1+1 by omega,Array.getElem?_setIfInBounds_self_of_lt Mcr];simpa[zaa]using hj
   ·rw[List.getElem?_append_right Meb,zan]at hj;rw[Array.getElem?_setIfInBounds_ne Mcm,Array.getElem?_setIfInBounds_ne Mcm];refine hx j u ?_;rw[List.flatMap_append,List.flatMap_cons,List.getElem?_append_right Mcm,hl,List.getElem?_append_right Meb,zan];exact hj
theorem zit(base T:Nat)(xs:Parts)(v:Value)(pl:ByteArray)(cl fr en:Int)(dv:Value)(nm:ByteArray)(q:Rat)(w:World)(hT:zbz w T pl cl fr en v dv)(rY:base<=T)(ae:OwnS w base 62 3 zaa v xs)(hA:AscP xs)(hl:xs.length<=90000):
 Calls Tryz.prog 86 #[.pointer (some ⟨T,0,none⟩),.string nm,.agg #[.int .i64 q.num,.int .i64 q.den]] w (zko w base T pl cl fr en dv v (setP xs nm q)):=by
 unfold zbz at hT;have aa:T<w.heap.size:=zab hT;have Ag:base<=w.heap.size:=Mcm;have zZ:za7 v≠some T:=zhF ae hT Mco;have dg:=ae.ge;obtain⟨A,c,Hi,hS,hc⟩:=ae.sl zan;have iS:w.cell? ⟨T,4,none⟩=some v:=by simp[World.cell?,hT]
 have KC:w.frozen? ⟨T,4,none⟩=false:=by simp[World.frozen?,hT]
 have ai:T≠w.heap.size:=Mcm;obtain⟨HO,HS,HA,HV,HT⟩:=yH5 ae hS hA Hi hT;clear hS hA ae Hi hT;go_enter Tryz.func86,Tryz.ntmps86
 go_upto_region 3 with(go_at_call 123;refine(znN xs A c T nm _ (by rw[<-HV.o];simp[go_sem,aa,iS]) Mcm HA.o (HS.o.keep (n:=w.heap.size) Bw)).mono ?_;rintro e wq ⟨P,Q,bu,hP,hQ,rfl,z,rfl⟩;subst bu)
 have iI:=set_at (q:=q) hP hQ;have fZ:=zHi iI;clear iI hP hQ;generalize hh:zdP Q nm=ok at*;have HH:=zHi hh;clear hh;obtain⟨W,hW⟩:∃W,W=(w.alloc (.cells #[.int .i64 q.num,.int .i64 q.den] 56)).ext z:=⟨_,rfl⟩
 have eO:Below w.heap.size w W:=by rw[hW];exact Bw
 have q0:W.cell? ⟨w.heap.size,0,none⟩=some (.int .i64 q.num):=by rw[hW];simp[go_sem]
 have q1:W.cell? ⟨w.heap.size,1,none⟩=some (.int .i64 q.den):=by rw[hW];simp[go_sem]
 have rM:zbz W T pl cl fr en v dv:=(eO.block T aa).trans HT.o;have hWs:w.heap.size<W.heap.size:=by rw[hW];simp[zaf];omega
 have wh:=zHi (HO.o.keep (n:=w.heap.size) eO);have wD:T<W.heap.size:=zab rM;rw[<-hW];clear hW;have c4:W.cell? ⟨T,4,none⟩=some v:=by unfold zbz at rM;simp[World.cell?,rM]
 have f4:W.frozen? ⟨T,4,none⟩=false:=by unfold zbz at rM;simp[World.frozen?,rM]
 have r9:=zHi rM;clear rM iS KC ai;have fG:P.length<=(P++Q).length:=Mcp;have HB:Hid (∀w1,W.grownBy w1 (za7 v)->Below base w w1/\w1.heap[T]?=W.heap[T]?):=fun w1 h2=>⟨Below.grown (eO.mono Ag) h2 (Nat.le_trans Ag eO.size) (fun j hj=>(dg j hj).1),h2.block T wD (fun e=>zZ e.symm)⟩
 have uR:Hid (∀w1 v' ys,W.grownBy w1 (za7 v)->OwnS w1 base 62 3 zaa v' ys->(∀g,za7 v'=some g->za7 v=some g\/W.heap.size<=g)->setP (P++Q) nm q=ys->zko w base T pl cl fr en dv v (setP (P++Q) nm q) (.returned (.tuple #[])) (w1.setCell ⟨T,4,none⟩ v')):=fun w1 v' ys h2 h1 h3 hs=>by
  obtain⟨aU,uo⟩:=HB.o w1 h2;have jH:za7 v'≠some T:=fun e=>by
   rcases h3 T e with h|h
   ·exact zZ h
   ·omega
  rw[hs];refine⟨rfl,v',zgu (uo.trans r9.o) v',h1.grown (zar _ _ _ _) (.inr jH),zaL aU rY _,fun k hk Au oN=>?_⟩;have Gr:k<W.heap.size:=Nat.lt_of_lt_of_le hk eO.size;rw[(zar w1 T 4 v').block k (Nat.lt_of_lt_of_le Gr h2.size) (fun e=>Au MdN),h2.block k Gr (fun e=>oN e.symm),eO.block k hk]
 cases hq:(q.num==0)
 ·have HQ:=zHi hq;have gT:¬q.num=0:=by simpa using hq
  clear hq;cases ok
  ·
   have vA:Hid (setP (P++Q) nm q=(P++Q).take P.length++(nm,q)::(P++Q).drop P.length):=by
    show _=_;rw[fZ.o,HQ.o,List.take_left,List.drop_left];simp
   have ez:Hid (((P++Q).take P.length++(nm,q)::(P++Q).drop P.length).length=P.length+(Q.length+1)):=by show _=_;simp
   go_upto_region 2 with fail
   go_region_law (go_simp;go_at_call 125
                  refine(ins_any base (P++Q) (nm,q) W.heap.size _ Mcm ?q1 ?q2 v ?q3 ?q4 P.length Mcm).mono ?_
                  case q1=>(first|exact zas _ _ _ rfl|(refine J_drew ?_;exact zas _ _ _ rfl))
                  case q2=>simp;omega
                  case q3=>exact wh.o.keep (n:=W.heap.size) Bw
                  case q4=>(intro e;have:=(dg _ e).2;omega)
                  rintro e w1 ⟨v',rfl,h1,h2,h3⟩;obtain⟨A',c',jH,_,_⟩:=h1.sl zan;rw[ez.o]at jH;subst jH;have t1:=(h2.block T Mcr (fun e=>zZ e.symm)).trans (show _=some (Obj.cells #[.string pl,.int .i64 cl,.int .i64 fr,.int .i64 en,v,dv] 84 (0,0)) from(Below.heap_alloc _ _ _ wD).trans r9.o);have k1:w1.cell? ⟨T,4,none⟩=some v:=by simp[World.cell?,t1]
                  have k2:w1.frozen? ⟨T,4,none⟩=false:=by simp[World.frozen?,t1])
   all_goals go_wp2_with fail
   all_goals go_end0
   all_goals exact uR.o w1 _ _ (zbo (World.grownBy_alloc W _ _) ⟨h2.os,h2.tape,h2.output,h2.size,h2.block⟩) h1 (fun g hg=>(h3 g hg).imp id (fun h=>by simp at h;omega)) vA.o
  ·
   cases Q with
   |nil=>have:=HH.o;simp[zdP]at this
   |cons b Q=>
    have hJ:b.1=nm:=za2.1 HH.o;rcases wh.o with⟨_,h'⟩|⟨g,o,cap,cur,hv,hb,hg,bk,ko,bj,hx⟩
    ·simp at h'
    subst hv;have hl:(P.flatMap zaa).length=P.length*3:=zet P;have gZ:∀j u,(zaa b)[j]?=some u->cur[o+P.length*3+j]?=some u:=fun j u hj=>by
     have:=hx (P.length*3+j) u (by rw[List.flatMap_append,List.flatMap_cons,List.getElem?_append_right Mcm,hl,Nat.add_sub_cancel_left,List.getElem?_append_left (List.getElem?_eq_some_iff.1 hj).1];exact hj);rwa [<-Nat.add_assoc]at this
    have k1:W.cell? ⟨g,o+P.length*3+1,none⟩=some (.int .i64 b.2.num):=by simp only[World.cell?,hg];exact gZ 1 _ rfl
    have k2:W.cell? ⟨g,o+P.length*3+1+1,none⟩=some (.int .i64 b.2.den):=by simp only[World.cell?,hg];exact gZ 2 _ rfl
    have k3:W.frozen? ⟨g,o+P.length*3+1,none⟩=false:=by simp[World.frozen?,hg]
    have k4:W.frozen? ⟨g,o+P.length*3+1+1,none⟩=false:=by simp[World.frozen?,hg]
    have Gh:T≠g:=fun e=>zZ (by rw[e];rfl)
    have iU:g≠w.heap.size:=by have:=(dg g rfl).2;omega
    have uc:(P.length:Int)<((P++b::Q).length:Int):=Mcr;have fk:(0:Int)<=(P.length:Int):=Mcm;have vA:Hid (setP (P++b::Q) nm q=P++(b.1,q)::Q):=by
     show _=_;rw[fZ.o,HQ.o,hJ];simp
    clear hx gZ hg;go_upto_region 7 with fail
    go_region
    all_goals go_wp2_with fail
    all_goals go_end0
    all_goals exact⟨rfl,_,(J_ne Gh (J_ne Gh r9.o):_),by rw[vA.o];exact own_set2 wh.o,by have hBb:=eO.mono Ag;exact Bw,fun k hk Au oN=>((zbo (zar W g _ _) (zar _ g _ _)).block k (Nat.lt_of_lt_of_le hk eO.size) (fun e=>oN (by rw[e];rfl))).trans (eO.block k hk)⟩
 ·have HQ:=zHi hq;have gT:q.num=0:=by simpa using hq
  clear hq;cases ok
  ·
   go_wp2_with fail
   go_end0
   exact⟨rfl,v,r9.o,by rw[fZ.o,HQ.o];exact wh.o,eO.mono Ag,fun k hk _ _=>eO.block k hk⟩
  ·
   have br:P.length<(P++Q).length:=by
    cases Q with
    |nil=>have:=HH.o;simp[zdP]at this
    |cons b Q=>simp
   have vA:Hid (setP (P++Q) nm q=(P++Q).take P.length++(P++Q).drop (P.length+1)):=by
    show _=_;rw[fZ.o,HQ.o,List.take_left,List.drop_append];simp
   have ez:Hid (((P++Q).take P.length++(P++Q).drop (P.length+1)).length=P.length+(Q.length-1)):=by show _=_;simp
   have xb:=del_any base (P++Q) W Mcm v wh.o P.length br;rw[show((P.length+1:Nat):Int)=(P.length:Int)+1 by omega]at xb;have jI:IntKind.i64.wrap ((P.length:Int)+1)=(P.length:Int)+1:=McZ;go_wp2_with (go_at_call 124;go_loud(refine xb.mono ?_;rintro e w1 ⟨v',rfl,h1,h2,h3⟩;obtain⟨A',c',jH,_,_⟩:=h1.sl zan;rw[ez.o]at jH;subst jH;have t1:w1.heap[T]?=some (Obj.cells #[.string pl,.int .i64 cl,.int .i64 fr,.int .i64 en,v,dv] 84 (0,0)):=(HB.o w1 h2).2.trans r9.o;have k1:w1.cell? ⟨T,4,none⟩=some v:=(by simp[World.cell?,t1]);have k2:w1.frozen? ⟨T,4,none⟩=false:=(by simp[World.frozen?,t1])))
   go_end0
   exact uR.o w1 _ _ h2 h1 h3 vA.o

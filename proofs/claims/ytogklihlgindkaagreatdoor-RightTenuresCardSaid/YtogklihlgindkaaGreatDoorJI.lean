import Derived.Test.YtogklihlgindkaaGreatDoorJ6
import Derived.Test.YtogklihlgindkaaGreatDoorO3
import Derived.Shelf.Spec.SlicesInsertGrow
set_option linter.all false
set_option maxRecDepth 100000
set_option maxHeartbeats 4000000
namespace Go.Proofs.YtogklihlgindkaaGreatDoor
open Go.RowKit
attribute [local go_sem] World.cell?_alloc_mark zaf za3 zam za6 zat zau zav zaw zax zay zaz
attribute [local go_sem] zao zac
def FormsIn(w:World):Prop:=0<w.heap.size/\∀k (f:Form),zfK[k]?=some f->∀j u,f.cells[j]?=some u->w.cell? ⟨0,k*8+j,none⟩=some u
variable{w:World}
def FormsIn.keep{W:World}{n:Nat}(h:FormsIn w)(hB:Below n w W)(hn:w.heap.size<=n:=by first|exact Qc|omega):FormsIn W:=
 ⟨Nat.lt_of_lt_of_le h.1 hB.size,λk f hf j u hu=>(hB.cell (p:=⟨0,_,none⟩) (Nat.lt_of_lt_of_le h.1 hn)).trans (h.2 k f hf j u hu)⟩
def zdQ(d:Deed):Prop:=d.place.size<=100000/\d.frm.size<=100000/\(∀p∈d.to,p.name.size<=100000)/\d.to.length<=100000
def zdp(d:Deed):Int:=
 if !inR d.kind 0 8 then 15 else
 if !zba d.day||!inR d.cls 0 4||!inR d.years 0 99 then 2 else
 if decide (8<d.to.length)then 8 else
 if !zb0 d.place||!zb0 d.frm||d.to.any (λp=>!zaU p.name)then 4 else
 let f:=zfK.getD d.kind.toNat ⟨⟨#[]⟩,false,false,false,false,false,false,false⟩
 if(f.place != !noB d.place||f.frm != !noB d.frm)||(!f.cls&&d.cls != 0)||(!f.years&&d.years != 0)then 3 else
 if d.years==0&&(d.kind==3||(d.kind==0&&d.cls==2))then 3 else
 if !zhy f d.frm d.to then 3 else 0
def cdc_any(q:RPart)(W:World)(hs:q.name.size<=100000):
 Calls Tryz.prog 75 #[.agg #[.string q.name,.int .i64 q.num,.int .i64 q.den]] W (Ret W (.bool (!zaU q.name))):=by
 go_enter Tryz.func75,Tryz.ntmps75
 exact MaH
def zgo(xs:List RPart)(w:World)(hs:∀p∈xs,p.name.size<=100000):
 zeY 75 #[] (λx=> .agg (RPart.cells x).toArray) (λq=>!zaU q.name) xs w:=λx hx W hW=>by
 refine(cdc_any x W (hs x hx)).mono ?_;exact Mbk
def zj1(d:Deed)(B:Option Addr)(c:Nat)(w:World)(hF:FormsIn w)(hO:zdQ d)(aA:d.to.length<=c)(hS:Sl w 3 RPart.cells B d.to):
 Calls Tryz.prog 47 #[.agg #[.int .i64 d.kind,.int .i64 d.day,.string d.place,.string d.frm,.slice B d.to.length c,.int .i64 d.cls,.int .i64 d.years]] w (Ret w (.int .i64 (zdp d))):=by
 obtain⟨kd,dy,pl,fr,ps,cl,yr⟩:=d;obtain⟨o1,o2,o3,o4⟩:=hO;simp only at*;have eg:∀args w,(callFunc 75 args).run Tryz.prog w=.ok (.enter 75 args) w:=enters_of Tryz.func75 McT rfl;obtain⟨HS,HC,HN,HL⟩:=yH4 hS aA o3 o4;clear hS aA o3 o4;generalize hR:zdp ⟨kd,dy,pl,fr,ps,cl,yr⟩=R;have HR:=zHi hR;clear hR;go_enter Tryz.func47,Tryz.ntmps47
 by_cases hk:inR kd 0 8=true
 ·obtain⟨k,rfl,iR⟩:∃k:Nat,kd=k/\k<9:=by
   simp[inR]at hk;exact⟨kd.toNat,by omega,by omega⟩
  have ae:k<zfK.length:=iR;have aY:=hF.2 k _ (List.getElem?_eq_getElem ae);have eQ:0<w.heap.size:=hF.1;have hf:zfK.getD ((k:Int).toNat) ⟨⟨#[]⟩,false,false,false,false,false,false,false⟩=zfK[k]:=by
   rw[List.getD_eq_getElem?_getD,Int.toNat_natCast,List.getElem?_eq_getElem ae];rfl
  generalize zfK[k]=f at aY hf;obtain⟨word,fp,ff,fc,fy,fa,fpt,fs⟩:=f;have f0:w.cell? ⟨0,k*8,none⟩=some (.string word):=aY 0 _ rfl;have f1:w.cell? ⟨0,k*8+1,none⟩=some (.bool fp):=aY 1 _ rfl;have f2:w.cell? ⟨0,k*8+2,none⟩=some (.bool ff):=aY 2 _ rfl;have f3:w.cell? ⟨0,k*8+3,none⟩=some (.bool fc):=aY 3 _ rfl;have f4:w.cell? ⟨0,k*8+4,none⟩=some (.bool fy):=aY 4 _ rfl;have f5:w.cell? ⟨0,k*8+5,none⟩=some (.bool fa):=aY 5 _ rfl;have f6:w.cell? ⟨0,k*8+6,none⟩=some (.bool fpt):=aY 6 _ rfl;have f7:w.cell? ⟨0,k*8+7,none⟩=some (.bool fs):=aY 7 _ rfl;have nN:=zHi hf;clear aY hF hf;have k0:(0:Int)<=(k:Int):=McS;have k9:(k:Int)<9:=McS;go_upto_region 3 with(go_at_call 51;refine(zbj _ _ _ _).mono ?_;rintro e wq ⟨rfl,rfl⟩;rw[hk])
  go_upto_region 7 with(first
                         |(go_at_call 51;refine(zbj _ _ _ _).mono ?_;intro e wq hq;rcases Ret0.bools hq with⟨rfl,⟨hb,rfl⟩|⟨hb,rfl⟩⟩<;>clear hq)
                         |(go_at_call 22;refine(zc7 _ _).mono ?_;intro e wq hq;rcases Ret0.bools hq with⟨rfl,⟨hb,rfl⟩|⟨hb,rfl⟩⟩<;>clear hq)
                         |(go_at_call 44;refine(zbZ _ _ Mds).mono ?_;intro e wq hq;rcases Ret0.bools hq with⟨rfl,⟨hb,rfl⟩|⟨hb,rfl⟩⟩<;>clear hq)
                         |(go_at_call 60;refine(zcS _ _ eg (λq:RPart=>!zaU q.name) _ _ _ ps _ rfl HL.o (HS.o.keep (n:=w.heap.size) Bw) (zgo ps _ HN.o)).mono ?_;intro e wq hq;rcases Ret.bools hq with⟨zq,rfl,⟨hb,rfl⟩|⟨hb,rfl⟩⟩<;>clear hq)
                         |(go_at_call 76;refine(zd8 ⟨word,fp,ff,fc,fy,fa,fpt,fs⟩ _ _ _ _ _ _ ps _ _ _ _ rfl McS HC.o (HS.o.keep (n:=w.heap.size) Bw)).mono ?_;intro e wq hq;rcases Ret.bools hq with⟨zq,rfl,⟨hb,rfl⟩|⟨hb,rfl⟩⟩<;>clear hq))
  all_goals(try(go_ret;exact Ret.of (zb7 MdB) Bw))
  go_cut [31]from 4 (λv wc=>v=.bool (!zb0 pl)/\Qa w wc/\w.heap.size+1<=wc.heap.size/\wc.heap[w.heap.size]?=some (.cells #[.int .i64 (k:Int),.int .i64 dy,.string pl,.string fr,.slice B ps.length c,.int .i64 cl,.int .i64 yr] 60))
  case first=>
   go_wp2_with (first
                 |(go_at_call 51;refine(zbj _ _ _ _).mono ?_;intro e wq hq;rcases Ret0.bools hq with⟨rfl,⟨hb,rfl⟩|⟨hb,rfl⟩⟩<;>clear hq)
                 |(go_at_call 22;refine(zc7 _ _).mono ?_;intro e wq hq;rcases Ret0.bools hq with⟨rfl,⟨hb,rfl⟩|⟨hb,rfl⟩⟩<;>clear hq)
                 |(go_at_call 44;refine(zbZ _ _ Mds).mono ?_;intro e wq hq;rcases Ret0.bools hq with⟨rfl,⟨hb,rfl⟩|⟨hb,rfl⟩⟩<;>clear hq)
                 |(go_at_call 60;refine(zcS _ _ eg (λq:RPart=>!zaU q.name) _ _ _ ps _ rfl HL.o (HS.o.keep (n:=w.heap.size) Bw) (zgo ps _ HN.o)).mono ?_;intro e wq hq;rcases Ret.bools hq with⟨zq,rfl,⟨hb,rfl⟩|⟨hb,rfl⟩⟩<;>clear hq)
                 |(go_at_call 76;refine(zd8 ⟨word,fp,ff,fc,fy,fa,fpt,fs⟩ _ _ _ _ _ _ ps _ _ _ _ rfl McS HC.o (HS.o.keep (n:=w.heap.size) Bw)).mono ?_;intro e wq hq;rcases Ret.bools hq with⟨zq,rfl,⟨hb,rfl⟩|⟨hb,rfl⟩⟩<;>clear hq))
   all_goals go_meet
   all_goals(refine⟨zaT (by first|exact hb.symm|simp[zb0,noB, *]),Bw,by first|omega|(simp[zaf];done)|(simp[zaf];omega),?_⟩;exact zas _ _ _ rfl)
  case rest=>
   obtain⟨rfl,hB,hsz,g0⟩:=hcut;have d0:wc.cell? ⟨w.heap.size,0,none⟩=some (.int .i64 (k:Int)):=McW;have d1:wc.cell? ⟨w.heap.size,1,none⟩=some (.int .i64 dy):=McW;have d2:wc.cell? ⟨w.heap.size,2,none⟩=some (.string pl):=McW;have d3:wc.cell? ⟨w.heap.size,3,none⟩=some (.string fr):=McW;have d4:wc.cell? ⟨w.heap.size,4,none⟩=some (.slice B ps.length c):=McW;have d5:wc.cell? ⟨w.heap.size,5,none⟩=some (.int .i64 cl):=McW;have d6:wc.cell? ⟨w.heap.size,6,none⟩=some (.int .i64 yr):=McW;have e0:w.heap.size<wc.heap.size:=McS;have e1:w.heap.size≠wc.heap.size:=McS;cases cu:zb0 pl
   ·exact Maq
   ·go_upto_region 8 with fail
    go_cut [31]from 4 (λv wc=>v=.bool (!zb0 fr)/\Qa w wc/\w.heap.size+1<=wc.heap.size/\wc.heap[w.heap.size]?=some (.cells #[.int .i64 (k:Int),.int .i64 dy,.string pl,.string fr,.slice B ps.length c,.int .i64 cl,.int .i64 yr] 60))
    case first=>
     exact MC
    case rest=>
     obtain⟨rfl,hB,hsz,g0⟩:=hcut;have d0:wc.cell? ⟨w.heap.size,0,none⟩=some (.int .i64 (k:Int)):=McW;have d1:wc.cell? ⟨w.heap.size,1,none⟩=some (.int .i64 dy):=McW;have d2:wc.cell? ⟨w.heap.size,2,none⟩=some (.string pl):=McW;have d3:wc.cell? ⟨w.heap.size,3,none⟩=some (.string fr):=McW;have d4:wc.cell? ⟨w.heap.size,4,none⟩=some (.slice B ps.length c):=McW;have d5:wc.cell? ⟨w.heap.size,5,none⟩=some (.int .i64 cl):=McW;have d6:wc.cell? ⟨w.heap.size,6,none⟩=some (.int .i64 yr):=McW;have e0:w.heap.size<wc.heap.size:=McS;have e1:w.heap.size≠wc.heap.size:=McS;cases eh:zb0 fr
     ·exact Maq
     ·have h8:¬8<ps.length:=McS;go_upto_region 9 with fail
      go_cut [31]from 4 (λv wc=>v=.bool (ps.any (λp=>!zaU p.name))/\Qa w wc/\w.heap.size+1<=wc.heap.size/\wc.heap[w.heap.size]?=some (.cells #[.int .i64 (k:Int),.int .i64 dy,.string pl,.string fr,.slice B ps.length c,.int .i64 cl,.int .i64 yr] 60))
      case first=>
       exact MC
      case rest=>
       obtain⟨rfl,hB,hsz,g0⟩:=hcut;have d0:wc.cell? ⟨w.heap.size,0,none⟩=some (.int .i64 (k:Int)):=McW;have d1:wc.cell? ⟨w.heap.size,1,none⟩=some (.int .i64 dy):=McW;have d2:wc.cell? ⟨w.heap.size,2,none⟩=some (.string pl):=McW;have d3:wc.cell? ⟨w.heap.size,3,none⟩=some (.string fr):=McW;have d4:wc.cell? ⟨w.heap.size,4,none⟩=some (.slice B ps.length c):=McW;have d5:wc.cell? ⟨w.heap.size,5,none⟩=some (.int .i64 cl):=McW;have d6:wc.cell? ⟨w.heap.size,6,none⟩=some (.int .i64 yr):=McW;have e0:w.heap.size<wc.heap.size:=McS;have e1:w.heap.size≠wc.heap.size:=McS;cases B8:ps.any (λp=>!zaU p.name)
       ·replace f0:=(hB.cell (p:=⟨0,k*8,none⟩) eQ).trans f0;replace f1:=(hB.cell (p:=⟨0,k*8+1,none⟩) eQ).trans f1;replace f2:=(hB.cell (p:=⟨0,k*8+2,none⟩) eQ).trans f2;replace f3:=(hB.cell (p:=⟨0,k*8+3,none⟩) eQ).trans f3;replace f4:=(hB.cell (p:=⟨0,k*8+4,none⟩) eQ).trans f4;replace f5:=(hB.cell (p:=⟨0,k*8+5,none⟩) eQ).trans f5;replace f6:=(hB.cell (p:=⟨0,k*8+6,none⟩) eQ).trans f6;replace f7:=(hB.cell (p:=⟨0,k*8+7,none⟩) eQ).trans f7;obtain⟨q,hq⟩:∃q,wc.heap.size=q:=⟨_,rfl⟩
        have HQ:=zHi hq;have e9:w.heap.size<q:=McS;have e8:w.heap.size≠q:=McS;clear hq;go_upto_region 11 with fail
        go_cut [0,3]from 4 (λv0 v wc=>v=.pointer (some ⟨q,0,none⟩)/\Qa w wc/\q<wc.heap.size/\wc.heap[w.heap.size]?=some (.cells #[.int .i64 (k:Int),.int .i64 dy,.string pl,.string fr,.slice B ps.length c,.int .i64 cl,.int .i64 yr] 60)/\wc.heap[q]?=some (.cells #[.string word,.bool fp,.bool ff,.bool fc,.bool fy,.bool fa,.bool fpt,.bool fs] 137))
        case first=>
         go_wp2_with fail
         all_goals go_meet
         all_goals(exact⟨by rw[HQ.o],Bw,by simp[HQ.o],by repeat(first|assumption|with_reducible refine zal ?_|with_reducible refine zbF ?_|with_reducible refine J_ne McS ?_),zas _ _ _ HQ.o.symm⟩)
        case rest=>
         obtain⟨rfl,hB,hsz,g0,g1⟩:=hcut;have d0:wc.cell? ⟨w.heap.size,0,none⟩=some (.int .i64 (k:Int)):=McW;have d1:wc.cell? ⟨w.heap.size,1,none⟩=some (.int .i64 dy):=McW;have d2:wc.cell? ⟨w.heap.size,2,none⟩=some (.string pl):=McW;have d3:wc.cell? ⟨w.heap.size,3,none⟩=some (.string fr):=McW;have d4:wc.cell? ⟨w.heap.size,4,none⟩=some (.slice B ps.length c):=McW;have d5:wc.cell? ⟨w.heap.size,5,none⟩=some (.int .i64 cl):=McW;have d6:wc.cell? ⟨w.heap.size,6,none⟩=some (.int .i64 yr):=McW;have e0:w.heap.size<wc.heap.size:=McS;have e1:w.heap.size≠wc.heap.size:=McS;have c0:wc.cell? ⟨q,0,none⟩=some (.string word):=McY;have c1:wc.cell? ⟨q,1,none⟩=some (.bool fp):=McY;have c2:wc.cell? ⟨q,2,none⟩=some (.bool ff):=McY;have c3:wc.cell? ⟨q,3,none⟩=some (.bool fc):=McY;have c4:wc.cell? ⟨q,4,none⟩=some (.bool fy):=McY;have c5:wc.cell? ⟨q,5,none⟩=some (.bool fa):=McY;have c6:wc.cell? ⟨q,6,none⟩=some (.bool fpt):=McY;have c7:wc.cell? ⟨q,7,none⟩=some (.bool fs):=McY;have e2:q≠wc.heap.size:=McS;go_upto_region 12 with fail
         go_cut [57]from 4 (λv wc=>v=.bool (fp != !noB pl||ff != !noB fr)/\Qa w wc/\q<wc.heap.size/\wc.heap[w.heap.size]?=some (.cells #[.int .i64 (k:Int),.int .i64 dy,.string pl,.string fr,.slice B ps.length c,.int .i64 cl,.int .i64 yr] 60)/\wc.heap[q]?=some (.cells #[.string word,.bool fp,.bool ff,.bool fc,.bool fy,.bool fa,.bool fpt,.bool fs] 137))
         case first=>
          exact MD
         case rest=>
          obtain⟨rfl,hB,hsz,g0,g1⟩:=hcut;have d0:wc.cell? ⟨w.heap.size,0,none⟩=some (.int .i64 (k:Int)):=McW;have d1:wc.cell? ⟨w.heap.size,1,none⟩=some (.int .i64 dy):=McW;have d2:wc.cell? ⟨w.heap.size,2,none⟩=some (.string pl):=McW;have d3:wc.cell? ⟨w.heap.size,3,none⟩=some (.string fr):=McW;have d4:wc.cell? ⟨w.heap.size,4,none⟩=some (.slice B ps.length c):=McW;have d5:wc.cell? ⟨w.heap.size,5,none⟩=some (.int .i64 cl):=McW;have d6:wc.cell? ⟨w.heap.size,6,none⟩=some (.int .i64 yr):=McW;have e0:w.heap.size<wc.heap.size:=McS;have e1:w.heap.size≠wc.heap.size:=McS;have c0:wc.cell? ⟨q,0,none⟩=some (.string word):=McY;have c1:wc.cell? ⟨q,1,none⟩=some (.bool fp):=McY;have c2:wc.cell? ⟨q,2,none⟩=some (.bool ff):=McY;have c3:wc.cell? ⟨q,3,none⟩=some (.bool fc):=McY;have c4:wc.cell? ⟨q,4,none⟩=some (.bool fy):=McY;have c5:wc.cell? ⟨q,5,none⟩=some (.bool fa):=McY;have c6:wc.cell? ⟨q,6,none⟩=some (.bool fpt):=McY;have c7:wc.cell? ⟨q,7,none⟩=some (.bool fs):=McY;have e2:q≠wc.heap.size:=McS;cases I3:(fp != !noB pl||ff != !noB fr)
          ·go_upto_region 13 with fail
           go_cut [57]from 4 (λv wc=>v=.bool (!fc&&cl != 0)/\Qa w wc/\q<wc.heap.size/\wc.heap[w.heap.size]?=some (.cells #[.int .i64 (k:Int),.int .i64 dy,.string pl,.string fr,.slice B ps.length c,.int .i64 cl,.int .i64 yr] 60)/\wc.heap[q]?=some (.cells #[.string word,.bool fp,.bool ff,.bool fc,.bool fy,.bool fa,.bool fpt,.bool fs] 137))
           case first=>
            exact MD
           case rest=>
            obtain⟨rfl,hB,hsz,g0,g1⟩:=hcut;have d0:wc.cell? ⟨w.heap.size,0,none⟩=some (.int .i64 (k:Int)):=McW;have d1:wc.cell? ⟨w.heap.size,1,none⟩=some (.int .i64 dy):=McW;have d2:wc.cell? ⟨w.heap.size,2,none⟩=some (.string pl):=McW;have d3:wc.cell? ⟨w.heap.size,3,none⟩=some (.string fr):=McW;have d4:wc.cell? ⟨w.heap.size,4,none⟩=some (.slice B ps.length c):=McW;have d5:wc.cell? ⟨w.heap.size,5,none⟩=some (.int .i64 cl):=McW;have d6:wc.cell? ⟨w.heap.size,6,none⟩=some (.int .i64 yr):=McW;have e0:w.heap.size<wc.heap.size:=McS;have e1:w.heap.size≠wc.heap.size:=McS;have c0:wc.cell? ⟨q,0,none⟩=some (.string word):=McY;have c1:wc.cell? ⟨q,1,none⟩=some (.bool fp):=McY;have c2:wc.cell? ⟨q,2,none⟩=some (.bool ff):=McY;have c3:wc.cell? ⟨q,3,none⟩=some (.bool fc):=McY;have c4:wc.cell? ⟨q,4,none⟩=some (.bool fy):=McY;have c5:wc.cell? ⟨q,5,none⟩=some (.bool fa):=McY;have c6:wc.cell? ⟨q,6,none⟩=some (.bool fpt):=McY;have c7:wc.cell? ⟨q,7,none⟩=some (.bool fs):=McY;have e2:q≠wc.heap.size:=McS;cases hn5:(!fc&&cl != 0)
            ·go_upto_region 14 with fail
             go_cut [57]from 4 (λv wc=>v=.bool (!fy&&yr != 0)/\Qa w wc/\q<wc.heap.size/\wc.heap[w.heap.size]?=some (.cells #[.int .i64 (k:Int),.int .i64 dy,.string pl,.string fr,.slice B ps.length c,.int .i64 cl,.int .i64 yr] 60)/\wc.heap[q]?=some (.cells #[.string word,.bool fp,.bool ff,.bool fc,.bool fy,.bool fa,.bool fpt,.bool fs] 137))
             case first=>
              exact MD
             case rest=>
              obtain⟨rfl,hB,hsz,g0,g1⟩:=hcut;have d0:wc.cell? ⟨w.heap.size,0,none⟩=some (.int .i64 (k:Int)):=McW;have d1:wc.cell? ⟨w.heap.size,1,none⟩=some (.int .i64 dy):=McW;have d2:wc.cell? ⟨w.heap.size,2,none⟩=some (.string pl):=McW;have d3:wc.cell? ⟨w.heap.size,3,none⟩=some (.string fr):=McW;have d4:wc.cell? ⟨w.heap.size,4,none⟩=some (.slice B ps.length c):=McW;have d5:wc.cell? ⟨w.heap.size,5,none⟩=some (.int .i64 cl):=McW;have d6:wc.cell? ⟨w.heap.size,6,none⟩=some (.int .i64 yr):=McW;have e0:w.heap.size<wc.heap.size:=McS;have e1:w.heap.size≠wc.heap.size:=McS;have c0:wc.cell? ⟨q,0,none⟩=some (.string word):=McY;have c1:wc.cell? ⟨q,1,none⟩=some (.bool fp):=McY;have c2:wc.cell? ⟨q,2,none⟩=some (.bool ff):=McY;have c3:wc.cell? ⟨q,3,none⟩=some (.bool fc):=McY;have c4:wc.cell? ⟨q,4,none⟩=some (.bool fy):=McY;have c5:wc.cell? ⟨q,5,none⟩=some (.bool fa):=McY;have c6:wc.cell? ⟨q,6,none⟩=some (.bool fpt):=McY;have c7:wc.cell? ⟨q,7,none⟩=some (.bool fs):=McY;have e2:q≠wc.heap.size:=McS;cases LL:(!fy&&yr != 0)
              ·go_upto_region 16 with fail
               go_cut [88]from 4 (λv wc=>v=.bool (yr==0&&((k:Int)==3||((k:Int)==0&&cl==2)))/\Qa w wc/\q<wc.heap.size/\wc.heap[w.heap.size]?=some (.cells #[.int .i64 (k:Int),.int .i64 dy,.string pl,.string fr,.slice B ps.length c,.int .i64 cl,.int .i64 yr] 60)/\wc.heap[q]?=some (.cells #[.string word,.bool fp,.bool ff,.bool fc,.bool fy,.bool fa,.bool fpt,.bool fs] 137))
               case first=>
                exact MD
               case rest=>
                obtain⟨rfl,hB,hsz,g0,g1⟩:=hcut;have d0:wc.cell? ⟨w.heap.size,0,none⟩=some (.int .i64 (k:Int)):=McW;have d1:wc.cell? ⟨w.heap.size,1,none⟩=some (.int .i64 dy):=McW;have d2:wc.cell? ⟨w.heap.size,2,none⟩=some (.string pl):=McW;have d3:wc.cell? ⟨w.heap.size,3,none⟩=some (.string fr):=McW;have d4:wc.cell? ⟨w.heap.size,4,none⟩=some (.slice B ps.length c):=McW;have d5:wc.cell? ⟨w.heap.size,5,none⟩=some (.int .i64 cl):=McW;have d6:wc.cell? ⟨w.heap.size,6,none⟩=some (.int .i64 yr):=McW;have e0:w.heap.size<wc.heap.size:=McS;have e1:w.heap.size≠wc.heap.size:=McS;have c0:wc.cell? ⟨q,0,none⟩=some (.string word):=McY;have c1:wc.cell? ⟨q,1,none⟩=some (.bool fp):=McY;have c2:wc.cell? ⟨q,2,none⟩=some (.bool ff):=McY;have c3:wc.cell? ⟨q,3,none⟩=some (.bool fc):=McY;have c4:wc.cell? ⟨q,4,none⟩=some (.bool fy):=McY;have c5:wc.cell? ⟨q,5,none⟩=some (.bool fa):=McY;have c6:wc.cell? ⟨q,6,none⟩=some (.bool fpt):=McY;have c7:wc.cell? ⟨q,7,none⟩=some (.bool fs):=McY;have e2:q≠wc.heap.size:=McS;cases B9:(yr==0&&((k:Int)==3||((k:Int)==0&&cl==2)))
                ·go_wp2_with (first
                               |(go_at_call 51;refine(zbj _ _ _ _).mono ?_;intro e wq hq;rcases Ret0.bools hq with⟨rfl,⟨hb,rfl⟩|⟨hb,rfl⟩⟩<;>clear hq)
                               |(go_at_call 22;refine(zc7 _ _).mono ?_;intro e wq hq;rcases Ret0.bools hq with⟨rfl,⟨hb,rfl⟩|⟨hb,rfl⟩⟩<;>clear hq)
                               |(go_at_call 44;refine(zbZ _ _ Mds).mono ?_;intro e wq hq;rcases Ret0.bools hq with⟨rfl,⟨hb,rfl⟩|⟨hb,rfl⟩⟩<;>clear hq)
                               |(go_at_call 60;refine(zcS _ _ eg (λq:RPart=>!zaU q.name) _ _ _ ps _ rfl HL.o (HS.o.keep (n:=w.heap.size) Bw) (zgo ps _ HN.o)).mono ?_;intro e wq hq;rcases Ret.bools hq with⟨zq,rfl,⟨hb,rfl⟩|⟨hb,rfl⟩⟩<;>clear hq)
                               |(go_at_call 76;refine(zd8 ⟨word,fp,ff,fc,fy,fa,fpt,fs⟩ _ _ _ _ _ _ ps _ _ _ _ rfl McS HC.o (HS.o.keep (n:=w.heap.size) Bw)).mono ?_;intro e wq hq;rcases Ret.bools hq with⟨zq,rfl,⟨hb,rfl⟩|⟨hb,rfl⟩⟩<;>clear hq))
                 all_goals go_ret
                 all_goals exact Ret.of (zb7 Mdb) Bw
                ·exact MJ
              ·exact MJ
            ·exact MJ
          ·exact MJ
       ·exact Maq
 ·replace hk:inR kd 0 8=false:=by simpa using hk
  go_wp2_with (go_at_call 51;refine(zbj _ _ _ _).mono ?_;rintro e wq ⟨rfl,rfl⟩;rw[hk])
  all_goals go_ret
  all_goals exact Ret.of (zb7 MdB) Bw
open Go.Shelf
def zl0(a b:ByteArray)(w:World):Calls Tryz.prog 152 #[.string a,.string b] w (Ret0 w (.int .i64 (cmpN a b))):=by
 have aT:=Any.strings_Compare cmpStr a b w;change Calls Tryz.prog 152 _ _ _ at aT;exact MbC
def zmV(p:ByteArray×Rat)(s:ByteArray)(w:World):Calls Tryz.prog 177 #[.agg #[.string p.1,.int .i64 p.2.num,.int .i64 p.2.den],.string s] w (Ret w (.int .i64 (cmpN p.1 s))):=by
 have hc:=λW=>zl0 p.1 s W
 generalize cmpN p.1 s=r at hc⊢;go_enter Tryz.func177,Tryz.ntmps177
 go_wp2_with (go_at_call 152;refine(hc _).mono ?_;rintro e wq ⟨rfl,rfl⟩)
 go_ret
 exact Ret.of rfl Bw
def zol(w:World)(xs:Parts)(nm:ByteArray)(e:Ending)(w':World):Prop:=
 ∃P Q,xs=P++Q/\(∀p∈P,zbn p.1 nm=true)/\(∀p∈Q,zbn p.1 nm=false)/\Ret w (.tuple #[.int .i64 P.length,.bool (zdP Q nm)]) e w'
def bsf_any(xs:Parts)(A:Option Addr)(n c:Nat)(nm:ByteArray)(w:World)(hn:n=xs.length)(hl:xs.length<=100000)(hA:AscP xs)(hS:Sl w 3 zaa A xs):
 Calls Tryz.prog 176 #[.slice A n c,.string nm,.func (.func 177) #[] #[]] w (zol w xs nm):=by
 subst hn;have eg:∀args w,(callFunc 177 args).run Tryz.prog w=.ok (.enter 177 args) w:=enters_of Tryz.func177 McT rfl;obtain⟨HA,HC⟩:=yH2 hA (λ(p:ByteArray×Rat) W=>zmV p nm W);go_enter Tryz.func176,Tryz.ntmps176
 go_wp2_with fail
 go_loopw [9,10] (λi j wr=>∃lo hi:Nat,i=.int .i64 lo/\j=.int .i64 hi/\lo<=hi/\hi<=xs.length/\Hid (∀t (ht:t<xs.length),t<lo->zbn xs[t].1 nm=true)/\Hid (∀t (ht:t<xs.length),hi<=t->zbn xs[t].1 nm=false)/\∃z,wr=w.ext z) (λi j _=>(intOf j).toNat-(intOf i).toNat)
 case atStart=>exact⟨0,xs.length,rfl,rfl,Nat.zero_le _,Qc,λt ht h=>absurd h (Nat.not_lt_zero _),λt ht h=>by omega,zaP Qb⟩
 case round=>
  obtain⟨lo,hi,rfl,rfl,h1,h2,H3,H4,z,rfl⟩:=hrel;by_cases ae:lo<hi
  ·have hm:(lo+hi)/2<xs.length:=McS;obtain⟨b,off,rfl,hb,hc⟩:=(hS.keep (zan w z)).at hm;obtain⟨HX,HY⟩:=yH2 (λt (ht:t<xs.length) (h:t<(lo+hi)/2)=>List.pairwise_iff_getElem.1 hA t _ ht hm h) (λt (ht:t<xs.length) (h:(lo+hi)/2<t)=>List.pairwise_iff_getElem.1 hA _ t hm ht h);generalize hp:xs[(lo+hi)/2]=p at*;obtain⟨pn,pq⟩:=p;have hr:decide (cmpN pn nm<0)=zbn pn nm:=zof _ _;have bN:=HC.o (pn,pq);simp only at bN;generalize cmpN pn nm=r at hr bN;have c0:(w.ext z).cell? ⟨b,off+(lo+hi)/2*3,none⟩=some (.string pn):=hc 0 _ rfl;have c1:(w.ext z).cell? ⟨b,off+(lo+hi)/2*3+1,none⟩=some (.int .i64 pq.num):=hc 1 _ rfl;have c2:(w.ext z).cell? ⟨b,off+(lo+hi)/2*3+2,none⟩=some (.int .i64 pq.den):=hc 2 _ rfl;obtain⟨HP,HR⟩:=yH2 hp hr;clear hp hr hc hS hA;by_cases qy:r<0
   ·go_wp2_with (go_at_fn 177;refine(bN _).mono ?_;rintro e wq ⟨rfl,zq,rfl⟩)
    go_round
    case rel=>
     have bG:zbn pn nm=true:=by rw[<-HR.o];simpa using qy
     refine⟨(lo+hi)/2+1,hi,by go_num,rfl,by omega,h2,(show Hid _ from λt ht h=>?_),H4,zaP Bw⟩;by_cases e:t=(lo+hi)/2
     ·subst e;rw[HP.o];exact bG
     ·have:=HX.o t ht McS;exact zb5 this bG
    case measure=>simp[intOf];omega
   ·go_wp2_with (go_at_fn 177;refine(bN _).mono ?_;rintro e wq ⟨rfl,zq,rfl⟩)
    go_round
    case rel=>
     have bG:zbn pn nm=false:=by rw[<-HR.o];simpa using qy
     refine⟨lo,(lo+hi)/2,rfl,by go_num,by omega,by omega,H3,(show Hid _ from λt ht h=>?_),zaP Bw⟩;by_cases e:t=(lo+hi)/2
     ·subst e;rw[HP.o];exact bG
     ·have:=HY.o t ht McS;exact less_up this bG
    case measure=>simp[intOf];omega
  ·have he:hi=lo:=McS;subst he;have HP:Hid (∀p∈xs.take hi,zbn p.1 nm=true):=λp hp=>by
    obtain⟨t,ht,rfl⟩:=List.getElem_of_mem hp;rw[List.getElem_take];have:t<hi:=by rw[List.length_take]at ht;omega
    exact H3.o t McS this
   have HQ:Hid (∀p∈xs.drop hi,zbn p.1 nm=false):=λp hp=>by
    obtain⟨t,ht,rfl⟩:=List.getElem_of_mem hp;rw[List.getElem_drop];exact H4.o (hi+t) (by rw[List.length_drop]at ht;omega) McS
   have HL:Hid ((xs.take hi).length=hi):=by show _=_;rw[List.length_take];omega
   by_cases bu:hi<xs.length
   ·obtain⟨b,off,rfl,hb,hc⟩:=(hS.keep (zan w z)).at bu;have hd:xs.drop hi=xs[hi]::xs.drop (hi+1):=List.drop_eq_getElem_cons bu;generalize hp:xs[hi]=p at*;obtain⟨pn,pq⟩:=p;have hr:(cmpN pn nm==0)=zae pn nm:=cmpN_zero _ _;have bN:=HC.o (pn,pq);simp only at bN;generalize cmpN pn nm=r at hr bN;have c0:(w.ext z).cell? ⟨b,off+hi*3,none⟩=some (.string pn):=hc 0 _ rfl;have c1:(w.ext z).cell? ⟨b,off+hi*3+1,none⟩=some (.int .i64 pq.num):=hc 1 _ rfl;have c2:(w.ext z).cell? ⟨b,off+hi*3+2,none⟩=some (.int .i64 pq.den):=hc 2 _ rfl;obtain⟨HR,HD⟩:=yH2 hr hd;clear hp hr hc hS hA hd;go_wp2_with (go_at_fn 177;refine(bN _).mono ?_;rintro e wq ⟨rfl,zq,rfl⟩)
    all_goals go_ret2
    all_goals exact⟨xs.take hi,xs.drop hi,(List.take_append_drop _ _).symm,HP.o,HQ.o,Ret.of (by rw[HL.o,HD.o];simp[zdP,<-HR.o, *]) Bw⟩
   ·go_wp2_with fail
    all_goals go_ret2
    all_goals exact⟨xs.take hi,xs.drop hi,(List.take_append_drop _ _).symm,HP.o,HQ.o,Ret.of (by rw[HL.o,List.drop_eq_nil_of_le McS];simp[zdP]) Bw⟩
def zbt(W:World)(T:Nat)(pl:ByteArray)(cl fr en:Int)(v dv:Value):Prop:=W.heap[T]?=some (.cells #[.string pl,.int .i64 cl,.int .i64 fr,.int .i64 en,v,dv] 78)
def zom(xs:Parts)(A:Option Addr)(c T:Nat)(nm:ByteArray)(w:World)(kL:w.cell? ⟨T,4,none⟩=some (.slice A xs.length c))(hl:xs.length<=100000)(hA:AscP xs)(hS:Sl w 3 zaa A xs):
 Calls Tryz.prog 142 #[.pointer (some ⟨T,0,none⟩),.string nm] w (zol w xs nm):=by
 have HB:=bsf_any xs A _ c nm w rfl hl hA hS;go_enter Tryz.func142,Tryz.ntmps142
 go_wp2_with (go_at_call 176;refine HB.mono ?_;rintro e wq ⟨P,Q,br,hP,hQ,rfl,z,rfl⟩)
 go_ret2
 exact⟨P,Q,br,hP,hQ,Ret.of rfl Bw⟩
def shareQ{P Q:Parts}{nm:ByteArray}(hP:∀p∈P,zbn p.1 nm=true)(hQ:∀p∈Q,zbn p.1 nm=false)(hA:AscP (P++Q)):zah (P++Q) nm=if zdP Q nm then(Q.headD (⟨#[]⟩,0)).2 else 0:=by
 rw[zfS hP];cases hh:zdP Q nm
 ·exact zog hQ (zhK hA) hh
 ·cases Q with
  |nil=>cases hh
  |cons q Q=>
   have hs:zae q.1 nm=true:=hh;rw[zbr,hs];rfl
def zev(xs:Parts)(A:Option Addr)(c T:Nat)(nm:ByteArray)(w:World)(kL:w.cell? ⟨T,4,none⟩=some (.slice A xs.length c))(hT:T<w.heap.size)(hl:xs.length<=100000)(hA:AscP xs)(hS:Sl w 3 zaa A xs):
 Calls Tryz.prog 110 #[.pointer (some ⟨T,0,none⟩),.string nm] w (Ret w (zaA (zah xs nm))):=by
 have HF:=λW h1 h2=>zom xs A c T nm W h1 hl hA h2
 obtain⟨HS,HA⟩:=yH2 hS hA;clear hS hA;have ai:T≠w.heap.size:=McS;go_enter Tryz.func110,Tryz.ntmps110
 go_upto_region 2 with(go_at_call 142;refine(HF _ (by simp[go_sem,hT,kL]) (HS.o.keep (n:=w.heap.size) Bw)).mono ?_;rintro e wq ⟨P,Q,br,hP,hQ,rfl,z,rfl⟩;subst br)
 have hv:=shareQ hP hQ HA.o;have HV:=zHi hv;clear hv hP hQ;cases Q with
 |nil=>
  go_wp2_with fail
  refine bodyPost_ret (v:=zaA (zah (P++[]) nm)) ?_ rfl ?_
  ·rw[HV.o];refine zaZ rfl _ _ w.heap.size _ _ rfl ?_ ?_<;>simp[go_sem,zdP]
  ·exact Ret.of rfl Bw
 |cons q Q=>
  obtain⟨qn,qr⟩:=q;have ae:P.length<(P++(qn,qr)::Q).length:=McV;obtain⟨b,off,rfl,hb,hc⟩:=HS.o.at ae;rw[List.getElem_append_right Qc]at hc;simp only[Nat.sub_self,List.getElem_cons_zero]at hc;have k1:w.cell? ⟨b,off+P.length*3+1,none⟩=some (.int .i64 qr.num):=hc 1 _ rfl;have k2:w.cell? ⟨b,off+P.length*3+1+1,none⟩=some (.int .i64 qr.den):=hc 2 _ rfl;have bu:(P.length:Int)<((P++(qn,qr)::Q).length:Int):=McS;have LC:(0:Int)<=(P.length:Int):=McS;have HL:=zHi ae;clear hc ae;generalize hh:zdP ((qn,qr)::Q) nm=q at*;have JJ:=zHi (HV.o.trans (by rfl:_=if q then qr else 0));cases q
  ·exact MaL
  ·exact MaL
def zi2(g:Grave)(A:Option Addr)(c T:Nat)(day:Int)(w:World)(h3:w.cell? ⟨T,3,none⟩=some (.int .i64 g.fin))(h4:w.cell? ⟨T,4,none⟩=some (.slice A g.holders.length c)):
 Calls Tryz.prog 52 #[.pointer (some ⟨T,0,none⟩),.int .i64 day] w (Ret w (.bool (zaM g day))):=by
 obtain⟨pl,cl,fin,hs,di⟩:=g;simp only at*;go_enter Tryz.func52,Tryz.ntmps52
 go_wp2_with fail
 all_goals go_ret
 all_goals(refine Ret.of (zaT ?_) Bw;cases hs<;>simp_all[zaM]<;>omega)
def zgp{P:Program}(w:World)(dT sT ty elem:TypeId)(size b o dLen dCap:Nat)(a:Addr)(sLen sCap n:Nat)(cs:List Value)
 (hu:P.underlying dT=some (.slice elem))(hs:(P.info? elem).map (·.size)=some size)(hn:Nat.min sLen dLen=n)(hl:cs.length=n*size)
 (EQ:∀j v,cs[j]?=some v->w.cell? (a.add j)=some v)(hc:∀j,j<cs.length->(w.cell? ⟨b,o+j,none⟩).isSome=true)(hf:∀j,j<cs.length->w.frozen? ⟨b,o+j,none⟩=false)(h1:∀v∈cs,v.oneCell'=true):
 (Builtin.copy_ #[dT,sT] ty #[.slice (some ⟨b,o,none⟩) dLen dCap,.slice (some a) sLen sCap]).run P w=.ok (goInt n) (w.setCells b o cs):=by
 have L2:=run_firstCells_some (P:=P) w size n a sLen sCap cs hl EQ;have aq:=run_storeCells_cells (P:=P) b o cs 0 w MdY (by simpa using hf) h1;cases hq:P.info? elem with
 |none=>simp[hq]at hs
 |some i=>
  have hi:i.size=size:=by simpa[hq]using hs
  simp[Builtin.copy_,run_underlying hu,Builtin.lenOf,sizeOf,typeInfo,hq,hi,hn,L2,aq]
def zbw(g:Nat){e:TypeId}:∀(vs:List Value) (o:Nat) (w:World) (cur:Array Value),w.heap[g]?=some (.cells cur e (0,0))->o+vs.length<=cur.size->
 ∃cur',(w.setCells g o vs).heap[g]?=some (.cells cur' e (0,0))/\cur'.size=cur.size/\(∀j,j<o\/o+vs.length<=j->cur'[j]?=cur[j]?)/\∀j u,vs[j]?=some u->cur'[o+j]?=some u
 | [],o,w,cur,hg,_=>⟨cur,hg,rfl,λ_ _=>rfl,λj u h=>by simp at h⟩
 |v::r,o,w,cur,hg,hl=>by
  obtain⟨cur',h1,h2,h3,h4⟩:=zbw g r (o+1) (w.setCell ⟨g,o,none⟩ v) (cur.setIfInBounds o v) (heap_setCell_same w g o cur e v hg) (by simp at hl⊢;omega);refine⟨cur',h1,by simpa using h2,λj hj=>?_,λj u hu=>?_⟩
  ·rw[h3 j (by simp at hj;omega),Array.getElem?_setIfInBounds_ne (by simp at hj;omega)]
  ·cases j with
   |zero=>
    simp only[List.getElem?_cons_zero,Option.some.injEq]at hu;subst hu;rw[Nat.add_zero,h3 o McS];exact Array.getElem?_setIfInBounds_self_of_lt (by simp at hl;omega)
   |succ j=>
    have:=h4 j u (by simpa using hu);rw[show o+(j+1)=o+1+j by omega];exact this
def zak(p:ByteArray×Rat):(zaa p).length=3:=rfl
def zcc(p:ByteArray×Rat):∀u∈zaa p,u.oneCell'=true:=by simp[zaa,Value.oneCell']
def zi3(l:Parts):∀u∈l.flatMap zaa,u.oneCell'=true:=λu hu=>by
 obtain⟨x,_,hx⟩:=List.mem_flatMap.1 hu;exact zcc x u hx
def zew(l:Parts):(l.flatMap zaa).length=l.length*3:=ze2 zaa 3 zak l
def zdR:ElTy Tryz.prog 36 55 3 32:=zdm (z:=.agg #[.string ⟨#[]⟩,.int .i64 0,.int .i64 0]) McT McT rfl McU
variable{p:ByteArray×Rat}
def ins_get{xs:Parts}{i:Nat}(hi:i<=xs.length){cur:Nat->Option Value}(h0:∀j u,j<i*3->(xs.flatMap zaa)[j]?=some u->cur j=some u)(h1:∀j u,(zaa p)[j]?=some u->cur (i*3+j)=some u)
 (h2:∀j u,((xs.drop i).flatMap zaa)[j]?=some u->cur ((i+1)*3+j)=some u):∀j u,((xs.take i++p::xs.drop i).flatMap zaa)[j]?=some u->cur j=some u:=λj u hj=>by
 have hl:((xs.take i).flatMap zaa).length=i*3:=MdA;rw[List.flatMap_append,List.flatMap_cons]at hj;by_cases hj1:j<i*3
 ·rw[List.getElem?_append_left McS]at hj;refine h0 j u hj1 ?_;exact MaT
 ·rw[List.getElem?_append_right McS,hl]at hj;by_cases Ho:j-i*3<3
  ·rw[List.getElem?_append_left (by rw[zak];exact Ho)]at hj;have:=h1 _ u hj;rwa [show i*3+(j-i*3)=j by omega]at this
  ·rw[List.getElem?_append_right MeD,zak]at hj;have:=h2 _ u hj;rwa [show(i+1)*3+(j-i*3-3)=j by omega]at this
def zfi(w:World)(base:Nat)(v:Value)(ys:Parts)(e:Ending)(w':World):Prop:=
 ∃v',e=.returned v'/\OwnS w' base 55 3 zaa v' ys/\w.grownBy w' (za4 v)/\∀g,za4 v'=some g->za4 v=some g\/w.heap.size<=g
def zmW{vb:Nat}{t:TypeId}{fr:Nat×Nat}(h:w.heap[vb]?=some (.cells #[.string p.1,.int .i64 p.2.num,.int .i64 p.2.den] t fr)):∀j v,(zaa p)[j]?=some v->w.cell? ⟨vb,j,none⟩=some v:=λj v hj=>by
 match j,hj with
 |0,hj=>simp[zaa]at hj;simp[World.cell?,h,<-hj]
 |1,hj=>simp[zaa]at hj;simp[World.cell?,h,<-hj]
 |2,hj=>simp[zaa]at hj;simp[World.cell?,h,<-hj]
 |j+3,hj=>simp[zaa]at hj
def zoT(base:Nat)(xs:Parts)(p:ByteArray×Rat)(vb:Nat)(w:World)(hl:xs.length<=100000)(dg:w.heap[vb]?=some (.cells #[.string p.1,.int .i64 p.2.num,.int .i64 p.2.den] 55))(aC:base<=w.heap.size)(v:Value)(aa:OwnS w base 55 3 zaa v xs):
 Calls Tryz.prog 144 #[v,.int .i64 xs.length,.slice (some ⟨vb,0,none⟩) 1 1] w (zfi w base v (xs++[p])):=by
 have hS:Sl w 3 zaa (some ⟨vb,0,none⟩) [p]:=λ_=>⟨vb,0,rfl,zab dg,λk x hx j u hu=>by
  have hk:k=0:=by have:=(List.getElem?_eq_some_iff.1 hx).1;simp at this;omega
  subst hk;simp only[List.getElem?_cons_zero,Option.some.injEq]at hx;subst hx;have:=zmW dg j u hu
  simpa using this⟩
 obtain⟨HO,HS⟩:=yH2 aa hS;obtain⟨A,c,rfl,_,hc⟩:=aa.sl zak;have cD:(xs.length:Int)<=(c:Int):=McS;clear hS;have hA:A=none\/∃g o,A=some ⟨g,o,none⟩:=by
  rcases aa with⟨h,_⟩|⟨g,o,cap,cur,h,_⟩
  ·simp only[Value.slice.injEq]at h;exact .inl h.1
  ·simp only[Value.slice.injEq]at h;exact .inr ⟨g,o,h.1⟩
 clear aa;go_enter Tryz.func144,Tryz.ntmps144
 rcases hA with rfl|⟨g,o,rfl⟩
 ·exact Mav
 ·exact Mav
def zmX(base:Nat)(xs:Parts)(p:ByteArray×Rat)(vb:Nat)(w:World)(hl:xs.length<=100000)(dg:w.heap[vb]?=some (.cells #[.string p.1,.int .i64 p.2.num,.int .i64 p.2.den] 55))(aC:base<=w.heap.size)(g o c:Nat)(cur:Array Value)(io:base<=g)(hg:w.heap[g]?=some (.cells cur 55 (0,0)))(yY:xs.length+1<=c)(ir:c<=maxLen)(aY:o+c*3<=cur.size)(hx:∀j u,(xs.flatMap zaa)[j]?=some u->cur[o+j]?=some u)
 (i:Nat)(hi:i<xs.length)(ai:vb≠g):
 Calls Tryz.prog 144 #[.slice (some ⟨g,o,none⟩) xs.length c,.int .i64 i,.slice (some ⟨vb,0,none⟩) 1 1] w (zfi w base (.slice (some ⟨g,o,none⟩) xs.length c) (xs.take i++p::xs.drop i)):=by
 have mixed:Tryz.prog.follows .mixedOrders=true:=McT;have KQ:(c:Int)<=9223372036854775807:=by unfold maxLen at ir;omega
 have EK:(xs.length:Int)+1<=(c:Int):=McS;have EL:¬((c:Int)<(xs.length:Int)+1):=McS;have lV:IntKind.i64.wrap ((xs.length:Int)+1)=(xs.length:Int)+1:=Mdv;have jp:¬((i:Int)=(xs.length:Int)):=McS;have jU:IntKind.i64.wrap ((i:Int)+1)=(i:Int)+1:=Mdv;have aW:(0:Int)<=(i:Int)+1:=McS;have ba:(0:Int)<=(i:Int):=McS;have dU:((i:Int)+1).toNat=i+1:=McS;have bM:¬(c=i+1):=McS;have aB:¬(c=i):=McS;have ax:(i:Int)<=(xs.length:Int)+1:=McS;have ar:(i:Int)<=(xs.length:Int):=McS;have LQ:∀lb cb,(callFunc 178 #[.slice (some ⟨vb,0,none⟩) 1 1,.slice (some ⟨g,o+(i+1)*3,none⟩) lb cb]).run Tryz.prog w=.ok (.value (.bool false)) w:=λlb cb=>by
  rw[run_callFunc_extern Tryz.func178 McT McT McT (e:=Extern.SlicesOverlaps.overlaps #[36,36] #[4]) McT,
   Lib.run_overlaps_apart w 36 4 55 Tryz.underlying36 3 Tryz.sizeOf55 ⟨vb,0,none⟩ ⟨g,o+(i+1)*3,none⟩ 1 1 lb cb ai 55 55 3 cur.size (by simp[World.shape?,dg]) (by simp[World.shape?,hg]) McS (by simp[World.frozen?,dg]) (by simp[World.frozen?,dg])]
  rfl
 obtain⟨i0,z,eE,lX,eI,Bh,uS⟩:=zdR.hi;have hsz:(Tryz.prog.info? 55).map (·.size)=some 3:=by rw[eE];simp[eI]
 have bA:((xs.drop i).flatMap zaa).length=(xs.length-i)*3:=MeG;have bo:∀j,j<c*3->(w.cell? ⟨g,o+j,none⟩).isSome=true:=λj hj=>by simp[World.cell?,hg];omega
 have xu:∀ty dc sc,(Builtin.copy_ #[36,36] ty #[.slice (some ⟨g,o+(i+1)*3,none⟩) (xs.length+1-(i+1)) dc,.slice (some ⟨g,o+i*3,none⟩) (xs.length+1-i) sc]).run Tryz.prog w.drew=.ok (goInt (xs.length-i:Nat)) (w.drew.setCells g (o+(i+1)*3) ((xs.drop i).flatMap zaa)):=λty dc sc=>
  zgp w.drew _ _ ty 55 3 g (o+(i+1)*3) _ dc ⟨g,o+i*3,none⟩ _ sc (xs.length-i) _ Tryz.underlying36 hsz MdT bA
   (λj v hj=>by
     rw[Addr.add_lit];have e:(xs.flatMap zaa)[i*3+j]?=some v:=by
      have e2:xs.flatMap zaa=(xs.take i).flatMap zaa++(xs.drop i).flatMap zaa:=MdF;have e3:((xs.take i).flatMap zaa).length=i*3:=MdA;rw[e2,List.getElem?_append_right McS,e3,Nat.add_sub_cancel_left];exact hj
     have:=hx _ _ e;show w.cell? _=_;simp only[World.cell?,hg,Nat.add_assoc]
     exact this)
   (λj hj=>by rw[bA]at hj;show(w.cell? _).isSome=_;rw[Nat.add_assoc];exact bo _ McS) (λj hj=>by show w.frozen? _=_;simp[World.frozen?,hg]) (zi3 _)
 obtain⟨cur1,k1,k2,k3,k4⟩:=zbw g ((xs.drop i).flatMap zaa) (o+(i+1)*3) w.drew cur hg (by rw[bA];omega);have bR:=zbu g ((xs.drop i).flatMap zaa) (o+(i+1)*3) w.drew;obtain⟨W1,aX⟩:=Qd (w.drew.setCells g (o+(i+1)*3) ((xs.drop i).flatMap zaa))
 rw[<-aX]at xu k1 bR;have zw:W1.heap[vb]?=some (.cells #[.string p.1,.int .i64 p.2.num,.int .i64 p.2.den] 55):=(bR.block vb (zab dg) (by simp[ai])).trans dg;have DH:∀(W:World),W.heap=W1.heap->∀ty dc,(Builtin.copy_ #[36,36] ty #[.slice (some ⟨g,o+i*3,none⟩) (xs.length+1-i) dc,.slice (some ⟨vb,0,none⟩) 1 1]).run Tryz.prog W=.ok (goInt (1:Nat)) (W.setCells g (o+i*3) (zaa p)):=λW mO ty dc=>
  zgp W _ _ ty 55 3 g (o+i*3) _ dc ⟨vb,0,none⟩ 1 1 1 _ Tryz.underlying36 hsz MdT (by rw[zak])
   (λj v hj=>by rw[Addr.add_lit,Nat.zero_add];exact zmW (by rw[mO];exact zw) j v hj)
   (λj hj=>by rw[zak]at hj;simp[World.cell?,mO,k1,k2];omega) (λj hj=>by simp[World.frozen?,mO,k1]) (zcc p)
 have HF:Hid (∀W:World,W.heap=W1.heap->W.os=W1.os->W.tape=W1.tape->W.output=W1.output->zfi w base (.slice (some ⟨g,o,none⟩) xs.length c) (xs.take i++p::xs.drop i) (.returned (.slice (some ⟨g,o,none⟩) (xs.length+1) c)) (W.setCells g (o+i*3) (zaa p))):=by
  intro W h1 h2 h3 h4;have tE:w.grownBy W (some g):=⟨h2.trans bR.os,h3.trans bR.tape,h4.trans bR.output,by rw[h1];exact bR.size,λk hk hn=>by rw[h1];exact bR.block k hk hn⟩
  obtain⟨cur2,l1,l2,l3,l4⟩:=zbw g (zaa p) (o+i*3) W cur1 (by rw[h1];exact k1) (by rw[zak,k2];omega);have ag:(xs.take i++p::xs.drop i).length=xs.length+1:=McX;refine⟨_,rfl,.inr ⟨g,o,c,cur2,by rw[ag],io,l1,by rw[ag];exact yY,ir,by rw[l2,k2];exact aY,?_⟩,zbm tE (zbu _ _ _ _),λg' h=> .inl h⟩;refine ins_get (cur:=λj=>cur2[o+j]?) McS (λj u hj hu=>?_) (λj u hu=>?_) (λj u hu=>?_)
  ·show cur2[o+j]?=_;rw[l3 _ (.inl McS),k3 _ (.inl McS)];exact hx j u hu
  ·have:=l4 j u hu;rw[show o+i*3+j=o+(i*3+j) by omega]at this;exact this
  ·show cur2[o+((i+1)*3+j)]?=_;rw[l3 _ (.inr MeD)];have:=k4 j u hu;rw[show o+(i+1)*3+j=o+((i+1)*3+j) by omega]at this;exact this
 clear aX k1 k2 k3 k4 bR bo hx zw bA hg dg;go_enter Tryz.func144,Tryz.ntmps144
 go_wp2_with (simp only[LQ])
 go_region_law_o (go_loud(refine step_copy_runI rfl _ _ 36 36 rfl _ _ Meo Meo (xu _ _ _) ?_))
 go_wp2_with (at_builtin;refine wpList_copy_runI _ rfl _ _ 36 36 rfl _ _ rfl rfl (DH _ rfl _ _) ?_)
 go_ret
 exact HF.o _ rfl rfl rfl rfl
def zej(z:Array Value)(k:Nat):(Builtin.zeroCells z k).size=k*z.size:=by
 simp[Builtin.zeroCells]
def zmY(base:Nat)(xs:Parts)(p:ByteArray×Rat)(vb:Nat)(w:World)(hl:xs.length<=100000)(dg:w.heap[vb]?=some (.cells #[.string p.1,.int .i64 p.2.num,.int .i64 p.2.den] 55))(aC:base<=w.heap.size)(g o:Nat)(cur:Array Value)(hg:w.heap[g]?=some (.cells cur 55 (0,0)))(hx:∀j u,(xs.flatMap zaa)[j]?=some u->cur[o+j]?=some u)
 (i:Nat)(hi:i<xs.length):
 Calls Tryz.prog 144 #[.slice (some ⟨g,o,none⟩) xs.length xs.length,.int .i64 i,.slice (some ⟨vb,0,none⟩) 1 1] w (zfi w base (.slice (some ⟨g,o,none⟩) xs.length xs.length) (xs.take i++p::xs.drop i)):=by
 have mixed:Tryz.prog.follows .mixedOrders=true:=McT;have lV:IntKind.i64.wrap ((xs.length:Int)+1)=(xs.length:Int)+1:=Mdv;have dD:(xs.length:Int)<(xs.length:Int)+1:=McS;obtain⟨c,hc⟩:∃c,xs.length=c:=⟨_,rfl⟩
 have bM:¬(c=i+1)\/c=i+1:=McS;have jp:¬((i:Int)=(xs.length:Int)):=McS;have jU:IntKind.i64.wrap ((i:Int)+1)=(i:Int)+1:=Mdv;have aW:(0:Int)<=(i:Int)+1:=McS;have ba:(0:Int)<=(i:Int):=McS;have dU:((i:Int)+1).toNat=i+1:=McS;have ar:(i:Int)<=(xs.length:Int):=McS;have aS:(i:Int)+1<=(xs.length:Int)+1:=McS;have hkw:IntKind.i64.wrap ((xs.length:Int)+1-(i:Int))=(xs.length:Int)+1-(i:Int):=Mdv;have fw:(xs.length:Int)+1-(i:Int)=((xs.length+1-i:Nat):Int):=McS;have Eb:i+(xs.length+1-i)=xs.length+1:=McS;obtain⟨i0,z,eE,lX,eI,Bh,uS⟩:=zdR.hi;have hsz:(Tryz.prog.info? 55).map (·.size)=some 3:=by rw[eE];simp[eI]
 have bQ:g<w.heap.size:=zab hg;have Bb:vb<w.heap.size:=zab dg;have cF:((xs.take i).flatMap zaa).length=i*3:=MdA;have da:xs.flatMap zaa=(xs.take i).flatMap zaa++(xs.drop i).flatMap zaa:=MdF;have nC:(Builtin.firstCells i0.size i (.slice (some ⟨g,o,none⟩) i xs.length)).run Tryz.prog w.drew=.ok ((xs.take i).flatMap zaa).toArray w.drew:=by
  rw[eI]
  exact run_firstCells_some w.drew 3 i ⟨g,o,none⟩ i xs.length _ cF (λj v hj=>by
   rw[Addr.add_lit];have:=hx j v (by rw[da,List.getElem?_append_left (List.getElem?_eq_some_iff.1 hj).1];exact hj);show w.cell? _=_;simp only[World.cell?,hg]
   exact this)
 have Ig:∀ty,(Builtin.append_ #[36,3] ty #[.slice (some ⟨g,o,none⟩) i xs.length,.int .i64 ((xs.length:Int)+1-(i:Int))]).run Tryz.prog w=
  .ok (.slice (some ⟨w.heap.size,0,none⟩) (xs.length+1) (grownCap w (xs.length+1) xs.length 55)) (w.drew.alloc (.cells (((xs.take i).flatMap zaa).toArray++Builtin.zeroCells z.cells (xs.length+1-i)++Builtin.zeroCells z.cells (grownCap w (xs.length+1) xs.length 55-(xs.length+1))) 55)):=λty=>by
  have h:=Lib.run_append_grow_zeros w 36 3 ty 55 i0 _ .i64 .i64 Tryz.underlying36 Tryz.underlying3 eE lX (some ⟨g,o,none⟩) i xs.length ((xs.take i).flatMap zaa) nC (xs.length+1-i) McS McS McS McS (by rw[Bh];omega) (by rw[Bh,Eb];exact growslice_fits McS McS);rw[Eb]at h;rw[fw];exact h
 obtain⟨G,hG⟩:=Qd (grownCap w (xs.length+1) xs.length 55)
 obtain⟨ROW,oT⟩:∃ROW:Array Value,ROW=((xs.take i).flatMap zaa).toArray++Builtin.zeroCells z.cells (xs.length+1-i)++Builtin.zeroCells z.cells (G-(xs.length+1)):=⟨_,rfl⟩
 rw[<-hG,<-oT]at Ig;have Kb:xs.length+1<=G:=by rw[hG];exact grownCap_ge w _ _ _
 have CJ:G<=maxLen:=by
  rw[hG];exact grownCap_le_maxLen w (xs.length+1) xs.length 55 (by unfold maxLen;omega)
 have nY:ROW.size=G*3:=by
  rw[oT,Array.size_append,Array.size_append,zej,zej,uS];simp only[List.size_toArray,cF];omega
 have s9:∀j u,((xs.take i).flatMap zaa)[j]?=some u->ROW[j]?=some u:=λj u hj=>by
  have cO:=(List.getElem?_eq_some_iff.1 hj).1;rw[oT,Array.getElem?_append_left (by rw[Array.size_append,List.size_toArray];omega),Array.getElem?_append_left (by simpa using cO)];simpa using hj
 obtain⟨W1,aX⟩:=Qd (w.drew.alloc (.cells ROW 55))
 have AG:W1.heap[w.heap.size]?=some (.cells ROW 55):=by rw[aX];exact heap_alloc_new w.drew _
 have AJ:∀k,k<w.heap.size->W1.heap[k]?=w.heap[k]?:=λk hk=>by rw[aX];exact Below.heap_alloc w.drew _ k hk
 have xv:∀(W:World),W.heap=W1.heap->∀ty dc,(Builtin.copy_ #[36,36] ty #[.slice (some ⟨w.heap.size,i*3,none⟩) (xs.length+1-i) dc,.slice (some ⟨vb,0,none⟩) 1 1]).run Tryz.prog W=.ok (goInt (1:Nat)) (W.setCells w.heap.size (i*3) (zaa p)):=λW mO ty dc=>
  zgp W _ _ ty 55 3 w.heap.size (i*3) _ dc ⟨vb,0,none⟩ 1 1 1 _ Tryz.underlying36 hsz MdT (by rw[zak])
   (λj v hj=>by rw[Addr.add_lit,Nat.zero_add];exact zmW (by rw[mO,AJ vb Bb];exact dg) j v hj)
   (λj hj=>by rw[zak]at hj;simp[World.cell?,mO,AG];omega) (λj hj=>by simp[World.frozen?,mO,AG]) (zcc p)
 obtain⟨cur1,k1,k2,k3,k4⟩:=zbw w.heap.size (zaa p) (i*3) W1 ROW AG (by rw[zak,nY];omega);have bR:=zbu w.heap.size (zaa p) (i*3) W1;have bA:((xs.drop i).flatMap zaa).length=(xs.length-i)*3:=MeG;have Hh:(W1.setCells w.heap.size (i*3) (zaa p)).heap[g]?=some (.cells cur 55):=by rw[bR.block g (by rw[aX];simp;omega) McX,AJ g bQ];exact hg
 have DI:∀(W:World),W.heap=(W1.setCells w.heap.size (i*3) (zaa p)).heap->∀ty dc sc,(Builtin.copy_ #[36,36] ty #[.slice (some ⟨w.heap.size,(i+1)*3,none⟩) (xs.length-i) dc,.slice (some ⟨g,o+i*3,none⟩) (xs.length-i) sc]).run Tryz.prog W=.ok (goInt (xs.length-i:Nat)) (W.setCells w.heap.size ((i+1)*3) ((xs.drop i).flatMap zaa)):=λW mO ty dc sc=>
  zgp W _ _ ty 55 3 w.heap.size ((i+1)*3) _ dc ⟨g,o+i*3,none⟩ _ sc (xs.length-i) _ Tryz.underlying36 hsz MdT bA
   (λj v hj=>by
     rw[Addr.add_lit];have e:(xs.flatMap zaa)[i*3+j]?=some v:=by
      rw[da,List.getElem?_append_right McS,cF,Nat.add_sub_cancel_left];exact hj
     have:=hx _ _ e;simp only[World.cell?,mO,Hh,Nat.add_assoc]
     exact this)
   (λj hj=>by rw[bA]at hj;simp[World.cell?,mO,k1,k2,nY];omega) (λj hj=>by simp[World.frozen?,mO,k1]) (zi3 _)
 have HF:Hid (∀W:World,W.heap=(W1.setCells w.heap.size (i*3) (zaa p)).heap->W.os=w.os->W.tape=w.tape->W.output=w.output->zfi w base (.slice (some ⟨g,o,none⟩) xs.length xs.length) (xs.take i++p::xs.drop i) (.returned (.slice (some ⟨w.heap.size,0,none⟩) (xs.length+1) G)) (W.setCells w.heap.size ((i+1)*3) ((xs.drop i).flatMap zaa))):=by
  intro W h1 h2 h3 h4;have tE:w.grownBy W (some g):=⟨h2,h3,h4,by rw[h1];exact Nat.le_trans (by rw[aX];simp) bR.size,λk hk hn=>by rw[h1,bR.block k (by rw[aX];simp;omega) McX,AJ k hk]⟩
  obtain⟨cur2,l1,l2,l3,l4⟩:=zbw w.heap.size ((xs.drop i).flatMap zaa) ((i+1)*3) W cur1 (by rw[h1];exact k1) (by rw[bA,k2,nY];omega);have ag:(xs.take i++p::xs.drop i).length=xs.length+1:=McX;have cj:=zbu w.heap.size ((xs.drop i).flatMap zaa) ((i+1)*3) W;refine⟨_,rfl,.inr ⟨w.heap.size,0,G,cur2,by rw[ag],aC,l1,by rw[ag];exact Kb,CJ,by rw[l2,k2,nY];omega,?_⟩,?_,λg' h=> .inr (by simp only[za4,Option.some.injEq]at h;omega)⟩
  ·refine ins_get (cur:=λj=>cur2[0+j]?) McS (λj u hj hu=>?_) (λj u hu=>?_) (λj u hu=>?_)
   ·show cur2[0+j]?=_;rw[Nat.zero_add,l3 _ (.inl McS),k3 _ (.inl McS)];rw[da,List.getElem?_append_left McS]at hu;exact s9 j u hu
   ·show cur2[0+(i*3+j)]?=_;have Ed:j<3:=by have:=(List.getElem?_eq_some_iff.1 hu).1;rwa [zak]at this
    rw[Nat.zero_add,l3 _ (.inl McS)];exact k4 j u hu
   ·show cur2[0+((i+1)*3+j)]?=_;rw[Nat.zero_add];exact l4 j u hu
  ·exact⟨cj.os.trans h2,cj.tape.trans h3,cj.output.trans h4,Nat.le_trans tE.size cj.size,λk hk hn=>(cj.block k (Nat.lt_of_lt_of_le hk tE.size) McX).trans (tE.block k hk hn)⟩
 subst aX;have hGi:¬(G=i):=McS;have K9:¬(G=i+1):=McS;have uw:¬(xs.length=i):=McS;have hGc:(xs.length:Int)+1<=(G:Int):=McS;have K6:(i:Int)<=(xs.length:Int)+1:=McS;clear fw Eb nC oT hG nY s9 da cF bA Hh bR k1 k2 k3 k4 AG AJ hx hc bM;go_enter Tryz.func144,Tryz.ntmps144
 go_upto_region 10 with(at_builtin;refine Lib.wpList_append_run _ rfl _ _ _ _ rfl _ _ rfl rfl _ _ (Ig _) ?_)
 have H8:∀ty dc,_:=λty dc=>xv ((w.alloc (.cells ROW 55)).drew) rfl ty dc
 clear xv;go_wp2_with fail
 go_region_law_o (go_loud(refine step_copy_runI rfl _ _ 36 36 rfl _ _ Meo Meo (DI (((w.alloc (.cells ROW 55)).drew.setCells w.heap.size (i*3) (zaa p)).drew) rfl _ _ _) ?_))
 go_wp2_with fail
 go_ret
 exact HF.o _ rfl rfl rfl rfl

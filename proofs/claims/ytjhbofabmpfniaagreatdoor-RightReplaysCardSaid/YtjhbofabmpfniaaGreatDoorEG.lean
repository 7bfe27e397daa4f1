/- Walk of chapter 5's MayBury. -/
import Derived.Test.YtjhbofabmpfniaaGreatDoorE8
set_option linter.unusedSimpArgs false
set_option linter.unusedVariables false
set_option maxRecDepth 100000
set_option maxHeartbeats 4000000
namespace Go.Proofs.YtjhbofabmpfniaaGreatDoor
open Go.RowKit Go.Shelf
attribute [local go_sem] World.cell?_alloc_mark zae za3 zam za6 zas zat zau zav zaw zax zay
attribute [local go_sem] zaj zac
theorem zez {W:World} {b:Nat} {K V:Type} {ek:K->Value} {ev:V->Value} (h:W.heap[b]?=some (.map #[] 0)):MapS W b ek ev ([]:List (K×V)):=⟨#[],0,h,rfl,by simp,by simp⟩
def NewPost (w:World) (e:Ending) (w':World):Prop:=
 e= .returned (.agg #[.map (some (w.heap.size+1)), .map (some (w.heap.size+1+1)), .map (some (w.heap.size+1+1+1)), .slice none 0 0, .map (some (w.heap.size+1+1+1+1)), .map (some (w.heap.size+1+1+1+1+1))])/\
 w'.heap.size=w.heap.size+6/\(∀k,1<=k->k<=5->w'.heap[w.heap.size+k]?=some (.map #[] 0))/\Below w.heap.size w w'
theorem zjp {fn:Func} {p:Tmp} (h:fn.results= #[.cell p 138]) (tmps:Array Value) (w:World) (B:Nat) (x0 x1 x2 x3 x4 x5:Value) (hp:tmps.getD p undef= .pointer (some ⟨B,0,none⟩))
 (hx:w.heap[B]?=some (.cells #[x0,x1,x2,x3,x4,x5] 138)):(results fn tmps).run Tryz.prog w= .ok (.agg #[x0,x1,x2,x3,x4,x5]) w:=by
 obtain⟨h0,h1,h2,h3,h4,h5⟩:=cF6 hx;exact Ma5
theorem zgF (w:World):Calls Tryz.prog 123 #[] w (NewPost w):=by
 have cY:= @run_makeMap Tryz.prog;go_enter Tryz.func123,Tryz.ntmps123
 go_wp2_with fail
 refine bodyPost_ret (v:= .agg #[.map (some (w.heap.size+1)), .map (some (w.heap.size+1+1)), .map (some (w.heap.size+1+1+1)), .slice none 0 0, .map (some (w.heap.size+1+1+1+1)), .map (some (w.heap.size+1+1+1+1+1))]) ?_ rfl ?_
 ·refine zjp rfl _ _ w.heap.size _ _ _ _ _ _ rfl ?_;exact zal (zal (zal (zal (zal (zar _ _ _ rfl)))))
 ·refine⟨rfl,by simp,fun k h1 h2=> ?_,Bw⟩;obtain rfl|rfl|rfl|rfl|rfl:k=1\/k=2\/k=3\/k=4\/k=5:=by omega
  ·exact zal (zal (zal (zal (zar _ _ _ Mcq))))
  ·exact zal (zal (zal (zar _ _ _ Mcq)))
  ·exact zal (zal (zar _ _ _ Mcq))
  ·exact zal (zar _ _ _ Mcq)
  ·exact zar _ _ _ Mcq
theorem wld_new {base:Nat} {w W:World} (hb:base<=w.heap.size) (hs:w.heap.size+6=W.heap.size) (hm: ∀k,1<=k->k<=5->W.heap[w.heap.size+k]?=some (.map #[] 0)):
 WldAt base (W.alloc (.cells #[.map (some (w.heap.size+1)), .map (some (w.heap.size+1+1)), .map (some (w.heap.size+1+1+1)), .slice none 0 0, .map (some (w.heap.size+1+1+1+1)), .map (some (w.heap.size+1+1+1+1+1)), .slice none 0 0, .int .i64 0, .int .i64 0] 141)) W.heap.size zbz 0 0:=by
 have hk: ∀k,1<=k->k<=5->(W.alloc (.cells #[.map (some (w.heap.size+1)), .map (some (w.heap.size+1+1)), .map (some (w.heap.size+1+1+1)), .slice none 0 0, .map (some (w.heap.size+1+1+1+1)), .map (some (w.heap.size+1+1+1+1+1)), .slice none 0 0, .int .i64 0, .int .i64 0] 141)).heap[w.heap.size+k]?=some (.map #[] 0):=fun k h1 h2=>(Below.heap_alloc _ _ _ Mcn).trans (hm k h1 h2)
 refine⟨[],w.heap.size+1,w.heap.size+2,w.heap.size+3,w.heap.size+4,w.heap.size+5, .slice none 0 0, .slice none 0 0,[],by omega,zar _ _ _ rfl,⟨by simp,⟨by omega,by omega,by omega,by omega,by omega⟩,zez (hk 1 Mcn Mcn),⟨[],[],zez (hk 2 Mcn Mcn),zez (hk 3 Mcn Mcn),fun n=> .inl ⟨rfl,rfl⟩,fun n=> .inl ⟨rfl,rfl⟩,rfl,by simp,by simp,by simp⟩,OwnS.nil,⟨[],zez (hk 4 Mcn Mcn),fun n=> .inl ⟨rfl,rfl⟩⟩,zez (hk 5 Mcn Mcn)⟩,⟨OwnS.nil,rfl,by simp,fun i T g h=>by simp at h⟩⟩
section
variable {s:St} {d:Deed}
theorem grant_err:(zcN s d).2≠0->(zcN s d).1=s:=by
 unfold zcN;exact MQ
theorem zlU:(zbo s d).2≠0->(zbo s d).1=s:=by
 unfold zbo;exact MQ
theorem zkM:(zaZ s d).2≠0->(zaZ s d).1=s:=by
 unfold zaZ;exact MQ
theorem renew_err:(zcY s d).2≠0->(zcY s d).1=s:=by
 unfold zcY;exact MQ
theorem will_err:(zgT s d).2≠0->(zgT s d).1=s:=by
 unfold zgT;exact MQ
theorem zlV:(zb9 s d).2≠0->(zb9 s d).1=s:=by
 unfold zb9;exact MQ
theorem child_err:(zcD s d).2≠0->(zcD s d).1=s:=by
 unfold zcD;exact MQ
theorem marry_err:(zdr s d).2≠0->(zdr s d).1=s:=by
 unfold zdr;exact MQ
theorem death_err {laws:List Law}:(zdL laws s d).2≠0->(zdL laws s d).1=s:=by
 unfold zdL;exact MQ
theorem take_err {laws:List Law} (h:(zbm laws s d).2≠0):(zbm laws s d).1=s:=by
 revert h
 unfold zbm;split
 ·exact grant_err
 split
 ·exact zlU
 split
 ·exact zkM
 split
 ·exact renew_err
 split
 ·exact will_err
 split
 ·exact zlV
 split
 ·exact child_err
 split
 ·exact marry_err
 exact death_err
theorem zlW {laws:List Law} {co:Nat} {last:Int} (h:(zd2 laws s co last d).2≠0):(zd2 laws s co last d).1=s:=by
 revert h
 unfold zd2;split
 ·exact fun _=>rfl
 split
 ·exact fun _=>rfl
 exact take_err
theorem zlX {laws:List Law} {co:Nat} {last:Int} (h:za5 d=0):zbT laws s co last d=zd2 laws s co last d:=by
 unfold zbT zd2;rw[h];rfl
end
noncomputable def zcK (laws:List Law) (ds:List Deed) (upto:Int):St×Nat×Int:=
 if za8 laws != 0 then(zbz,0,za8 laws)else zdT laws upto ds zbz 0 0
def zoP (w:World) (R:St×Nat×Int) (e:Ending) (w':World):Prop:=
 ∃base b la co,e= .returned (.tuple #[.pointer (some ⟨b,0,none⟩), .int .i64 R.2.1, .int .i64 R.2.2])/\w.heap.size<=base/\WldAt base w' b R.1 la co/\Below w.heap.size w w'/\(∃last,GoodSt R.1 last)/\ ∃k,k<=60/\FewS k R.1
theorem zkN {laws:List Law} {s:St} {k:Nat} {last:Int} {d:Deed} (h:(zd2 laws s k last d).2=0) (hd:OkD d) (hG:GoodSt s last) (hF:FewS k s) (aU:za8 laws=0):k<60/\GoodSt (zd2 laws s k last d).1 d.day/\FewS (k+1) (zd2 laws s k last d).1:=by
 unfold zd2 at h⊢;split at h
 ·simp at h
 rename_i h1
 split at h
 ·simp at h
 rename_i h2
 rw[if_neg h1,if_neg h2];have hk:k<60:=McT;have hl:last<=d.day:=Mef;have ht:zbm laws s d=((zbm laws s d).1,0):=Prod.ext rfl h;exact⟨hk,zf7 hG hd hl aU ht,zkJ hF hk hG hd hl aU ht⟩
theorem zjU (laws:List Law) (ds:List Deed) (upto:Int) (LA:Option Addr) (n nc:Nat) (DA:Option Addr) (m mc:Nat) (w:World) (hR:RightsIn w laws ds LA n nc DA m mc) (hF:FormsIn w) (hL:LensIn w) (hO: ∀d∈ds,zc8 d):
 Calls Tryz.prog 59 #[.agg #[.slice LA n nc, .slice DA m mc], .int .i64 upto] w (zoP w (zcK laws ds upto)):=by
 obtain⟨R,hR⟩: ∃R,R=zcK laws ds upto:=⟨_,rfl⟩
 rw[<-hR];unfold zcK at hR;have HR:=zHi hR;clear hR;obtain⟨rfl,rfl,xi,kU,eH,gy⟩:=hR;have HF:=zHi hF;have HL:=zHi hL;have HO:=zHi hO;have cE:=zHi eH;have dD:=zHi gy;clear hF hL hO eH gy;go_enter Tryz.func59,Tryz.ntmps59
 go_upto_region 2 with(go_at_call 123;go_must(refine(zgF _).mono ?_);rintro e wq ⟨rfl,n1,n2,n3⟩;have N1:=zHi n1;have N2:=zHi n2;have N3:=zHi n3;clear n1 n2 n3)
 have bS:=wld_new (base:=w.heap.size+1) (w:=w.alloc (.cells #[.slice LA laws.length nc, .slice DA ds.length mc] 25)) (W:=wq) Mcq N1.o.symm N2.o;have hsz:=N1.o;simp only[World.size_alloc]at bS hsz;have aY:Below w.heap.size w wq:=Below.trans (zad (Below.refl _ _) _) (N3.o.mono Mcq);have fx:wq.heap[w.heap.size]?=some (.cells #[.slice LA laws.length nc, .slice DA ds.length mc] 25):=(N3.o.block _ Mcq).trans (zar _ _ _ rfl);have cW:=zab fx;have bB: ∀o,Below w.heap.size w (wq.alloc o):=fun o=>zad aY _ Mcn
 have rA: ∀o,(wq.alloc o).heap[w.heap.size]?=some (.cells #[.slice LA laws.length nc, .slice DA ds.length mc] 25):=fun o=>zal fx
 obtain⟨b,hb⟩: ∃b,b=wq.heap.size:=⟨_,rfl⟩
 rw[<-hb]at bS⊢;have h2:=bB (.cells #[.map (some (w.heap.size+1+1)), .map (some (w.heap.size+1+1+1)), .map (some (w.heap.size+1+1+1+1)), .slice none 0 0, .map (some (w.heap.size+1+1+1+1+1)), .map (some (w.heap.size+1+1+1+1+1+1)), .slice none 0 0, .int .i64 0, .int .i64 0] 141);have dC:=rA (.cells #[.map (some (w.heap.size+1+1)), .map (some (w.heap.size+1+1+1)), .map (some (w.heap.size+1+1+1+1)), .slice none 0 0, .map (some (w.heap.size+1+1+1+1+1)), .map (some (w.heap.size+1+1+1+1+1+1)), .slice none 0 0, .int .i64 0, .int .i64 0] 141);clear bB rA aY fx cW hsz N1 N2 N3 hb;generalize wq.alloc _=W2 at*;have nY:=zHi bS;have aB:=zHi h2;have av:=zHi dC;have aP:=zab dC;obtain⟨x0,x1⟩:=cF2 dC;have iI:=zHi (fun W (hB:Below W2.heap.size W2 W)=>zfO laws LA laws.length nc W rfl (cE.o.keep (h2.trans (hB.mono (Nat.le_of_lt aP)))));clear bS h2 dC;by_cases aU:za8 laws=0
 ·rw[aU]at iI HR;have cM:=zHi aU;clear aU;go_upto_block 0 with(go_at_call 124;go_must(refine(iI.o _ Bw).mono ?_);rintro e wq ⟨rfl,z,rfl⟩)
  clear iI x0 x1;go_cut [9,10,11,25]from 26 (fun _ _ _ _ W=> ∃s,Hid (R=(s,ds.length,0))/\ ∃la co,WldAt (w.heap.size+1) W b s la co/\Below w.heap.size w W/\W.heap[w.heap.size]?=some (.cells #[.slice LA laws.length nc, .slice DA ds.length mc] 25)/\(∃last,GoodSt s last)/\ ∃k,k<=60/\FewS k s)
  case first=>
   go_wp2_with fail
   go_loopw [25] (fun i wr=> ∃(k:Nat) (s:St) (last:Int),k<=ds.length/\i= .int .i64 k/\Hid (R=zdT laws upto (ds.drop k) s k last)/\Hid (WldAt (w.heap.size+1) wr b s last k)/\Hid (GoodSt s last)/\Hid (FewS k s)/\k<=60/\Below w.heap.size w wr/\wr.heap[w.heap.size]?=some (.cells #[.slice LA laws.length nc, .slice DA ds.length mc] 25)) (fun i _=>ds.length-(intOf i).toNat)
   case atStart=>
    refine⟨0,zbz,0,Nat.zero_le _,rfl,?_,nY.o.keep (n:=W2.heap.size) Bw,zdQ 0,zfG,by omega,?_,?_⟩
    ·show _=_;rw[HR.o];simp
    ·exact aB.o.trans (Below.mono (B:=W2.heap.size) Bw (Nat.le_of_lt aP))
    ·exact zb2 av.o
   case round=>
    obtain⟨k,s,last,hk,rfl,HX,HW,HG,mY,fe,hB,hX⟩:=hrel;clear nY aB av HR;obtain x0:=cF1 hX;have dP:=zab hX;have HB:=zHi hB;have pg:=zHi hX;by_cases aa:k<ds.length
    ·obtain⟨db,off,cs,hA,JU,⟨B,c,au,bl,hS⟩,hc⟩:=(dD.o.keep zbM hB).at aa;subst hA bl;have aj:=HX.o;rw[List.drop_eq_getElem_cons aa,zdT,<-List.drop_eq_getElem_cons aa]at aj;have bJ:=HO.o ds[k] (List.getElem_mem aa);have jW: ∀W,Below wr.heap.size wr W->_:=fun W hW=>zeh ds[k] B c W (HF.o.keep (hB.trans (hW.mono (Nat.le_of_lt dP)))) bJ au (hS.keep hW)
     have dS: ∀W,Below wr.heap.size wr W->OkD ds[k]->_:=fun W hW hd=>zkL (w.heap.size+1) b s k last laws LA nc ds[k] B c W (HW.o.keep hW) HG.o mY.o hd cM.o (HL.o.keep (hB.trans (hW.mono (Nat.le_of_lt dP)))) (cE.o.keep (hB.trans (hW.mono (Nat.le_of_lt dP)))) au (hS.keep hW)
     rw[zeJ]at jW;have am:=zHi aa;have lC:=zHi (show k+(ds.drop k).length=ds.length by rw[List.length_drop];omega);have aD:=zHi aj;have dH:=zHi jW;have dW:=zHi dS;generalize ds[k]=d at*;clear aj bJ jW dS hX hB hS;have bo:OkD d->(zd2 laws s k last d).2=0->k<60/\GoodSt (zd2 laws s k last d).1 d.day/\FewS (k+1) (zd2 laws s k last d).1:=fun hd h=>zkN h hd HG.o mY.o cM.o
     have jw:za5 d=0->OkD d:=zdP;have oI:=fun h=>zlX (laws:=laws) (s:=s) (co:=k) (last:=last) (d:=d) h
     obtain⟨kd,dy,pl,fr,ts,cl,yr⟩:=d;have i0:wr.cell? ⟨db,off+k*7,none⟩=some (.int .i64 kd):=hc 0 _ rfl;have i1:wr.cell? ⟨db,off+k*7+1,none⟩=some (.int .i64 dy):=hc 1 _ rfl;have i2:wr.cell? ⟨db,off+k*7+2,none⟩=some (.string pl):=hc 2 _ rfl;have i3:wr.cell? ⟨db,off+k*7+3,none⟩=some (.string fr):=hc 3 _ rfl;have i4:wr.cell? ⟨db,off+k*7+4,none⟩=some (.slice B ts.length c):=hc 4 _ rfl;have i5:wr.cell? ⟨db,off+k*7+5,none⟩=some (.int .i64 cl):=hc 5 _ rfl;have i6:wr.cell? ⟨db,off+k*7+6,none⟩=some (.int .i64 yr):=hc 6 _ rfl;have ar:(k:Int)<(ds.length:Int):=Mcn;have aT:(0:Int)<=(k:Int):=Mcn;have FY:(k:Int)<=(mc:Int):=Mcn;have kE:w.heap.size≠wr.heap.size:=Mcn;unfold Deed.v at dW;simp only at oI bo dW aD;clear hc;by_cases hce:za5 ⟨kd,dy,pl,fr,ts,cl,yr⟩=0
     ·have mM:=jw hce;have aj:=aD.o;rw[hce,oI hce]at aj;rw[hce]at dH;have jD:=bo mM;have iP:=fun h=>zlW (laws:=laws) (s:=s) (d:=⟨kd,dy,pl,fr,ts,cl,yr⟩) (co:=k) (last:=last) h
      have gu:=zHi (fun W hW=>dW.o W hW mM);clear aD dW oI bo jw mM;generalize zd2 laws s k last ⟨kd,dy,pl,fr,ts,cl,yr⟩=x at*;generalize za5 ⟨kd,dy,pl,fr,ts,cl,yr⟩=ce at*;obtain⟨s',er⟩:=x;by_cases gC:upto<dy
      ·have bz:Hid (R=(s,ds.length,0)):=by
        show _=_;rw[aj,if_pos (by simp[gC]),lC.o]
       clear aj jD iP gu lC;go_wp2_with (go_at_call 68;go_must(refine(dH.o _ Bw).mono ?_);rintro e wq ⟨rfl,z,rfl⟩)
       go_meet
       exact⟨s,bz.o,last,k,HW.o.keep (n:=wr.heap.size) Bw,HB.o.trans (Below.mono (B:=wr.heap.size) Bw Mcn),by repeat(first|assumption|with_reducible refine zal ?_|with_reducible refine zb2 ?_|with_reducible refine J_ne Mcn ?_),⟨last,HG.o⟩,k,fe,mY.o⟩
      ·have cq:R=if(er != 0)=true then(s,k,er)else zdT laws upto (ds.drop (k+1)) s' (k+1) dy:=by rw[aj,if_neg (by simp[gC])]
       have cN:=zHi cq;have mq:=dH.o;clear aj cq lC;by_cases h0:er=0
       ·subst h0;obtain⟨jB,oh,vw⟩:=jD rfl;have fN:=zHi oh;have uw:=zHi vw;have l9:=wrap_k (k:=k) (Nat.lt_trans jB Mcp);have u9:=znd (k:=k) (Nat.lt_trans jB Mcp);clear jD iP oh vw mq
        go_wp2_with (first
         |(go_at_call 68;go_must(refine(dH.o _ Bw).mono ?_);rintro e wq ⟨rfl,z,rfl⟩)
         |(go_at_call 69
           go_must(refine(gu.o _ Bw).mono ?_)
           rintro e wq ⟨rfl,t1,t2⟩;simp only[if_true]at t1;have T1:=zHi t1;have aZ:Below w.heap.size w wq:=(HB.o.trans (Below.mono (B:=wr.heap.size) Bw (Nat.le_of_lt dP))).trans (t2.mono (Nat.le_succ _));have yD:=(t2.block w.heap.size (Nat.lt_succ_self _)).trans (show _=some (.cells #[.slice LA laws.length nc, .slice (some ⟨db,off,none⟩) ds.length mc] 25) from by have hX:=pg.o;repeat(first|assumption|with_reducible refine zal ?_|with_reducible refine zb2 ?_|with_reducible refine J_ne Mcn ?_));have aW:=zHi aZ;have pf:=zHi yD
           clear t1 t2 aZ yD))
        go_round
        case rel=>
         clear l9 u9;refine⟨k+1,s',dy,am.o,by go_num,?_,T1.o,fN.o,uw.o,jB,aW.o,pf.o⟩;show _=_;rw[cN.o];simp
        case measure=>clear l9 u9;have:=am.o;simp only[intOf];omega
       ·have hs:=iP h0;simp only at hs;subst hs;have bz:Hid (R=(s',k,er)):=by
         show _=_;rw[cN.o,if_pos Mdh]
        clear jD iP cN mq
        go_wp2_with (first
         |(go_at_call 68;go_must(refine(dH.o _ Bw).mono ?_);rintro e wq ⟨rfl,z,rfl⟩)
         |(go_at_call 69
           go_must(refine(gu.o _ Bw).mono ?_)
           rintro e wq ⟨rfl,t1,t2⟩;have T1:=zHi t1;have aZ:Below w.heap.size w wq:=(HB.o.trans (Below.mono (B:=wr.heap.size) Bw (Nat.le_of_lt dP))).trans (t2.mono (Nat.le_succ _));have aW:=zHi aZ
           clear t1 t2 aZ))
        go_ret3
        rw[bz.o];exact⟨w.heap.size+1,b,_,_,rfl,by omega,T1.o,aW.o,⟨last,HG.o⟩,k,fe,mY.o⟩
     ·have ai:(zbT laws s k last ⟨kd,dy,pl,fr,ts,cl,yr⟩)=(s,za5 ⟨kd,dy,pl,fr,ts,cl,yr⟩):=by
       unfold zbT;rw[if_pos MdR]
      have aj:=aD.o;rw[ai]at aj;generalize za5 ⟨kd,dy,pl,fr,ts,cl,yr⟩=ce at*;have bz:Hid (R=(s,k,ce)):=by
       show _=_;rw[aj,if_neg (by simp[hce]),if_pos MdR]
      clear aj ai aD dW oI bo jw lC;go_wp2_with (go_at_call 68;go_must(refine(dH.o _ Bw).mono ?_);rintro e wq ⟨rfl,z,rfl⟩)
      go_ret3
      rw[bz.o];exact⟨w.heap.size+1,b,last,k,rfl,by omega,HW.o.keep (n:=wr.heap.size) Bw,HB.o.trans (Below.mono (B:=wr.heap.size) Bw Mcn),⟨last,HG.o⟩,k,fe,mY.o⟩
    ·have ar: ¬(k:Int)<(ds.length:Int):=Mcn;have hx:=HX.o;rw[List.drop_eq_nil_of_le Mcn,zdT]at hx;have kx:k=ds.length:=Mcn;have bz:Hid (R=(s,ds.length,0)):=by show _=_;rw[hx,kx]
     clear hx kx hX hB;go_wp2_with fail
     go_meet
     exact⟨s,bz.o,last,k,HW.o,HB.o,pg.o,⟨last,HG.o⟩,k,fe,mY.o⟩
  case rest=>
   obtain⟨s,bz,la,co,hW,hB,hX,hg,hf⟩:=hcut;obtain⟨-,x1⟩:=cF2 hX;have dP:=zab hX;have HW:=zHi hW;have HB:=zHi hB;clear hW hB hX;go_upto_region 15 with fail
   go_quiet (fail)
   go_wp2_with fail
   go_ret3
   rw[bz.o];exact⟨w.heap.size+1,b,la,co,rfl,by omega,HW.o.keep (n:=wc.heap.size) Bw,HB.o.trans (Below.mono (B:=wc.heap.size) Bw Mcn),hg,hf⟩
 ·generalize za8 laws=er at*;have ai:(er != 0)=true:=by simpa using aU
  have bz:Hid (R=(zbz,0,er)):=by show _=_;rw[HR.o,if_pos ai]
  clear HR;go_wp2_with (go_at_call 124;go_must(refine(iI.o _ Bw).mono ?_);rintro e wq ⟨rfl,z,rfl⟩)
  go_ret3
  rw[bz.o];exact⟨w.heap.size+1,b,0,0,rfl,by omega,nY.o.keep (n:=W2.heap.size) Bw,aB.o.trans (Below.mono (B:=W2.heap.size) Bw Mcn),⟨0,zdQ 0⟩,0,by omega,zfG⟩
theorem ifStr_any (g:Nat) (lb:Array Value) (eg: ∀args w,(callFunc g args).run Tryz.prog w= .ok (.enter g args) w) (p:ByteArray->Bool) (A:Option Addr) (c:Nat) (xs:List ByteArray) (w:World) (hl:xs.length<=100000)
 (hS:Sl w 1 sC A xs) (hp:zff g lb (fun s=> .string s) p xs w):Calls Tryz.prog 188 #[.slice A xs.length c, .func (.func g) #[] lb] w (fun e w'=> ∃i:Int,e= .returned (.int .i64 i)/\decide (0<=i)=xs.any p/\Below w.heap.size w w'):=by
 have HS:=zHi hS;have HP:=zHi hp;clear hS hp;go_enter Tryz.func188,Tryz.ntmps188
 go_wp2_with fail
 go_loopw [8] (fun i wr=> ∃k:Nat,k<=xs.length/\i= .int .i64 k/\Hid (xs.any p=(xs.drop k).any p)/\Below w.heap.size w wr) (fun i _=>xs.length-(intOf i).toNat)
 case atStart=>exact⟨0,Nat.zero_le _,rfl,by show _=_;rw[List.drop_zero],Below.refl _ _⟩
 case round=>
  obtain⟨k,hk,rfl,HX,hB⟩:=hrel;have HB:=zHi hB;by_cases aa:k<xs.length
  ·obtain⟨b,off,rfl,hb,hc⟩:=(HS.o.keep hB).at aa;have i0:wr.cell? ⟨b,off+k,none⟩=some (.string xs[k]):=Mdy;have hx:=HX.o;rw[List.drop_eq_getElem_cons aa,List.any_cons]at hx;have bI: ∀W,Below w.heap.size w W->Calls Tryz.prog g (#[.string xs[k]]++lb) W fun e w'=>e= .returned (.bool (p xs[k]))/\Below w.heap.size w w':=fun W hW=>HP.o xs[k] (List.getElem_mem aa) W hW
   generalize xs[k]=x at*;generalize hpx:p x=px at*;have av:=zHi hx;have ar:(k:Int)<(xs.length:Int):=Mcn;have aT:(0:Int)<=(k:Int):=Mcn;have am:=zHi aa;have cd:=zHi bI;clear hc hx bI HX hpx;cases px
   ·go_wp2_with (go_at_fn g;refine(cd.o _ HB.o).mono ?_;rintro e w' ⟨rfl,h1⟩)
    go_round
    case rel=>exact⟨k+1,am.o,by go_num,by show _=_;rw[av.o];simp,h1⟩
    case measure=>have:=am.o;simp only[intOf];omega
   ·go_wp2_with (go_at_fn g;refine(cd.o _ HB.o).mono ?_;rintro e w' ⟨rfl,h1⟩)
    go_ret
    exact⟨k,rfl,by rw[av.o];simp,h1⟩
  ·have ar: ¬(k:Int)<(xs.length:Int):=Mcn;have hx:=HX.o;rw[List.drop_eq_nil_of_le Mcn]at hx;have av:=zHi hx;clear hx hB;go_wp2_with fail
   go_ret
   exact⟨-1,rfl,by rw[av.o];simp,HB.o⟩
theorem zlY (g:Nat) (lb:Array Value) (eg: ∀args w,(callFunc g args).run Tryz.prog w= .ok (.enter g args) w) (p:ByteArray->Bool) (A:Option Addr) (n c:Nat) (xs:List ByteArray) (w:World) (hn:n=xs.length) (hl:xs.length<=100000)
 (hS:Sl w 1 sC A xs) (hp:zff g lb (fun s=> .string s) p xs w):Calls Tryz.prog 128 #[.slice A n c, .func (.func g) #[] lb] w (Ret w (.bool (xs.any p))):=by
 subst hn;have HI:=zHi (ifStr_any g lb eg p A c xs w hl hS hp);clear hS hp;go_enter Tryz.func128,Tryz.ntmps128
 go_wp2_with (go_at_call 188;refine HI.o.mono ?_;rintro e wq ⟨i,rfl,hi,hB⟩)
 go_ret
 rw[<-hi];exact Ret.of rfl hB
theorem onn_any (s:ByteArray) (W:World) (hs:s.size<=100000):Calls Tryz.prog 129 #[.string s] W (Ret W (.bool (!zaR s))):=by
 go_enter Tryz.func129,Tryz.ntmps129
 exact MaA
theorem onn_gives (xs:List ByteArray) (w:World) (hs: ∀s∈xs,s.size<=100000):zff 129 #[] (fun s=> .string s) (fun s=>!zaR s) xs w:=fun x hx W hW=>by
 refine(onn_any x W (hs x hx)).mono ?_;exact Ma2
theorem zjV (laws:List Law) (u u':Int): ∀(ds:List Deed) (s t t':St) (k:Nat) (l:Int),(zaV laws u ds s t k l).2=(zaV laws u' ds s t' k l).2
 | [],_,_,_,_,_=>rfl
 |d::ds,s,t,t',k,l=>by
  rw[zaV,zaV];split
  ·rfl
  ·exact zjV laws u u' ds _ _ _ _ _
noncomputable def zcG (laws:List Law) (ds:List Deed) (names:List ByteArray) (day:Int):Int:=
 if(zcK laws ds 200000).2.2 != 0 then(zcK laws ds 200000).2.2 else if names.any (fun s=>!zaR s)then 4 else if !zbk day then 2 else 0
theorem zed (laws:List Law) (ds:List Deed):(zcK laws ds 200000).2=(zaL laws ds 200000).2:=by
 unfold zcK zaL;split
 ·rfl
 ·exact znL (Int.le_refl _)
theorem zoQ {laws:List Law} {ds:List Deed} (h:(zcK laws ds 200000).2.2=0) (day:Int):(zcK laws ds day).1=(zaL laws ds day).1/\(zcK laws ds day).2.2=0:=by
 rw[zed]at h;unfold zaL at h;unfold zcK zaL;split at h
 ·rename_i hc
  rw[if_pos hc,if_pos hc];exact⟨rfl,h⟩
 ·rename_i hc
  rw[if_neg hc,if_neg hc];exact zlo (by rw[zjV laws day 200000 ds zbz zbz zbz];exact h)
theorem ziR (laws:List Law) (ds:List Deed) (LA:Option Addr) (n nc:Nat) (DA:Option Addr) (m mc:Nat) (w:World) (hR:RightsIn w laws ds LA n nc DA m mc) (hF:FormsIn w) (hL:LensIn w) (hO: ∀d∈ds,zc8 d):
 Calls Tryz.prog 15 #[.agg #[.slice LA n nc, .slice DA m mc]] w (Ret w (.tuple #[.int .i64 (zcK laws ds 200000).2.1, .int .i64 (zcK laws ds 200000).2.2])):=by
 have oN:=fun W (hB:Below w.heap.size w W)=>zjU laws ds 200000 LA n nc DA m mc W (hR.keep hB) (hF.keep hB) (hL.keep hB) hO
 clear hR hF hL hO;generalize zcK laws ds 200000=R at*;have fm:=zHi oN;clear oN;go_enter Tryz.func15,Tryz.ntmps15
 go_wp2_with (go_at_call 59;go_must(refine(fm.o _ Bw).mono ?_);rintro e wq ⟨base,b,la,co,rfl,h1,h2,h3,h4,h5⟩;have H3:=zHi h3;clear h1 h2 h3 h4 h5)
 go_ret2
 exact Ret.of rfl (Below.trans (zad (Below.refl _ _) _) (H3.o.mono Mcq))
def zlZ (w:World) (laws:List Law) (ds:List Deed) (names:List ByteArray) (day:Int) (e:Ending) (w':World):Prop:=
 Below w.heap.size w w'/\((zcG laws ds names day≠0/\e= .returned (.tuple #[.pointer none, .int .i64 (zcG laws ds names day)]))\/
  (zcG laws ds names day=0/\ ∃base b la co,e= .returned (.tuple #[.pointer (some ⟨b,0,none⟩), .int .i64 0])/\w.heap.size<=base/\WldAt base w' b (zaL laws ds day).1 la co/\(∃last,GoodSt (zaL laws ds day).1 last)/\ ∃k,k<=60/\FewS k (zaL laws ds day).1))
theorem on_any (laws:List Law) (ds:List Deed) (day:Int) (names:List ByteArray) (LA:Option Addr) (n nc:Nat) (DA:Option Addr) (m mc:Nat) (NA:Option Addr) (l c:Nat) (w:World) (hR:RightsIn w laws ds LA n nc DA m mc) (hF:FormsIn w) (hL:LensIn w) (hO: ∀d∈ds,zc8 d)
 (hl:l=names.length) (eJ:names.length<=100000) (hN: ∀s∈names,s.size<=100000) (hS:Sl w 1 sC NA names):
 Calls Tryz.prog 63 #[.agg #[.slice LA n nc, .slice DA m mc], .int .i64 day, .slice NA l c] w (zlZ w laws ds names day):=by
 subst hl;have eg: ∀args w,(callFunc 129 args).run Tryz.prog w= .ok (.enter 129 args) w:=enters_of Tryz.func129 Mco rfl;have l7:=fun W (hB:Below w.heap.size w W)=>ziR laws ds LA n nc DA m mc W (hR.keep hB) (hF.keep hB) (hL.keep hB) hO
 have oN:=fun W (hB:Below w.heap.size w W)=>zjU laws ds day LA n nc DA m mc W (hR.keep hB) (hF.keep hB) (hL.keep hB) hO
 have wB:=fun W (hB:Below w.heap.size w W)=>zlY 129 #[] eg (fun s=>!zaR s) NA names.length c names W rfl eJ (hS.keep hB) (onn_gives names W hN)
 have iG:=zoQ (laws:=laws) (ds:=ds) (day:=day);have he:zcG laws ds names day=if(zcK laws ds 200000).2.2 != 0 then(zcK laws ds 200000).2.2 else if names.any (fun s=>!zaR s)then 4 else if !zbk day then 2 else 0:=rfl;unfold zlZ;generalize zcG laws ds names day=E at*;obtain⟨R,rm⟩: ∃R,R=zcK laws ds 200000:=⟨_,rfl⟩
 rw[<-rm]at l7 iG he;obtain⟨⟨S0,n0,er⟩,Fn⟩: ∃x,x=R:=⟨_,rfl⟩
 subst Fn;simp only at l7 iG he;generalize hna:names.any (fun s=>!zaR s)=na at*;have kQ:=zHi l7;have fm:=zHi oN;have sQ:=zHi wB;clear l7 oN wB hR hF hL hO hS hN rm hna eg;by_cases h0:er=0
 ·subst h0;have pB:E=if na then 4 else if !zbk day then 2 else 0:=by rw[he];rfl
  obtain⟨tY,tZ⟩:=iG rfl;clear he iG;cases na
  ·generalize gZ:zbk day=dd at*;cases dd
   ·have hE:E=2:=by rw[pB];rfl
    subst hE;clear pB tY tZ;go_enter Tryz.func63,Tryz.ntmps63
    go_wp2_with (first
     |(go_at_call 15;refine(kQ.o _ Bw).mono ?_;rintro e wq ⟨rfl,zq,rfl⟩)
     |(go_at_call 128;refine(sQ.o _ Bw).mono ?_;rintro e wq ⟨rfl,zq,rfl⟩)
     |(go_at_call 77;refine(zcO _ _).mono ?_;rintro e wq ⟨rfl,rfl⟩;rw[gZ]))
    go_ret2
    exact⟨Bw, .inl ⟨by decide,rfl⟩⟩
   ·have hE:E=0:=by rw[pB];rfl
    subst hE;rw[<-tY];clear pB tY;generalize zcK laws ds day=R at*;obtain⟨S1,n1,e1⟩:=R;simp only at tZ;subst tZ;try simp only at fm
    go_enter Tryz.func63,Tryz.ntmps63
    go_wp2_with (first
     |(go_at_call 15;refine(kQ.o _ Bw).mono ?_;rintro e wq ⟨rfl,zq,rfl⟩)
     |(go_at_call 128;refine(sQ.o _ Bw).mono ?_;rintro e wq ⟨rfl,zq,rfl⟩)
     |(go_at_call 77;refine(zcO _ _).mono ?_;rintro e wq ⟨rfl,rfl⟩;rw[gZ])
     |(go_at_call 59;go_must(refine(fm.o _ Bw).mono ?_);rintro e wq ⟨base,b,la,co,rfl,h1,h2,h3,h4,h5⟩;have H1:=zHi h1;have H2:=zHi h2;have H3:=zHi h3;have H4:=zHi h4;have H5:=zHi h5;clear h1 h2 h3 h4 h5))
    go_ret2
    have h1:=H1.o;refine⟨Below.trans Bw (H3.o.mono ?_), .inr ⟨by first|rfl|trivial,base,b,la,co,rfl,Nat.le_trans ?_ h1,H2.o,H4.o,H5.o⟩⟩
    ·simp[zae];omega
    ·simp[zae];omega
  ·have hE:E=4:=by rw[pB];rfl
   subst hE;clear pB tY tZ;go_enter Tryz.func63,Tryz.ntmps63
   go_wp2_with (first
    |(go_at_call 15;refine(kQ.o _ Bw).mono ?_;rintro e wq ⟨rfl,zq,rfl⟩)
    |(go_at_call 128;refine(sQ.o _ Bw).mono ?_;rintro e wq ⟨rfl,zq,rfl⟩))
   go_ret2
   exact⟨Bw, .inl ⟨by decide,rfl⟩⟩
 ·have hE:E=er:=by rw[he,if_pos Mdh]
  subst hE;clear he iG;go_enter Tryz.func63,Tryz.ntmps63
  go_wp2_with (go_at_call 15;refine(kQ.o _ Bw).mono ?_;rintro e wq ⟨rfl,zq,rfl⟩)
  go_ret2
  exact⟨Bw, .inl ⟨h0,rfl⟩⟩
def zfH (s:St) (place:ByteArray) (day:Int):Parts:=match zaO s place day with
 |none=>[]
 |some i=>(s.graves.getD i zfb).holders
def ziS (w:World) (laws:List Law) (ds:List Deed) (place:ByteArray) (day:Int) (e:Ending) (w':World):Prop:=
 Below w.heap.size w w'/\((zcG laws ds [place] day≠0/\e= .returned (.tuple #[.slice none 0 0, .int .i64 (zcG laws ds [place] day)]))\/
  (zcG laws ds [place] day=0/\ ∃A c,e= .returned (.tuple #[.slice A (zfH (zaL laws ds day).1 place day).length c, .int .i64 0])/\(zfH (zaL laws ds day).1 place day).length<=c/\Sl w' 3 zaa A (zfH (zaL laws ds day).1 place day)))
theorem zne (laws:List Law) (ds:List Deed) (place:ByteArray) (day:Int) (LA:Option Addr) (n nc:Nat) (DA:Option Addr) (m mc:Nat) (w:World) (hR:RightsIn w laws ds LA n nc DA m mc) (hF:FormsIn w) (hL:LensIn w) (hO: ∀d∈ds,zc8 d) (hp:place.size<=100000):
 Calls Tryz.prog 18 #[.agg #[.slice LA n nc, .slice DA m mc], .string place, .int .i64 day] w (ziS w laws ds place day):=by
 have pQ:=fun W (hB:Below w.heap.size w W) NA (hS:Sl W 1 sC NA [place])=>on_any laws ds day [place] LA n nc DA m mc NA 1 1 W (hR.keep hB) (hF.keep hB) (hL.keep hB) hO rfl Mcq (by simpa using hp) hS
 have kN:=zHi pQ;unfold ziS;clear pQ hR hF hL hO;unfold zlZ at kN;generalize zcG laws ds [place] day=E at*;generalize(zaL laws ds day).1=s at*;generalize bw:zfH s place day=xs at*;have cf:=zHi bw;clear bw;go_enter Tryz.func18,Tryz.ntmps18
 by_cases h0:E=0
 ·subst h0
  go_upto_region 4 with(go_at_call 63
                        go_must(refine(kN.o _ Bw _ (zdj (zar _ _ _ Mcq))).mono ?_)
                        rintro e wq ⟨h1,⟨ai,_⟩|⟨_,base,b,la,co,rfl,h2,h3,h4,h5⟩⟩
                        ·exact absurd rfl ai
                        have H1:=zHi h1;have H3:=zHi h3;have H5:=zHi h5
                        clear h1 h2 h3 h4 h5)
  obtain⟨Bk,dd,cc,pp,wl,rr,mv,tv,ps,aY,hC,hP,hT⟩:=H3.o;obtain⟨k,fe,cg⟩:=H5.o;have cz:=cg.graves;have aO:=fun W (hB:Below wq.heap.size wq W)=>zjI base b s la co place day W (hC.keep hB) (hT.keep hB) Mcn
  have aS:Below w.heap.size w wq:=Below.trans (zad (zad (Below.refl _ _) _) _ Mcq) (H1.o.mono Mcr);have aA:=zHi aS;have bw:=cf.o;unfold zfH at bw;clear cf;cases aL:zaO s place day with
  |none=>
   rw[aL]at aO bw;subst bw;have bF:=zHi aO;clear aO hC hP hT cg aS;go_wp2_with (go_at_call 64;go_must(refine(bF.o _ Bw).mono ?_);rintro e wz ⟨rfl,z,rfl⟩;simp only[zlx,Option.map_none])
   go_ret2
   exact⟨aA.o.trans (Below.mono (B:=wq.heap.size) Bw aA.o.size),none,⟨0,rfl⟩,fun h=>absurd h Mcq⟩
  |some i=>
   obtain⟨T,g,ia,iC,aN,bP,gV,_⟩:=zey hT aL;rw[aL]at aO bw;simp only[bP]at bw;subst bw;obtain⟨H,aV,D,dc,frm,t1,t2,t3,t4,t5,t6,t7⟩:=gV;have cV:=zab t1;have mD: ∀W,Below wq.heap.size wq W->Calls Tryz.prog 64 #[.pointer (some ⟨b,0,none⟩), .string place, .int .i64 day] W (Ret W (.pointer (some ⟨T,0,none⟩))):=fun W hB=>by
    have:=aO W hB;simpa only[zlx,Option.map_some,iC]using this
   have bF:=zHi mD;unfold zbt at t1;obtain⟨-,-,-,-,k4⟩:=cF5 t1;have T5:=zHi t5;clear aO mD hC hP hT cg aS t1 t5 t6 t7 bP aN iC ia aL;go_wp2_with (go_at_call 64;go_must(refine(bF.o _ Bw).mono ?_);rintro e wz ⟨rfl,z,rfl⟩)
   go_ret2
   exact⟨aA.o.trans (Below.mono (B:=wq.heap.size) Bw aA.o.size),H,aV,rfl,t3,(Ro.sl zao T5.o).keep (n:=wq.heap.size) Bw⟩
 ·go_wp2_with (go_at_call 63
               go_must(refine(kN.o _ Bw _ (zdj (zar _ _ _ Mcq))).mono ?_)
               rintro e wq ⟨h1,⟨_,rfl⟩|⟨he,_⟩⟩;rotate_left 1
               ·exact absurd he h0
               have H1:=zHi h1
               clear h1)
  go_ret2
  exact⟨Below.trans (zad (zad (Below.refl _ _) _) _ Mcq) (H1.o.mono Mcr), .inl ⟨h0,rfl⟩⟩
def zdW (w:World) (laws:List Law) (ds:List Deed) (place:ByteArray) (ns:List ByteArray) (day:Int) (e:Ending) (w':World):Prop:=
 Below w.heap.size w w'/\((zcG laws ds (place::ns) day≠0/\e= .returned (.tuple #[.pointer none, .pointer none, .int .i64 (zcG laws ds (place::ns) day)]))\/
  (zcG laws ds (place::ns) day=0/\zaO (zaL laws ds day).1 place day=none/\e= .returned (.tuple #[.pointer none, .pointer none, .int .i64 12]))\/
  (zcG laws ds (place::ns) day=0/\ ∃base b la co B T i g,zaO (zaL laws ds day).1 place day=some i/\(zaL laws ds day).1.graves[i]?=some g/\e= .returned (.tuple #[.pointer (some ⟨b,0,none⟩), .pointer (some ⟨T,0,none⟩), .int .i64 0])/\w.heap.size<=base/\WldAt base w' b (zaL laws ds day).1 la co/\TombAt w' base B T g/\(∃last,GoodSt (zaL laws ds day).1 last)/\ ∃k,k<=60/\FewS k (zaL laws ds day).1))
theorem zfv (laws:List Law) (ds:List Deed) (place:ByteArray) (ns:List ByteArray) (day:Int) (LA:Option Addr) (n nc:Nat) (DA:Option Addr) (m mc:Nat) (NA:Option Addr) (l c:Nat) (w:World) (hR:RightsIn w laws ds LA n nc DA m mc) (hF:FormsIn w) (hL:LensIn w) (hO: ∀d∈ds,zc8 d) (hp:place.size<=100000)
 (hl:l=ns.length) (eJ:ns.length<=1000) (hN: ∀s∈ns,s.size<=100000) (hS:Sl w 1 sC NA ns):
 Calls Tryz.prog 65 #[.agg #[.slice LA n nc, .slice DA m mc], .int .i64 day, .string place, .slice NA l c] w (zdW w laws ds place ns day):=by
 subst hl;have pQ:=fun W (hB:Below w.heap.size w W) XA xc (hS:Sl W 1 sC XA (place::ns))=>on_any laws ds day (place::ns) LA n nc DA m mc XA (1+ns.length) xc W (hR.keep hB) (hF.keep hB) (hL.keep hB) hO Mcr Mcr (by simpa using⟨hp,hN⟩) hS
 have kN:=zHi pQ;have HS:=zHi hS;unfold zdW;clear pQ hR hF hL hO hS;unfold zlZ at kN;generalize zcG laws ds (place::ns) day=E at*;generalize(zaL laws ds day).1=s at*;go_enter Tryz.func65,Tryz.ntmps65
 go_upto_region 1 with fail
 go_cut [11,12]from 14 to 24 (fun v11 v12 W=>Below w.heap.size w W/\((E≠0/\v11= .pointer none/\v12= .int .i64 E)\/(E=0/\v12= .int .i64 0/\ ∃base b la co,v11= .pointer (some ⟨b,0,none⟩)/\w.heap.size<=base/\WldAt base W b s la co/\(∃last,GoodSt s last)/\ ∃k,k<=60/\FewS k s)))
 case first=>
  refine wp_region_held_drew (S:=(fun w'=>w'.cell? ⟨w.heap.size,0,none⟩=some (.slice LA n nc)/\w'.cell? ⟨w.heap.size,1,none⟩=some (.slice DA m mc))) Mco ?hS ?hrest
  case hS=>refine⟨?_,?_⟩<;>(simp[go_sem];done)
  case hrest=>
   intro hHeld;refine TkH 0 ?_;refine TkH 1 ?_;refine TkH 2 ?_;refine TkH 4 ?_;refine OnH 3 fun K hK=> ?_
   go_simp
   have Fw:Below w.heap.size w (w.alloc (.cells #[.slice LA n nc, .slice DA m mc] 25)).drew:=Bw;have bl: ∀W,Below (w.heap.size+1) (w.alloc (.cells #[.slice LA n nc, .slice DA m mc] 25)).drew W->W.cell? ⟨w.heap.size,0,none⟩=some (.slice LA n nc)/\W.cell? ⟨w.heap.size,1,none⟩=some (.slice DA m mc):=fun W hW=>by
    refine⟨(zah hW (Nat.lt_succ_self _)).trans ?_,(zah hW (Nat.lt_succ_self _)).trans ?_⟩<;>(simp[go_sem];done)
   have eh:=zHi bl;clear bl;have aS:Below (w.heap.size+1) (w.alloc (.cells #[.slice LA n nc, .slice DA m mc] 25)).drew ((w.alloc (.cells #[.slice LA n nc, .slice DA m mc] 25)).drew.alloc (.cells #[.string place] 9)):=zad (Below.refl _ _) _ Mcq;refine NxM hK (fun hHeld=> ?_) (eh.o _ aS);clear hK K;refine OnH 5 fun K hK=> ?_
   refine zak (v:= .slice (some ⟨w.heap.size+1,0,none⟩) 1 1) (n:=1) (m:=ns.length) rfl _ _ rfl zbL zaD zbK rfl (base:=w.heap.size+1) (xs:=[place]) (ys:=ns) (.inr ⟨w.heap.size+1,0,1,#[.string place],rfl,by omega,zar _ _ _ Mcq,Nat.le_refl _,by simp[maxLen],by simp,fun j u hj=> ?hel⟩) rfl rfl rfl (HS.o.keep (n:=w.heap.size) Bw) McL Mcn Mcq ?happ
   case hel=>
    match j,hj with
    |0,hj=>simpa[sC]using hj
    |j+1,hj=>simp[sC]at hj
   case happ=>
    intro v6 w6 h1 h2 h3;obtain⟨A6,c6,dA,hS6,_⟩:=h1.sl zaD;rw[show([place]++ns).length=1+ns.length by simp;omega]at dA;subst dA;have aI:Below (w.heap.size+1) (w.alloc (.cells #[.slice LA n nc, .slice DA m mc] 25)).drew w6:=zaS aS h2 (Nat.le_refl _) Mcq;have Aq:Below w.heap.size w w6:=Fw.trans (aI.mono (Nat.le_succ _));have Ey:=zHi Aq;refine NxM hK (fun hHeld=> ?_) (eh.o _ aI);clear hK K;refine OnH 6 fun K hK=> ?_
    go_simp
    refine(kN.o w6 Ey.o A6 c6 hS6).mono ?_;rintro e wq ⟨k1,eY⟩;have bj:Below (w.heap.size+1) (w.alloc (.cells #[.slice LA n nc, .slice DA m mc] 25)).drew wq:=aI.trans (k1.mono (by have:=aI.size;simp at this;omega));have bT:=zHi (Aq.trans (k1.mono Aq.size));clear h1 h2 h3 k1 Aq aI aS Fw kN;rcases eY with⟨ai,rfl⟩|⟨he,base,b,la,co,rfl,q2,q3,q4,q5⟩
    ·have iK:=zHi ai;clear ai;refine NxM hK (fun hHeld=> ?_) (eh.o _ bj);clear hK K;refine TkH 7 ?_;refine TkH 8 ?_;refine TkH 9 ?_;refine OnH 10 fun K hK=> ?_
     go_simp
     refine NxM hK (fun hHeld=> ?_) (eh.o _ bj);clear hK K;refine OnH 11 fun K hK=> ?_
     go_simp
     refine NxM hK (fun hHeld=> ?_) (eh.o _ bj);clear hK K;refine wpAnyH_done Mco ?_ _;go_wp2_with fail
     go_meet
     exact⟨bT.o, .inl ⟨iK.o,rfl,rfl⟩⟩
    ·have HE:=zHi he;have Q2:=zHi q2;have Q3:=zHi q3;have Q4:=zHi q4;have Q5:=zHi q5;clear he q2 q3 q4 q5;refine NxM hK (fun hHeld=> ?_) (eh.o _ bj);clear hK K;refine TkH 7 ?_;refine TkH 8 ?_;refine TkH 9 ?_;refine OnH 10 fun K hK=> ?_
     go_simp
     refine NxM hK (fun hHeld=> ?_) (eh.o _ bj);clear hK K;refine OnH 11 fun K hK=> ?_
     go_simp
     refine NxM hK (fun hHeld=> ?_) (eh.o _ bj);clear hK K;refine wpAnyH_done Mco ?_ _;go_wp2_with fail
     go_meet
     exact⟨bT.o, .inr ⟨HE.o,rfl,base,b,la,co,rfl,Nat.le_trans Ey.o.size Q2.o,Q3.o,Q4.o,Q5.o⟩⟩
 case rest=>
  obtain⟨hB,eY⟩:=hcut;rcases eY with⟨ai,rfl,rfl⟩|⟨he,rfl,base,b,la,co,rfl,q2,q3,q4,q5⟩
  ·have iK:=zHi ai;go_wp2_with fail
   go_ret3
   exact⟨hB, .inl ⟨iK.o,rfl⟩⟩
  ·have HE:=zHi he;clear he;have HB:=zHi hB;have Q3:=zHi q3;have Q4:=zHi q4;have Q5:=zHi q5;obtain⟨Bk,dd,cc,pp,wl,rr,mv,tv,ps,aY,hC,hP,hT⟩:=q3;obtain⟨k,fe,cg⟩:=q5;have cz:=cg.graves;have aO:=fun W (hB:Below wc.heap.size wc W)=>zjI base b s la co place day W (hC.keep hB) (hT.keep hB) Mcn
   have hsz:=hB.size;have qJ:=zHi hsz;cases aL:zaO s place day with
   |none=>
    rw[aL]at aO;have bF:=zHi aO;have gR:=zHi aL;clear aO hC hP hT cg hB q4 aL;go_wp2_with (go_at_call 64;go_must(refine(bF.o _ Bw).mono ?_);rintro e wz ⟨rfl,z,rfl⟩;simp only[zlx,Option.map_none])
    go_ret3
    exact⟨HB.o.trans (Below.mono (B:=wc.heap.size) Bw qJ.o), .inr (.inl ⟨HE.o,gR.o,rfl⟩)⟩
   |some i=>
    obtain⟨T,g,ia,iC,aN,bP,gV,_⟩:=zey hT aL;have mD: ∀W,Below wc.heap.size wc W->Calls Tryz.prog 64 #[.pointer (some ⟨b,0,none⟩), .string place, .int .i64 day] W (Ret W (.pointer (some ⟨T,0,none⟩))):=fun W hB=>by
     have:=aO W hB;exact MaO
    have bF:=zHi mD;have gR:=zHi aL;have sX:=zHi aN;have eR:=zHi gV;clear aO mD hC hP hT cg hB q4 gV bP iC ia aL aN;go_wp2_with (go_at_call 64;go_must(refine(bF.o _ Bw).mono ?_);rintro e wz ⟨rfl,z,rfl⟩)
    go_ret3
    have fG:Below wc.heap.size wc (wc.ext z):=Bw;exact⟨HB.o.trans (fG.mono qJ.o), .inr (.inr ⟨HE.o,base,b,la,co,Bk,T,i,g,gR.o,sX.o,rfl,q2,Q3.o.keep fG,eR.o.keep fG,Q4.o,Q5.o⟩)⟩
end Go.Proofs.YtjhbofabmpfniaaGreatDoor
namespace Go.Proofs.YtjhbofabmpfniaaGreatDoor
open Go.RowKit Go.Shelf
attribute [local go_sem] World.cell?_alloc_mark zae za3 zam za6 zas zat zau zav zaw zax zay
attribute [local go_sem] zaj zac
open Classical in
noncomputable def zgf (s:St) (cls:Int) (name x:ByteArray):Bool:=
 if zaf x name then true else if cls==0 then false else if zhL s x name||decide (Desc s x name)then true else cls != 1&&(zai s name).any (zaf x)
structure MbAt (base:Nat) (W:World) (b T N TT WW:Nat) (s:St) (cls:Int) (name:ByteArray):Prop where
 peo:PeoAt base W b s
 tl:T<W.heap.size
 tc:W.cell? ⟨T,1,none⟩=some (.int .i64 cls)
 nl:N<W.heap.size
 nc:W.cell? ⟨N,0,none⟩=some (.string name)
 ttl:TT<W.heap.size
 ttc:W.cell? ⟨TT,0,none⟩=some (.pointer (some ⟨T,0,none⟩))
 wl:WW<W.heap.size
 wc:W.cell? ⟨WW,0,none⟩=some (.pointer (some ⟨b,0,none⟩))
theorem MbAt.keep {base:Nat} {W W':World} {b T N TT WW:Nat} {s:St} {cls:Int} {name:ByteArray} (h:MbAt base W b T N TT WW s cls name) (hB:Below W.heap.size W W'):MbAt base W' b T N TT WW s cls name:=
 ⟨h.peo.keep hB,Nat.lt_of_lt_of_le h.tl hB.size,(zah hB h.tl).trans h.tc,Nat.lt_of_lt_of_le h.nl hB.size,(zah hB h.nl).trans h.nc,Nat.lt_of_lt_of_le h.ttl hB.size,(zah hB h.ttl).trans h.ttc,Nat.lt_of_lt_of_le h.wl hB.size,(zah hB h.wl).trans h.wc⟩
open Classical in
theorem zod (base b T N TT WW:Nat) (s:St) (cls:Int) (name x:ByteArray) (w:World) (hM:MbAt base w b T N TT WW s cls name) (fh:s.marriages.length<=1000) (bR:s.children.length<=1000):
 Calls Tryz.prog 103 #[.string x, .pointer (some ⟨N,0,none⟩), .pointer (some ⟨TT,0,none⟩), .pointer (some ⟨WW,0,none⟩)] w (Ret w (.bool (zgf s cls name x))):=by
 have hP:=hM.peo;obtain⟨B,d,c,p,wl,r,mv,tv,la,co,hC,tA⟩:=id hP;have cW:=zab hC;unfold WldC at hC;obtain⟨-,c1⟩:=cF2 hC;obtain⟨KA,kc,ew,fH,im⟩:=zi6 tA name;have zf:=zHi (fun W (hB:Below w.heap.size w W)=>zi0 base b s x name W (hP.keep hB) Mcn);have jO:=zHi (fun W (hB:Below w.heap.size w W)=>zhw base b s name x W (hP.keep hB) Mcn);have bm:(zai s name).length<=100000:=by
  have:(zai s name).length<=s.children.length:=by unfold zai;rw[List.length_map];exact List.length_filter_le _ _
  omega
 have lA:=zHi (fun W (hB:Below w.heap.size w W)=>zlt (zai s name) x KA _ kc W rfl bm (im.keep hB));have dp: ∀z,(Instr.lookup 134 (.map (some c)) (.string name) false).run Tryz.prog (w.ext z)= .ok (.slice KA (zai s name).length kc) (w.ext z):=fun z=>ew _ (zaq w z)
 have ie:=zHi ew;obtain⟨_,cK,u4,pN,xB,L1,L0,bS,hwc⟩:=hM;obtain⟨R,hR⟩: ∃R,R=zgf s cls name x:=⟨_,rfl⟩
 rw[<-hR];unfold zgf at hR;have HR:=zHi hR;clear hP hC tA ew im hR;generalize zhL s x name=ma at*;generalize decide (Desc s x name)=de at*;generalize(zai s name).any (zaf x)=kd at*;generalize(zai s name).length=kl at*;cases hs:zaf x name
 ·have yk:(x.toList==name.toList)=false:=hs;rw[hs]at HR;by_cases h0:cls=0
  ·subst h0;have HX:Hid (R=false):=by show _=_;rw[HR.o];rfl
   exact Mbg
  ·have HX:Hid (R=if ma||de then true else cls != 1&&kd):=by
    show _=_;rw[HR.o];have:(cls==0)=false:=by simpa using h0
    rw[this];rfl
   clear HR;cases ma
   ·cases de
    ·by_cases h1:cls=1
     ·subst h1;have av:Hid (R=false):=by show _=_;rw[HX.o];rfl
      clear HX ie dp;go_enter Tryz.func103,Tryz.ntmps103
      go_upto_region 5 with fail
      (refine zan Mco Mco ?_
       repeat(first|go_big_quiet_skip|(go_big_quiet_want;go_big_quiet_op;first|go_big_quiet_on|(apply Exists.intro;refine⟨fun _=> ?_,?_⟩;(first|(go_at_call 104;exact quietx (zf.o _ Bw))|(go_at_call 105;exact quietx (jO.o _ Bw)));go_big_quiet_on)))
       refine wpQuiet_nil ?_
       rintro _ ⟨zq,rfl⟩)
      go_upto_region 7 with fail
      go_quiet (fail)
      exact MaE
     ·have av:Hid (R=kd):=by
       show _=_;rw[HX.o];have:(cls != 1)=true:=by simpa using h1
       rw[this];simp
      clear HX;go_enter Tryz.func103,Tryz.ntmps103
      go_upto_region 5 with fail
      (refine zan Mco Mco ?_
       repeat(first|go_big_quiet_skip|(go_big_quiet_want;go_big_quiet_op;first|go_big_quiet_on|(apply Exists.intro;refine⟨fun _=> ?_,?_⟩;(first|(go_at_call 104;exact quietx (zf.o _ Bw))|(go_at_call 105;exact quietx (jO.o _ Bw)));go_big_quiet_on)))
       refine wpQuiet_nil ?_
       rintro _ ⟨zq,rfl⟩)
      go_upto_region 7 with fail
      have Kz: ∀z,(Instr.lookup 134 (.map (some c)) (.string name) false).run Tryz.prog ((w.ext zq).ext z)= .ok (.slice KA kl kc) ((w.ext zq).ext z):=fun z=>ie.o _ Bw
      have cB:(cls==1)=false:=McT;have dZ:(cls != 1)=true:=McT;have Aj:decide (cls=1)=false:=McT
      (refine zan Mco Mco ?_
       repeat(first|go_big_quiet_skip|(go_big_quiet_want;go_big_quiet_op;first|go_big_quiet_on|(apply Exists.intro;refine⟨fun _=> ?_,?_⟩;(first|(go_at_call 106;exact zhZ (lA.o _ Bw)));go_big_quiet_on)))
       refine wpQuiet_nil ?_
       rintro _ ⟨zq,rfl⟩)
      exact MaE
    ·have av:Hid (R=true):=by show _=_;rw[HX.o];rfl
     clear HX ie dp;go_enter Tryz.func103,Tryz.ntmps103
     go_upto_region 5 with fail
     (refine zan Mco Mco ?_
      repeat(first|go_big_quiet_skip|(go_big_quiet_want;go_big_quiet_op;first|go_big_quiet_on|(apply Exists.intro;refine⟨fun _=> ?_,?_⟩;(first|(go_at_call 104;exact quietx (zf.o _ Bw))|(go_at_call 105;exact quietx (jO.o _ Bw)));go_big_quiet_on)))
      refine wpQuiet_nil ?_
      rintro _ ⟨zq,rfl⟩)
     exact MaE
   ·have av:Hid (R=true):=by show _=_;rw[HX.o];rfl
    clear HX ie dp;go_enter Tryz.func103,Tryz.ntmps103
    go_upto_region 5 with fail
    (refine zan Mco Mco ?_
     repeat(first|go_big_quiet_skip|(go_big_quiet_want;go_big_quiet_op;first|go_big_quiet_on|(apply Exists.intro;refine⟨fun _=> ?_,?_⟩;(go_at_call 104;exact quietx (zf.o _ Bw));go_big_quiet_on)))
     refine wpQuiet_nil ?_
     rintro _ ⟨zq,rfl⟩)
    exact MaE
 ·have yk:(x.toList==name.toList)=true:=hs;have HX:Hid (R=true):=by show _=_;rw[HR.o,hs];rfl
  exact Mbg
def zkO (N TT WW:Nat):Value:= .func (.func 103) #[] #[.pointer (some ⟨N,0,none⟩), .pointer (some ⟨TT,0,none⟩), .pointer (some ⟨WW,0,none⟩)]
theorem znf (base b T N TT WW FB:Nat) (s:St) (cls:Int) (name:ByteArray) (q:RPart) (w:World) (hM:MbAt base w b T N TT WW s cls name) (hFl:FB<w.heap.size) (J1:w.cell? ⟨FB,0,none⟩=some (zkO N TT WW)) (fh:s.marriages.length<=1000) (bR:s.children.length<=1000):
 Calls Tryz.prog 160 #[.agg #[.string q.name, .int .i64 q.num, .int .i64 q.den], .pointer (some ⟨FB,0,none⟩)] w (Ret w (.bool (!noB q.name&&zgf s cls name q.name))):=by
 have eg: ∀args w,(callFunc 103 args).run Tryz.prog w= .ok (.enter 103 args) w:=enters_of Tryz.func103 Mco rfl;have AW:=zHi (fun W (hB:Below w.heap.size w W)=>zod base b T N TT WW s cls name q.name W (hM.keep hB) fh bR);unfold zkO at J1;have hFn:FB≠w.heap.size:=Mcn;clear hM;obtain⟨nm,nu,de⟩:=q;simp only at*;generalize zgf s cls name nm=le at*;cases hn:noB nm
 ·have cB:nm.toList.isEmpty=false:=hn;have dZ: ¬nm.toList=[]:=by simpa using cB
  go_enter Tryz.func160,Tryz.ntmps160
  go_wp2_with (go_at_fn 103;refine(AW.o _ Bw).mono ?_;rintro e wq ⟨rfl,z,rfl⟩)
  go_ret
  exact Ret.of (zaQ Mcq) Bw
 ·have cB:nm.toList.isEmpty=true:=hn;have dZ:nm.toList=[]:=by simpa using cB
  go_enter Tryz.func160,Tryz.ntmps160
  exact Mbl
theorem sl_map {α β:Type} {w:World} {size:Nat} {f:α->List Value} {g:β->List Value} {A:Option Addr} {xs:List α} (h:Sl w size f A xs) (m:α->β) (hm: ∀x,g (m x)=f x):Sl w size g A (xs.map m):=fun hl=>by
 obtain⟨b,off,hA,hb,hc⟩:=h (by simpa using hl);refine⟨b,off,hA,hb,fun k x hk j u hu=> ?_⟩;rw[List.getElem?_map,Option.map_eq_some_iff]at hk;obtain⟨y,hy,rfl⟩:=hk;rw[hm]at hu;exact hc k y hy j u hu
def toR (p:ByteArray×Rat):RPart:=⟨p.1,p.2.num,p.2.den⟩
noncomputable def entP (s:St) (g:Grave) (name:ByteArray):Bool:=g.holders.any (fun p=>!noB p.1&&zgf s g.cls name p.1)||g.died.any (zgf s g.cls name)
theorem zma (base b T N TT WW:Nat) (B:List Nat) (s:St) (g:Grave) (name:ByteArray) (w:World) (hM:MbAt base w b T N TT WW s g.cls name) (hT:TombAt w base B T g) (fh:s.marriages.length<=1000) (bR:s.children.length<=1000) (kW:g.holders.length<=100000) (bu:g.died.length<=100000):
 Calls Tryz.prog 102 #[.pointer (some ⟨T,0,none⟩),zkO N TT WW] w (Ret w (.bool (entP s g name))):=by
 have eg: ∀args w,(callFunc 103 args).run Tryz.prog w= .ok (.enter 103 args) w:=enters_of Tryz.func103 Mco rfl;have eg2: ∀args w,(callFunc 160 args).run Tryz.prog w= .ok (.enter 160 args) w:=enters_of Tryz.func160 Mco rfl;obtain⟨H,aV,D,dc,frm,t1,t2,t3,t4,t5,t6,t7⟩:=hT;have cV:=zab t1;unfold zbt at t1;obtain⟨-,-,-,-,k4,k5⟩:=cF6 t1;have vT:Sl w 3 RPart.cells H (g.holders.map toR):=sl_map (Ro.sl zao t5) toR (fun _=>rfl);have Fo:=Ro.sl zaD t6;have wC: ∀W,Below w.heap.size w W->w.heap.size<W.heap.size->W.cell? ⟨w.heap.size,0,none⟩=some (zkO N TT WW)->Calls Tryz.prog 135 #[.slice H g.holders.length aV, .func (.func 160) #[] #[.pointer (some ⟨w.heap.size,0,none⟩)]] W (Ret W (.bool ((g.holders.map toR).any fun q=>!noB q.name&&zgf s g.cls name q.name))):=fun W hB hl hc=>by
  refine zcP 160 _ eg2 _ H _ aV (g.holders.map toR) W Mcq (by simpa using kW) (vT.keep hB) fun x _ W' ft=> ?_
  refine(znf base b T N TT WW w.heap.size s g.cls name x W' (hM.keep (hB.trans (ft.mono hB.size))) (Nat.lt_of_lt_of_le hl ft.size) ((zah ft hl).trans hc) fh bR).mono ?_;exact MbH
 have wD: ∀W,Below w.heap.size w W->Calls Tryz.prog 128 #[.slice D g.died.length dc,zkO N TT WW] W (Ret W (.bool (g.died.any (zgf s g.cls name)))):=fun W hB=>by
  refine zlY 103 _ eg _ D _ dc g.died W rfl bu (Fo.keep hB) fun x _ W' ft=> ?_
  refine(zod base b T N TT WW s g.cls name x W' (hM.keep (hB.trans (ft.mono hB.size))) fh bR).mono ?_;exact MbH
 have he:entP s g name=((g.holders.map toR).any (fun q=>!noB q.name&&zgf s g.cls name q.name)||g.died.any (zgf s g.cls name)):=by
  unfold entP;rw[List.any_map];rfl
 rw[he];generalize(g.holders.map toR).any (fun q=>!noB q.name&&zgf s g.cls name q.name)=b1 at*;generalize g.died.any (zgf s g.cls name)=b2 at*;have AE:=zHi wC;have ul:=zHi wD;unfold zkO at AE ul;unfold zkO;clear wC wD vT Fo t1 t5 t6 t7 hM he eg eg2;have Cr:T≠w.heap.size:=Mcn;cases b1
 ·go_enter Tryz.func102,Tryz.ntmps102
  go_upto_region 1 with fail
  (refine zan Mco Mco ?_
   repeat(first|go_big_quiet_skip|(go_big_quiet_want;go_big_quiet_op;first|go_big_quiet_on|(apply Exists.intro;refine⟨fun _=> ?_,?_⟩;(first|(go_at_call 135;exact quietx (AE.o _ Bw Mcw McQ))|(go_at_call 128;exact quietx (ul.o _ Bw)));go_big_quiet_on)))
   refine wpQuiet_nil ?_
   rintro _ ⟨zq,rfl⟩)
  exact Mbl
 ·go_enter Tryz.func102,Tryz.ntmps102
  go_upto_region 1 with fail
  (refine zan Mco Mco ?_
   repeat(first|go_big_quiet_skip|(go_big_quiet_want;go_big_quiet_op;first|go_big_quiet_on|(apply Exists.intro;refine⟨fun _=> ?_,?_⟩;((go_at_call 135;exact quietx (AE.o _ Bw Mcw McQ)));go_big_quiet_on)))
   refine wpQuiet_nil ?_
   rintro _ ⟨zq,rfl⟩)
  exact Mbl
end Go.Proofs.YtjhbofabmpfniaaGreatDoor
namespace Go.Proofs.YtjhbofabmpfniaaGreatDoor
open Go.RowKit Go.Shelf
attribute [local go_sem] World.cell?_alloc_mark zae za3 zam za6 zas zat zau zav zaw zax zay
attribute [local go_sem] zaj zac
noncomputable def zfI (laws:List Law) (ds:List Deed) (place name:ByteArray) (day:Int):Bool×Int:=
 if zcG laws ds [place,name] day != 0 then(false,zcG laws ds [place,name] day)else match zaO (zaL laws ds day).1 place day with
  |none=>(false,12)
  |some i=>(((zaL laws ds day).1.graves.getD i zfb).cls==4||entP (zaL laws ds day).1 ((zaL laws ds day).1.graves.getD i zfb) name,0)
theorem zfJ {W:World} {a o:Nat} {v:Value} (h:W.cell? ⟨a,o,none⟩=some v):a<W.heap.size:=by
 unfold World.cell? at h;cases hh:W.heap[a]? with
 |none=>simp[hh]at h
 |some x=>exact zab hh
theorem zng (laws:List Law) (ds:List Deed) (place name:ByteArray) (day:Int) (LA:Option Addr) (n nc:Nat) (DA:Option Addr) (m mc:Nat) (w:World) (hR:RightsIn w laws ds LA n nc DA m mc) (hF:FormsIn w) (hL:LensIn w) (hO: ∀d∈ds,zc8 d) (hp:place.size<=100000) (hn:name.size<=100000):
 Calls Tryz.prog 51 #[.agg #[.slice LA n nc, .slice DA m mc], .string place, .string name, .int .i64 day] w (Ret w (.tuple #[.bool (zfI laws ds place name day).1, .int .i64 (zfI laws ds place name day).2])):=by
 have aO:=fun W (hB:Below w.heap.size w W) NA (hS:Sl W 1 sC NA [name])=>zfv laws ds place [name] day LA n nc DA m mc NA 1 1 W (hR.keep hB) (hF.keep hB) (hL.keep hB) hO hp rfl Mcq (by simpa using hn) hS
 have bF:=zHi aO;clear aO hR hF hL hO hp hn;unfold zdW at bF;obtain⟨R,hR⟩: ∃R,R=zfI laws ds place name day:=⟨_,rfl⟩
 rw[<-hR];unfold zfI at hR;generalize zcG laws ds [place,name] day=E at*;generalize(zaL laws ds day).1=s at*;have HR:=zHi hR;clear hR;by_cases h0:E=0
 ·have HE:=zHi h0;cases aL:zaO s place day with
  |none=>
   have HX:Hid (R=(false,12)):=by show _=_;rw[HR.o,aL,if_neg (by simp[h0])]
   have gR:=zHi aL;clear HR aL h0;go_enter Tryz.func51,Tryz.ntmps51
   go_wp2_with (go_at_call 65
                go_must(refine(bF.o _ Bw _ (zdj (zar _ _ _ Mcq))).mono ?_)
                rintro e wq ⟨h1,⟨ai,_⟩|⟨_,_,rfl⟩|⟨_,base,b,la,co,B,T,i,g,hi,_⟩⟩
                ·exact absurd HE.o ai
                rotate_left 1
                ·rw[gR.o]at hi;cases hi
                go_must(have hm:=(show Below w.heap.size _ wq from h1.mono Md6))
                go_must(have bK:Below w.heap.size w wq:=Below.trans Bw hm)
                have ee:=zHi bK
                clear h1 hm bK)
   exact MbC
  |some i=>
   have gR:=zHi aL;have hX:R=((s.graves.getD i zfb).cls==4||entP s (s.graves.getD i zfb) name,0):=by rw[HR.o,aL,if_neg (by simp[h0])]
   obtain⟨g,aN,-,-⟩:=zbJ aL;rw[zeb aN]at hX;have HX:=zHi hX;have sX:=zHi aN;clear HR aL h0 hX aN;go_enter Tryz.func51,Tryz.ntmps51
   go_upto_region 2 with
    (go_at_call 65
     go_must(refine(bF.o _ Bw _ (zdj (zar _ _ _ Mcq))).mono ?_)
     rintro e wq ⟨h1,⟨ai,_⟩|⟨_,hi,_⟩|⟨_,base,b,la,co,B,T,i',g',hi,eu,rfl,h2,h3,h4,h5,h6⟩⟩;go_must(·exact absurd HE.o ai)
     go_must(·rw[gR.o]at hi;cases hi)
     go_must(have hm:=(show Below w.heap.size _ wq from h1.mono Md6))
     go_must(have bK:Below w.heap.size w wq:=Below.trans Bw hm)
     go_must(have Fh:=(h1.cell (p:=⟨w.heap.size+1,0,none⟩) (by simp<;>omega)).trans (show _=some (Value.string name) from by simp[go_sem]))
     go_must(have ba:g'=g:=Mc4)
     go_must(subst ba)
     have qD:=zHi Fh;have ee:=zHi bK;have xZ:=bK.size;have H3:=zHi h3;have H4:=zHi h4;have H6:=zHi h6
     clear h1 hm bK Fh h2 h3 h4 h5 h6 hi eu)
   have gV:=H4.o;obtain⟨H,aV,D,dc,frm,t1,t2,t3,t4,t5,t6,t7⟩:=H4.o;have cV:=zab t1;unfold zbt at t1;obtain⟨-,k1⟩:=cF2 t1;obtain⟨k,fe,cg⟩:=H6.o;have kW:=cg.held g' (List.mem_of_getElem? sX.o);have fh:=cg.marr;have bR:=cg.kids;have bf:=H3.o.lt;have pN:w.heap.size+1<wq.heap.size:=zfJ qD.o;have CT: ∀W,Below wq.heap.size wq W->W.cell? ⟨wq.heap.size,0,none⟩=some (.pointer (some ⟨b,0,none⟩))->W.cell? ⟨wq.heap.size+1,0,none⟩=some (.pointer (some ⟨T,0,none⟩))->Calls Tryz.prog 102 #[.pointer (some ⟨T,0,none⟩),zkO (w.heap.size+1) (wq.heap.size+1) wq.heap.size] W (Ret W (.bool (entP s g' name))):=fun W hB e1 e2=>
    zma base b T (w.heap.size+1) (wq.heap.size+1) wq.heap.size B s g' name W ⟨H3.o.peo.keep hB,Nat.lt_of_lt_of_le cV hB.size,(zah hB cV).trans k1,Nat.lt_of_lt_of_le pN hB.size,(zah hB pN).trans qD.o,zfJ e2,e2,zfJ e1,e1⟩ (gV.keep hB) Mcn Mcn Mcn Mcn
   have E8:=zHi CT;unfold zkO at E8;have Ev:=zHi cV;have Cr:T≠wq.heap.size:=Mcn;have Jy:T≠wq.heap.size+1:=Mcn;generalize entP s g' name=ep at*;clear CT gV t1 t2 t3 t4 t5 t6 t7 kW fh bR cg bf;by_cases h4:g'.cls=4
   ·have av:Hid (R=(true,0)):=by show _=_;rw[HX.o,h4];rfl
    rw[h4]at k1;go_wp2_with fail
    go_ret2
    rw[av.o];have bK:=ee.o;exact Ret.of rfl Bw
   ·have av:Hid (R=(ep,0)):=by
     show _=_;rw[HX.o,show(g'.cls==4)=false by simpa using h4];rfl
    go_wp2_with (go_at_call 102;go_must(refine(E8.o _ Bw McQ McQ).mono ?_);rintro e wz ⟨rfl,z,rfl⟩)
    go_ret2
    rw[av.o];have bK:=ee.o;exact Ret.of rfl Bw
 ·have HX:Hid (R=(false,E)):=by show _=_;rw[HR.o,if_pos Mdh]
  have HE:=zHi h0;clear HR h0;go_enter Tryz.func51,Tryz.ntmps51
  go_wp2_with (go_at_call 65
               go_must(refine(bF.o _ Bw _ (zdj (zar _ _ _ Mcq))).mono ?_)
               rintro e wq ⟨h1,⟨_,rfl⟩|⟨he,_⟩|⟨he,_⟩⟩;rotate_left 1
               ·exact absurd he HE.o
               ·exact absurd he HE.o
               go_must(have hm:=(show Below w.heap.size _ wq from h1.mono Md6))
               go_must(have bK:Below w.heap.size w wq:=Below.trans Bw hm)
               have ee:=zHi bK
               clear h1 hm bK)
  exact MbC
end Go.Proofs.YtjhbofabmpfniaaGreatDoor

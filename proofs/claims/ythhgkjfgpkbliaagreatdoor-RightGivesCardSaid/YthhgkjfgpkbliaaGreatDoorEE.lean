import Derived.Test.YthhgkjfgpkbliaaGreatDoorE8
set_option linter.all false
set_option maxRecDepth 100000
set_option maxHeartbeats 4000000
namespace Go.Proofs.YthhgkjfgpkbliaaGreatDoor
open Go.RowKit Go.Shelf
attribute [local go_sem] World.cell?_alloc_mark zae zav zai zaw zam zan zao zap zaq zar zas
attribute [local go_sem] zah zac
theorem zdD{W:World}{b:Nat}{K V:Type}{ek:K->Value}{ev:V->Value}(h:W.heap[b]?=some (.map #[] 0)):MapS W b ek ev ([]:List (K×V)):=⟨#[],0,h,rfl,by simp,by simp⟩
def NewPost(w:World)(e:Ending)(w':World):Prop:=
 e=.returned (.agg #[.map (some (w.heap.size+1)),.map (some (w.heap.size+1+1)),.map (some (w.heap.size+1+1+1)),.slice none 0 0,.map (some (w.heap.size+1+1+1+1)),.map (some (w.heap.size+1+1+1+1+1))])/\
 w'.heap.size=w.heap.size+6/\(∀k,1<=k->k<=5->w'.heap[w.heap.size+k]?=some (.map #[] 0))/\Below w.heap.size w w'
theorem zhN{fn:Func}{p:Tmp}(h:fn.results= #[.cell p 108])(tmps:Array Value)(w:World)(B:Nat)(x0 x1 x2 x3 x4 x5:Value)(hp:tmps.getD p undef=.pointer (some ⟨B,0,none⟩))
 (hx:w.heap[B]?=some (.cells #[x0,x1,x2,x3,x4,x5] 108)):(results fn tmps).run Tryz.prog w=.ok (.agg #[x0,x1,x2,x3,x4,x5]) w:=by
 obtain⟨h0,h1,h2,h3,h4,h5⟩:=cF6 hx;exact MaK
theorem zf5(w:World):Calls Tryz.prog 89 #[] w (NewPost w):=by
 have cq:= @run_makeMap Tryz.prog;go_enter Tryz.func89,Tryz.ntmps89
 go_wp2_with fail
 refine bodyPost_ret (v:=.agg #[.map (some (w.heap.size+1)),.map (some (w.heap.size+1+1)),.map (some (w.heap.size+1+1+1)),.slice none 0 0,.map (some (w.heap.size+1+1+1+1)),.map (some (w.heap.size+1+1+1+1+1))]) ?_ rfl ?_
 ·refine zhN rfl _ _ w.heap.size _ _ _ _ _ _ rfl ?_;exact zal (zal (zal (zal (zal (za3 _ _ _ rfl)))))
 ·refine⟨rfl,by simp,fun k h1 h2=>?_,Bw⟩;obtain rfl|rfl|rfl|rfl|rfl:k=1\/k=2\/k=3\/k=4\/k=5:=by omega
  ·exact zal (zal (zal (zal (za3 _ _ _ MbF))))
  ·exact zal (zal (zal (za3 _ _ _ MbF)))
  ·exact zal (zal (za3 _ _ _ MbF))
  ·exact zal (za3 _ _ _ MbF)
  ·exact za3 _ _ _ MbF
theorem wld_new{base:Nat}{w W:World}(hb:base<=w.heap.size)(hs:w.heap.size+6=W.heap.size)(hm:∀k,1<=k->k<=5->W.heap[w.heap.size+k]?=some (.map #[] 0)):
 WldAt base (W.alloc (.cells #[.map (some (w.heap.size+1)),.map (some (w.heap.size+1+1)),.map (some (w.heap.size+1+1+1)),.slice none 0 0,.map (some (w.heap.size+1+1+1+1)),.map (some (w.heap.size+1+1+1+1+1)),.slice none 0 0,.int .i64 0,.int .i64 0] 111)) W.heap.size zbf 0 0:=by
 have hk:∀k,1<=k->k<=5->(W.alloc (.cells #[.map (some (w.heap.size+1)),.map (some (w.heap.size+1+1)),.map (some (w.heap.size+1+1+1)),.slice none 0 0,.map (some (w.heap.size+1+1+1+1)),.map (some (w.heap.size+1+1+1+1+1)),.slice none 0 0,.int .i64 0,.int .i64 0] 111)).heap[w.heap.size+k]?=some (.map #[] 0):=fun k h1 h2=>(Below.heap_alloc _ _ _ MbC).trans (hm k h1 h2)
 refine⟨[],w.heap.size+1,w.heap.size+2,w.heap.size+3,w.heap.size+4,w.heap.size+5,.slice none 0 0,.slice none 0 0,[],by omega,za3 _ _ _ rfl,⟨by simp,⟨by omega,by omega,by omega,by omega,by omega⟩,zdD (hk 1 MbC MbC),⟨[],[],zdD (hk 2 MbC MbC),zdD (hk 3 MbC MbC),fun n=> .inl ⟨rfl,rfl⟩,fun n=> .inl ⟨rfl,rfl⟩,rfl,by simp,by simp,by simp⟩,OwnS.nil,⟨[],zdD (hk 4 MbC MbC),fun n=> .inl ⟨rfl,rfl⟩⟩,zdD (hk 5 MbC MbC)⟩,⟨OwnS.nil,rfl,by simp,fun i T g h=>by simp at h⟩⟩
section
variable {s:St} {d:Deed}
theorem grant_err:(zdb s d).2≠0->(zdb s d).1=s:=by
 unfold zdb;exact My
theorem zjZ:(zbj s d).2≠0->(zbj s d).1=s:=by
 unfold zbj;exact My
theorem ziY:(zaY s d).2≠0->(zaY s d).1=s:=by
 unfold zaY;exact My
theorem renew_err:(zdm s d).2≠0->(zdm s d).1=s:=by
 unfold zdm;exact My
theorem will_err:(zgF s d).2≠0->(zgF s d).1=s:=by
 unfold zgF;exact My
theorem zka:(zbP s d).2≠0->(zbP s d).1=s:=by
 unfold zbP;exact My
theorem child_err:(zcS s d).2≠0->(zcS s d).1=s:=by
 unfold zcS;exact My
theorem marry_err:(zdU s d).2≠0->(zdU s d).1=s:=by
 unfold zdU;exact My
theorem death_err{laws:List Law}:(zd2 laws s d).2≠0->(zd2 laws s d).1=s:=by
 unfold zd2;exact My
theorem take_err{laws:List Law}(h:(zaZ laws s d).2≠0):(zaZ laws s d).1=s:=by
 revert h
 unfold zaZ;split
 ·exact grant_err
 split
 ·exact zjZ
 split
 ·exact ziY
 split
 ·exact renew_err
 split
 ·exact will_err
 split
 ·exact zka
 split
 ·exact child_err
 split
 ·exact marry_err
 exact death_err
theorem zkb{laws:List Law}{co:Nat}{last:Int}(h:(zcH laws s co last d).2≠0):(zcH laws s co last d).1=s:=by
 revert h
 unfold zcH;split
 ·exact fun _=>rfl
 split
 ·exact fun _=>rfl
 exact take_err
theorem zkc{laws:List Law}{co:Nat}{last:Int}(h:za8 d=0):zb4 laws s co last d=zcH laws s co last d:=by
 unfold zb4 zcH;rw[h];rfl
end
noncomputable def zch (laws:List Law) (ds:List Deed) (upto:Int):St×Nat×Int:=
 if za7 laws != 0 then(zbf,0,za7 laws)else zcO laws upto ds zbf 0 0
def zmK(w:World)(R:St×Nat×Int)(e:Ending)(w':World):Prop:=
 ∃base b la co,e=.returned (.tuple #[.pointer (some ⟨b,0,none⟩),.int .i64 R.2.1,.int .i64 R.2.2])/\w.heap.size<=base/\WldAt base w' b R.1 la co/\Below w.heap.size w w'/\(∃last,GoodSt R.1 last)/\∃k,k<=60/\FewS k R.1
theorem ziZ{laws:List Law}{s:St}{k:Nat}{last:Int}{d:Deed}(h:(zcH laws s k last d).2=0)(hd:OkD d)(hG:GoodSt s last)(hF:FewS k s)(aG:za7 laws=0):k<60/\GoodSt (zcH laws s k last d).1 d.day/\FewS (k+1) (zcH laws s k last d).1:=by
 unfold zcH at h⊢;split at h
 ·simp at h
 rename_i h1
 split at h
 ·simp at h
 rename_i h2
 rw[if_neg h1,if_neg h2];have hk:k<60:=Mb7;have hl:last<=d.day:=by simpa using h2
 have ht:zaZ laws s d=((zaZ laws s d).1,0):=Prod.ext rfl h;exact⟨hk,zfF hG hd hl aG ht,few_take hF hk hG hd hl aG ht⟩
theorem ziw(laws:List Law)(ds:List Deed)(upto:Int)(LA:Option Addr)(n nc:Nat)(DA:Option Addr)(m mc:Nat)(w:World)(hR:RightsIn w laws ds LA n nc DA m mc)(hF:FormsIn w)(hL:LensIn w)(hO:∀d∈ds,zdi d):
 Calls Tryz.prog 36 #[.agg #[.slice LA n nc,.slice DA m mc],.int .i64 upto] w (zmK w (zch laws ds upto)):=by
 obtain⟨R,hR⟩:∃R,R=zch laws ds upto:=⟨_,rfl⟩
 rw[<-hR];unfold zch at hR;have HR:=zHi hR;clear hR;obtain⟨rfl,rfl,sZ,qg,dg,i8⟩:=hR;obtain⟨HF,HL,HO,bM,fN⟩:=yH5 hF hL hO dg i8;clear hF hL hO dg i8;go_enter Tryz.func36,Tryz.ntmps36
 go_upto_region 2 with(go_at_call 89;go_must(refine(zf5 _).mono ?_);rintro e wq ⟨rfl,n1,n2,n3⟩;obtain⟨N1,N2,N3⟩:=yH3 n1 n2 n3;clear n1 n2 n3)
 have cP:=wld_new (base:=w.heap.size+1) (w:=w.alloc (.cells #[.slice LA laws.length nc,.slice DA ds.length mc] 25)) (W:=wq) MbF N1.o.symm N2.o;have hsz:=N1.o;simp only[World.size_alloc]at cP hsz;have ax:Below w.heap.size w wq:=Below.trans (zau (Below.refl _ _) _) (N3.o.mono MbF);have ik:wq.heap[w.heap.size]?=some (.cells #[.slice LA laws.length nc,.slice DA ds.length mc] 25):=(N3.o.block _ MbF).trans (za3 _ _ _ rfl);have bu:=zad ik;have bs:∀o,Below w.heap.size w (wq.alloc o):=fun o=>zau ax _ MbC
 have nJ:∀o,(wq.alloc o).heap[w.heap.size]?=some (.cells #[.slice LA laws.length nc,.slice DA ds.length mc] 25):=fun o=>zal ik
 obtain⟨b,hb⟩:∃b,b=wq.heap.size:=⟨_,rfl⟩
 rw[<-hb]at cP⊢;have h2:=bs (.cells #[.map (some (w.heap.size+1+1)),.map (some (w.heap.size+1+1+1)),.map (some (w.heap.size+1+1+1+1)),.slice none 0 0,.map (some (w.heap.size+1+1+1+1+1)),.map (some (w.heap.size+1+1+1+1+1+1)),.slice none 0 0,.int .i64 0,.int .i64 0] 111);have cz:=nJ (.cells #[.map (some (w.heap.size+1+1)),.map (some (w.heap.size+1+1+1)),.map (some (w.heap.size+1+1+1+1)),.slice none 0 0,.map (some (w.heap.size+1+1+1+1+1)),.map (some (w.heap.size+1+1+1+1+1+1)),.slice none 0 0,.int .i64 0,.int .i64 0] 111);clear bs nJ ax ik bu hsz N1 N2 N3 hb;generalize wq.alloc _=W2 at*;obtain⟨lO,b9,aK⟩:=yH3 cP h2 cz;have dr:=zad cz;obtain⟨x0,x1⟩:=cF2 cz;have eL:=zHi (fun W (hB:Below W2.heap.size W2 W)=>zeB laws LA laws.length nc W rfl (bM.o.keep (h2.trans (hB.mono (Nat.le_of_lt dr)))));clear cP h2 cz;by_cases aG:za7 laws=0
 ·rw[aG]at eL HR;have cQ:=zHi aG;clear aG;go_upto_block 0 with(go_at_call 90;go_must(refine(eL.o _ Bw).mono ?_);rintro e wq ⟨rfl,z,rfl⟩)
  clear eL x0 x1;go_cut [9,10,11,25]from 26 (fun _ _ _ _ W=>∃s,Hid (R=(s,ds.length,0))/\∃la co,WldAt (w.heap.size+1) W b s la co/\Below w.heap.size w W/\W.heap[w.heap.size]?=some (.cells #[.slice LA laws.length nc,.slice DA ds.length mc] 25)/\(∃last,GoodSt s last)/\∃k,k<=60/\FewS k s)
  case first=>
   go_wp2_with fail
   go_loopw [25] (fun i wr=>∃(k:Nat) (s:St) (last:Int),k<=ds.length/\i=.int .i64 k/\Hid (R=zcO laws upto (ds.drop k) s k last)/\Hid (WldAt (w.heap.size+1) wr b s last k)/\Hid (GoodSt s last)/\Hid (FewS k s)/\k<=60/\Below w.heap.size w wr/\wr.heap[w.heap.size]?=some (.cells #[.slice LA laws.length nc,.slice DA ds.length mc] 25)) (fun i _=>ds.length-(intOf i).toNat)
   case atStart=>
    refine⟨0,zbf,0,Nat.zero_le _,rfl,?_,lO.o.keep (n:=W2.heap.size) Bw,zec 0,ziU,by omega,?_,?_⟩
    ·show _=_;rw[HR.o];simp
    ·exact b9.o.trans (Below.mono (B:=W2.heap.size) Bw (Nat.le_of_lt dr))
    ·exact zbZ aK.o
   case round=>
    obtain⟨k,s,last,hk,rfl,HX,HW,HG,iM,cN,hB,hX⟩:=hrel;clear lO b9 aK HR;obtain x0:=cF1 hX;have bT:=zad hX;obtain⟨HB,ki⟩:=yH2 hB hX;by_cases aa:k<ds.length
    ·obtain⟨db,off,cs,hA,C1,⟨B,c,aj,aL,hS⟩,hc⟩:=(fN.o.keep zcX hB).at aa;subst hA aL;have am:=HX.o;rw[List.drop_eq_getElem_cons aa,zcO,<-List.drop_eq_getElem_cons aa]at am;have cr:=HO.o ds[k] (List.getElem_mem aa);have im:∀W,Below wr.heap.size wr W->_:=fun W hW=>zdw ds[k] B c W (HF.o.keep (hB.trans (hW.mono (Nat.le_of_lt bT)))) cr aj (hS.keep hW)
     have aD:∀W,Below wr.heap.size wr W->OkD ds[k]->_:=fun W hW hd=>ziX (w.heap.size+1) b s k last laws LA nc ds[k] B c W (HW.o.keep hW) HG.o iM.o hd cQ.o (HL.o.keep (hB.trans (hW.mono (Nat.le_of_lt bT)))) (bM.o.keep (hB.trans (hW.mono (Nat.le_of_lt bT)))) aj (hS.keep hW)
     rw[zdR]at im;obtain⟨aq,kZ,bO,dX,cR⟩:=yH5 aa (show k+(ds.drop k).length=ds.length by rw[List.length_drop];omega) am im aD;generalize ds[k]=d at*;clear am cr im aD hX hB hS;have aC:OkD d->(zcH laws s k last d).2=0->k<60/\GoodSt (zcH laws s k last d).1 d.day/\FewS (k+1) (zcH laws s k last d).1:=fun hd h=>ziZ h hd HG.o iM.o cQ.o
     have fx:za8 d=0->OkD d:=zdv;have jN:=fun h=>zkc (laws:=laws) (s:=s) (co:=k) (last:=last) (d:=d) h
     obtain⟨kd,dy,pl,fr,ts,cl,yr⟩:=d;have i0:wr.cell? ⟨db,off+k*7,none⟩=some (.int .i64 kd):=hc 0 _ rfl;have i1:wr.cell? ⟨db,off+k*7+1,none⟩=some (.int .i64 dy):=hc 1 _ rfl;have i2:wr.cell? ⟨db,off+k*7+2,none⟩=some (.string pl):=hc 2 _ rfl;have i3:wr.cell? ⟨db,off+k*7+3,none⟩=some (.string fr):=hc 3 _ rfl;have i4:wr.cell? ⟨db,off+k*7+4,none⟩=some (.slice B ts.length c):=hc 4 _ rfl;have i5:wr.cell? ⟨db,off+k*7+5,none⟩=some (.int .i64 cl):=hc 5 _ rfl;have i6:wr.cell? ⟨db,off+k*7+6,none⟩=some (.int .i64 yr):=hc 6 _ rfl;have ao:(k:Int)<(ds.length:Int):=MbC;have bf:(0:Int)<=(k:Int):=MbC;have Cv:(k:Int)<=(mc:Int):=MbC;have jd:w.heap.size≠wr.heap.size:=MbC;unfold Deed.v at cR;simp only at jN aC cR bO;clear hc;by_cases hce:za8 ⟨kd,dy,pl,fr,ts,cl,yr⟩=0
     ·have iB:=fx hce;have am:=bO.o;rw[hce,jN hce]at am;rw[hce]at dX;have fD:=aC iB;have ir:=fun h=>zkb (laws:=laws) (s:=s) (d:=⟨kd,dy,pl,fr,ts,cl,yr⟩) (co:=k) (last:=last) h
      have dD:=zHi (fun W hW=>cR.o W hW iB);clear bO cR jN aC fx iB;generalize zcH laws s k last ⟨kd,dy,pl,fr,ts,cl,yr⟩=x at*;generalize za8 ⟨kd,dy,pl,fr,ts,cl,yr⟩=ce at*;obtain⟨s',er⟩:=x;by_cases cG:upto<dy
      ·have aX:Hid (R=(s,ds.length,0)):=by
        show _=_;rw[am,if_pos (by simp[cG]),kZ.o]
       clear am fD ir dD kZ;go_wp2_with (go_at_call 37;go_must(refine(dX.o _ Bw).mono ?_);rintro e wq ⟨rfl,z,rfl⟩)
       go_meet
       exact⟨s,aX.o,last,k,HW.o.keep (n:=wr.heap.size) Bw,HB.o.trans (Below.mono (B:=wr.heap.size) Bw MbC),by repeat(first|assumption|with_reducible refine zal ?_|with_reducible refine zbZ ?_|with_reducible refine J_ne MbC ?_),⟨last,HG.o⟩,k,cN,iM.o⟩
      ·have bC:R=if(er != 0)=true then(s,k,er)else zcO laws upto (ds.drop (k+1)) s' (k+1) dy:=by rw[am,if_neg (by simp[cG])]
       have dA:=zHi bC;have io:=dX.o;clear am bC kZ;by_cases h0:er=0
       ·subst h0;obtain⟨fC,jw,pw⟩:=fD rfl;obtain⟨dM,ox⟩:=yH2 jw pw;have fW:=wrap_k (k:=k) (Nat.lt_trans fC MbD);have nZ:=zlb (k:=k) (Nat.lt_trans fC MbD);clear fD ir jw pw io
        go_wp2_with (first
         |(go_at_call 37;go_must(refine(dX.o _ Bw).mono ?_);rintro e wq ⟨rfl,z,rfl⟩)
         |(go_at_call 38
           go_must(refine(dD.o _ Bw).mono ?_)
           rintro e wq ⟨rfl,t1,t2⟩;simp only[if_true]at t1;have T1:=zHi t1;have au:Below w.heap.size w wq:=(HB.o.trans (Below.mono (B:=wr.heap.size) Bw (Nat.le_of_lt bT))).trans (t2.mono (Nat.le_succ _));have rR:=(t2.block w.heap.size (Nat.lt_succ_self _)).trans (show _=some (.cells #[.slice LA laws.length nc,.slice (some ⟨db,off,none⟩) ds.length mc] 25) from by have hX:=ki.o;repeat(first|assumption|with_reducible refine zal ?_|with_reducible refine zbZ ?_|with_reducible refine J_ne MbC ?_));obtain⟨aM,ut⟩:=yH2 au rR
           clear t1 t2 au rR))
        go_round
        case rel=>
         clear fW nZ;refine⟨k+1,s',dy,aq.o,by go_num,?_,T1.o,dM.o,ox.o,fC,aM.o,ut.o⟩;show _=_;rw[dA.o];simp
        case measure=>clear fW nZ;have:=aq.o;simp only[intOf];omega
       ·have hs:=ir h0;simp only at hs;subst hs;have aX:Hid (R=(s',k,er)):=by
         show _=_;rw[dA.o,if_pos Mcf]
        clear fD ir dA io
        go_wp2_with (first
         |(go_at_call 37;go_must(refine(dX.o _ Bw).mono ?_);rintro e wq ⟨rfl,z,rfl⟩)
         |(go_at_call 38
           go_must(refine(dD.o _ Bw).mono ?_)
           rintro e wq ⟨rfl,t1,t2⟩;have T1:=zHi t1;have au:Below w.heap.size w wq:=(HB.o.trans (Below.mono (B:=wr.heap.size) Bw (Nat.le_of_lt bT))).trans (t2.mono (Nat.le_succ _));have aM:=zHi au
           clear t1 t2 au))
        go_ret3
        rw[aX.o];exact⟨w.heap.size+1,b,_,_,rfl,by omega,T1.o,aM.o,⟨last,HG.o⟩,k,cN,iM.o⟩
     ·have ag:(zb4 laws s k last ⟨kd,dy,pl,fr,ts,cl,yr⟩)=(s,za8 ⟨kd,dy,pl,fr,ts,cl,yr⟩):=by
       unfold zb4;rw[if_pos McP]
      have am:=bO.o;rw[ag]at am;generalize za8 ⟨kd,dy,pl,fr,ts,cl,yr⟩=ce at*;have aX:Hid (R=(s,k,ce)):=by
       show _=_;rw[am,if_neg (by simp[hce]),if_pos McP]
      clear am ag bO cR jN aC fx kZ;go_wp2_with (go_at_call 37;go_must(refine(dX.o _ Bw).mono ?_);rintro e wq ⟨rfl,z,rfl⟩)
      go_ret3
      rw[aX.o];exact⟨w.heap.size+1,b,last,k,rfl,by omega,HW.o.keep (n:=wr.heap.size) Bw,HB.o.trans (Below.mono (B:=wr.heap.size) Bw MbC),⟨last,HG.o⟩,k,cN,iM.o⟩
    ·have ao:¬(k:Int)<(ds.length:Int):=MbC;have hx:=HX.o;rw[List.drop_eq_nil_of_le MbC,zcO]at hx;have nQ:k=ds.length:=MbC;have aX:Hid (R=(s,ds.length,0)):=by show _=_;rw[hx,nQ]
     clear hx nQ hX hB;go_wp2_with fail
     go_meet
     exact⟨s,aX.o,last,k,HW.o,HB.o,ki.o,⟨last,HG.o⟩,k,cN,iM.o⟩
  case rest=>
   obtain⟨s,aX,la,co,hW,hB,hX,hg,hf⟩:=hcut;obtain⟨-,x1⟩:=cF2 hX;have bT:=zad hX;obtain⟨HW,HB⟩:=yH2 hW hB;clear hW hB hX;go_upto_region 15 with fail
   go_quiet (fail)
   go_wp2_with fail
   go_ret3
   rw[aX.o];exact⟨w.heap.size+1,b,la,co,rfl,by omega,HW.o.keep (n:=wc.heap.size) Bw,HB.o.trans (Below.mono (B:=wc.heap.size) Bw MbC),hg,hf⟩
 ·generalize za7 laws=er at*;have ag:(er != 0)=true:=by simpa using aG
  have aX:Hid (R=(zbf,0,er)):=by show _=_;rw[HR.o,if_pos ag]
  clear HR;go_wp2_with (go_at_call 90;go_must(refine(eL.o _ Bw).mono ?_);rintro e wq ⟨rfl,z,rfl⟩)
  go_ret3
  rw[aX.o];exact⟨w.heap.size+1,b,0,0,rfl,by omega,lO.o.keep (n:=W2.heap.size) Bw,b9.o.trans (Below.mono (B:=W2.heap.size) Bw MbC),⟨0,zec 0⟩,0,by omega,ziU⟩
theorem ifStr_any(g:Nat)(lb:Array Value)(eg:∀args w,(callFunc g args).run Tryz.prog w=.ok (.enter g args) w)(p:ByteArray->Bool)(A:Option Addr)(c:Nat)(xs:List ByteArray)(w:World)(hl:xs.length<=100000)
 (hS:Sl w 1 sC A xs)(hp:zea g lb (fun s=> .string s) p xs w):Calls Tryz.prog 154 #[.slice A xs.length c,.func (.func g) #[] lb] w (fun e w'=>∃i:Int,e=.returned (.int .i64 i)/\decide (0<=i)=xs.any p/\Below w.heap.size w w'):=by
 obtain⟨HS,HP⟩:=yH2 hS hp;clear hS hp;go_enter Tryz.func154,Tryz.ntmps154
 go_wp2_with fail
 go_loopw [8] (fun i wr=>∃k:Nat,k<=xs.length/\i=.int .i64 k/\Hid (xs.any p=(xs.drop k).any p)/\Below w.heap.size w wr) (fun i _=>xs.length-(intOf i).toNat)
 case atStart=>exact⟨0,Nat.zero_le _,rfl,by show _=_;rw[List.drop_zero],Below.refl _ _⟩
 case round=>
  obtain⟨k,hk,rfl,HX,hB⟩:=hrel;have HB:=zHi hB;by_cases aa:k<xs.length
  ·obtain⟨b,off,rfl,hb,hc⟩:=(HS.o.keep hB).at aa;have i0:wr.cell? ⟨b,off+k,none⟩=some (.string xs[k]):=Mci;have hx:=HX.o;rw[List.drop_eq_getElem_cons aa,List.any_cons]at hx;have aN:∀W,Below w.heap.size w W->Calls Tryz.prog g (#[.string xs[k]]++lb) W fun e w'=>e=.returned (.bool (p xs[k]))/\Below w.heap.size w w':=fun W hW=>HP.o xs[k] (List.getElem_mem aa) W hW
   generalize xs[k]=x at*;generalize hpx:p x=px at*;have aK:=zHi hx;have ao:(k:Int)<(xs.length:Int):=MbC;have bf:(0:Int)<=(k:Int):=MbC;obtain⟨aq,bj⟩:=yH2 aa aN;clear hc hx aN HX hpx;cases px
   ·go_wp2_with (go_at_fn g;refine(bj.o _ HB.o).mono ?_;rintro e w' ⟨rfl,h1⟩)
    go_round
    case rel=>exact⟨k+1,aq.o,by go_num,by show _=_;rw[aK.o];simp,h1⟩
    case measure=>have:=aq.o;simp only[intOf];omega
   ·go_wp2_with (go_at_fn g;refine(bj.o _ HB.o).mono ?_;rintro e w' ⟨rfl,h1⟩)
    go_ret
    exact⟨k,rfl,by rw[aK.o];simp,h1⟩
  ·have ao:¬(k:Int)<(xs.length:Int):=MbC;have hx:=HX.o;rw[List.drop_eq_nil_of_le MbC]at hx;have aK:=zHi hx;clear hx hB;go_wp2_with fail
   go_ret
   exact⟨-1,rfl,by rw[aK.o];simp,HB.o⟩
theorem zkd(g:Nat)(lb:Array Value)(eg:∀args w,(callFunc g args).run Tryz.prog w=.ok (.enter g args) w)(p:ByteArray->Bool)(A:Option Addr)(n c:Nat)(xs:List ByteArray)(w:World)(hn:n=xs.length)(hl:xs.length<=100000)
 (hS:Sl w 1 sC A xs)(hp:zea g lb (fun s=> .string s) p xs w):Calls Tryz.prog 103 #[.slice A n c,.func (.func g) #[] lb] w (Ret w (.bool (xs.any p))):=by
 subst hn;have HI:=zHi (ifStr_any g lb eg p A c xs w hl hS hp);clear hS hp;go_enter Tryz.func103,Tryz.ntmps103
 go_wp2_with (go_at_call 154;refine HI.o.mono ?_;rintro e wq ⟨i,rfl,hi,hB⟩)
 go_ret
 rw[<-hi];exact Ret.of rfl hB
theorem onn_any(s:ByteArray)(W:World)(hs:s.size<=100000):Calls Tryz.prog 104 #[.string s] W (Ret W (.bool (!zaR s))):=by
 go_enter Tryz.func104,Tryz.ntmps104
 exact M7
theorem onn_gives(xs:List ByteArray)(w:World)(hs:∀s∈xs,s.size<=100000):zea 104 #[] (fun s=> .string s) (fun s=>!zaR s) xs w:=fun x hx W hW=>by
 refine(onn_any x W (hs x hx)).mono ?_;exact Mas
theorem zfS(laws:List Law)(u u':Int):∀(ds:List Deed) (s t t':St) (k:Nat) (l:Int),(zax laws u ds s t k l).2=(zax laws u' ds s t' k l).2
 | [],_,_,_,_,_=>rfl
 |d::ds,s,t,t',k,l=>by
  rw[zax,zax];split
  ·rfl
  ·exact zfS laws u u' ds _ _ _ _ _
noncomputable def zck (laws:List Law) (ds:List Deed) (names:List ByteArray) (day:Int):Int:=
 if(zch laws ds 200000).2.2 != 0 then(zch laws ds 200000).2.2 else if names.any (fun s=>!zaR s)then 4 else if !zbu day then 2 else 0
theorem zdq(laws:List Law)(ds:List Deed):(zch laws ds 200000).2=(zaz laws ds 200000).2:=by
 unfold zch zaz;split
 ·rfl
 ·exact zlJ (Int.le_refl _)
theorem zfT{laws:List Law}{ds:List Deed}(h:(zch laws ds 200000).2.2=0)(day:Int):(zch laws ds day).1=(zaz laws ds day).1/\(zch laws ds day).2.2=0:=by
 rw[zdq]at h;unfold zaz at h;unfold zch zaz;split at h
 ·rename_i hc
  rw[if_pos hc,if_pos hc];exact⟨rfl,h⟩
 ·rename_i hc
  rw[if_neg hc,if_neg hc];exact zjB (by rw[zfS laws day 200000 ds zbf zbf zbf];exact h)
theorem zlc(laws:List Law)(ds:List Deed)(LA:Option Addr)(n nc:Nat)(DA:Option Addr)(m mc:Nat)(w:World)(hR:RightsIn w laws ds LA n nc DA m mc)(hF:FormsIn w)(hL:LensIn w)(hO:∀d∈ds,zdi d):
 Calls Tryz.prog 102 #[.agg #[.slice LA n nc,.slice DA m mc]] w (Ret w (.tuple #[.int .i64 (zch laws ds 200000).2.1,.int .i64 (zch laws ds 200000).2.2])):=by
 have jT:=fun W (hB:Below w.heap.size w W)=>ziw laws ds 200000 LA n nc DA m mc W (hR.keep hB) (hF.keep hB) (hL.keep hB) hO
 clear hR hF hL hO;generalize zch laws ds 200000=R at*;have lD:=zHi jT;clear jT;go_enter Tryz.func102,Tryz.ntmps102
 go_wp2_with (go_at_call 36;go_must(refine(lD.o _ Bw).mono ?_);rintro e wq ⟨base,b,la,co,rfl,h1,h2,h3,h4,h5⟩;have H3:=zHi h3;clear h1 h2 h3 h4 h5)
 go_ret2
 exact Ret.of rfl (Below.trans (zau (Below.refl _ _) _) (H3.o.mono MbF))
def zlR(w:World)(laws:List Law)(ds:List Deed)(names:List ByteArray)(day:Int)(e:Ending)(w':World):Prop:=
 Below w.heap.size w w'/\((zck laws ds names day≠0/\e=.returned (.tuple #[.pointer none,.int .i64 (zck laws ds names day)]))\/
  (zck laws ds names day=0/\∃base b la co,e=.returned (.tuple #[.pointer (some ⟨b,0,none⟩),.int .i64 0])/\w.heap.size<=base/\WldAt base w' b (zaz laws ds day).1 la co/\(∃last,GoodSt (zaz laws ds day).1 last)/\∃k,k<=60/\FewS k (zaz laws ds day).1))
theorem on_any(laws:List Law)(ds:List Deed)(day:Int)(names:List ByteArray)(LA:Option Addr)(n nc:Nat)(DA:Option Addr)(m mc:Nat)(NA:Option Addr)(l c:Nat)(w:World)(hR:RightsIn w laws ds LA n nc DA m mc)(hF:FormsIn w)(hL:LensIn w)(hO:∀d∈ds,zdi d)
 (hl:l=names.length)(gy:names.length<=100000)(hN:∀s∈names,s.size<=100000)(hS:Sl w 1 sC NA names):
 Calls Tryz.prog 44 #[.agg #[.slice LA n nc,.slice DA m mc],.int .i64 day,.slice NA l c] w (zlR w laws ds names day):=by
 subst hl;have eg:∀args w,(callFunc 104 args).run Tryz.prog w=.ok (.enter 104 args) w:=enters_of Tryz.func104 MbE rfl;have mQ:=fun W (hB:Below w.heap.size w W)=>zlc laws ds LA n nc DA m mc W (hR.keep hB) (hF.keep hB) (hL.keep hB) hO
 have jT:=fun W (hB:Below w.heap.size w W)=>ziw laws ds day LA n nc DA m mc W (hR.keep hB) (hF.keep hB) (hL.keep hB) hO
 have q8:=fun W (hB:Below w.heap.size w W)=>zkd 104 #[] eg (fun s=>!zaR s) NA names.length c names W rfl gy (hS.keep hB) (onn_gives names W hN)
 have eJ:=zfT (laws:=laws) (ds:=ds) (day:=day);have he:zck laws ds names day=if(zch laws ds 200000).2.2 != 0 then(zch laws ds 200000).2.2 else if names.any (fun s=>!zaR s)then 4 else if !zbu day then 2 else 0:=rfl;unfold zlR;generalize zck laws ds names day=E at*;obtain⟨R,m9⟩:∃R,R=zch laws ds 200000:=⟨_,rfl⟩
 rw[<-m9]at mQ eJ he;obtain⟨⟨S0,n0,er⟩,xW⟩:∃x,x=R:=⟨_,rfl⟩
 subst xW;simp only at mQ eJ he;generalize hna:names.any (fun s=>!zaR s)=na at*;obtain⟨nv,lD,nj⟩:=yH3 mQ jT q8;clear mQ jT q8 hR hF hL hO hS hN m9 hna eg;by_cases h0:er=0
 ·subst h0;have iX:E=if na then 4 else if !zbu day then 2 else 0:=by rw[he];rfl
  obtain⟨nX,nY⟩:=eJ rfl;clear he eJ;cases na
  ·generalize mx:zbu day=dd at*;cases dd
   ·have hE:E=2:=by rw[iX];rfl
    subst hE;clear iX nX nY;go_enter Tryz.func44,Tryz.ntmps44
    go_wp2_with (first
     |(go_at_call 102;refine(nv.o _ Bw).mono ?_;rintro e wq ⟨rfl,zq,rfl⟩)
     |(go_at_call 103;refine(nj.o _ Bw).mono ?_;rintro e wq ⟨rfl,zq,rfl⟩)
     |(go_at_call 47;refine(zcu _ _).mono ?_;rintro e wq ⟨rfl,rfl⟩;rw[mx]))
    go_ret2
    exact⟨Bw,.inl ⟨by decide,rfl⟩⟩
   ·have hE:E=0:=by rw[iX];rfl
    subst hE;rw[<-nX];clear iX nX;generalize zch laws ds day=R at*;obtain⟨S1,n1,e1⟩:=R;simp only at nY;subst nY;try simp only at lD
    go_enter Tryz.func44,Tryz.ntmps44
    go_wp2_with (first
     |(go_at_call 102;refine(nv.o _ Bw).mono ?_;rintro e wq ⟨rfl,zq,rfl⟩)
     |(go_at_call 103;refine(nj.o _ Bw).mono ?_;rintro e wq ⟨rfl,zq,rfl⟩)
     |(go_at_call 47;refine(zcu _ _).mono ?_;rintro e wq ⟨rfl,rfl⟩;rw[mx])
     |(go_at_call 36;go_must(refine(lD.o _ Bw).mono ?_);rintro e wq ⟨base,b,la,co,rfl,h1,h2,h3,h4,h5⟩;obtain⟨H1,H2,H3,H4,H5⟩:=yH5 h1 h2 h3 h4 h5;clear h1 h2 h3 h4 h5))
    go_ret2
    have h1:=H1.o;refine⟨Below.trans Bw (H3.o.mono ?_),.inr ⟨by first|rfl|trivial,base,b,la,co,rfl,Nat.le_trans ?_ h1,H2.o,H4.o,H5.o⟩⟩
    ·simp[zae];omega
    ·simp[zae];omega
  ·have hE:E=4:=by rw[iX];rfl
   subst hE;clear iX nX nY;go_enter Tryz.func44,Tryz.ntmps44
   go_wp2_with (first
    |(go_at_call 102;refine(nv.o _ Bw).mono ?_;rintro e wq ⟨rfl,zq,rfl⟩)
    |(go_at_call 103;refine(nj.o _ Bw).mono ?_;rintro e wq ⟨rfl,zq,rfl⟩))
   go_ret2
   exact⟨Bw,.inl ⟨by decide,rfl⟩⟩
 ·have hE:E=er:=by rw[he,if_pos Mcf]
  subst hE;clear he eJ;go_enter Tryz.func44,Tryz.ntmps44
  go_wp2_with (go_at_call 102;refine(nv.o _ Bw).mono ?_;rintro e wq ⟨rfl,zq,rfl⟩)
  go_ret2
  exact⟨Bw,.inl ⟨h0,rfl⟩⟩
def zbn(s:St)(place:ByteArray)(day:Int):Parts:=match zaH s place day with
 |none=>[]
 |some i=>(s.graves.getD i ze6).holders
def zeS(w:World)(laws:List Law)(ds:List Deed)(place:ByteArray)(day:Int)(e:Ending)(w':World):Prop:=
 Below w.heap.size w w'/\((zck laws ds [place] day≠0/\e=.returned (.tuple #[.slice none 0 0,.int .i64 (zck laws ds [place] day)]))\/
  (zck laws ds [place] day=0/\∃A c,e=.returned (.tuple #[.slice A (zbn (zaz laws ds day).1 place day).length c,.int .i64 0])/\(zbn (zaz laws ds day).1 place day).length<=c/\Sl w' 3 zaa A (zbn (zaz laws ds day).1 place day)))
theorem zdT(laws:List Law)(ds:List Deed)(place:ByteArray)(day:Int)(LA:Option Addr)(n nc:Nat)(DA:Option Addr)(m mc:Nat)(w:World)(hR:RightsIn w laws ds LA n nc DA m mc)(hF:FormsIn w)(hL:LensIn w)(hO:∀d∈ds,zdi d)(hp:place.size<=100000):
 Calls Tryz.prog 13 #[.agg #[.slice LA n nc,.slice DA m mc],.string place,.int .i64 day] w (zeS w laws ds place day):=by
 have qW:=fun W (hB:Below w.heap.size w W) NA (hS:Sl W 1 sC NA [place])=>on_any laws ds day [place] LA n nc DA m mc NA 1 1 W (hR.keep hB) (hF.keep hB) (hL.keep hB) hO rfl MbF (by simpa using hp) hS
 have lA:=zHi qW;unfold zeS;clear qW hR hF hL hO;unfold zlR at lA;generalize zck laws ds [place] day=E at*;generalize(zaz laws ds day).1=s at*;generalize br:zbn s place day=xs at*;have si:=zHi br;clear br;go_enter Tryz.func13,Tryz.ntmps13
 by_cases h0:E=0
 ·subst h0
  go_upto_region 4 with(go_at_call 44
                        go_must(refine(lA.o _ Bw _ (zdB (za3 _ _ _ MbF))).mono ?_)
                        rintro e wq ⟨h1,⟨ag,_⟩|⟨_,base,b,la,co,rfl,h2,h3,h4,h5⟩⟩
                        ·exact absurd rfl ag
                        obtain⟨H1,H3,H5⟩:=yH3 h1 h3 h5
                        clear h1 h2 h3 h4 h5)
  obtain⟨Bk,dd,cc,pp,wl,rr,mv,tv,ps,ax,hC,hP,hT⟩:=H3.o;obtain⟨k,cN,ck⟩:=H5.o;have cm:=ck.graves;have aB:=fun W (hB:Below wq.heap.size wq W)=>zih base b s la co place day W (hC.keep hB) (hT.keep hB) MbC
  have cS:Below w.heap.size w wq:=Below.trans (zau (zau (Below.refl _ _) _) _ MbF) (H1.o.mono MbH);have bl:=zHi cS;have br:=si.o;unfold zbn at br;clear si;cases ap:zaH s place day with
  |none=>
   rw[ap]at aB br;subst br;have ba:=zHi aB;clear aB hC hP hT ck cS;go_wp2_with (go_at_call 48;go_must(refine(ba.o _ Bw).mono ?_);rintro e wz ⟨rfl,z,rfl⟩;simp only[zjz,Option.map_none])
   go_ret2
   exact⟨bl.o.trans (Below.mono (B:=wq.heap.size) Bw bl.o.size),none,⟨0,rfl⟩,fun h=>absurd h MbF⟩
  |some i=>
   obtain⟨T,g,dS,eE,bJ,aQ,dP,_⟩:=zdC hT ap;rw[ap]at aB br;simp only[aQ]at br;subst br;obtain⟨H,ar,D,dc,frm,t1,t2,t3,t4,t5,t6,t7⟩:=dP;have bD:=zad t1;have iw:∀W,Below wq.heap.size wq W->Calls Tryz.prog 48 #[.pointer (some ⟨b,0,none⟩),.string place,.int .i64 day] W (Ret W (.pointer (some ⟨T,0,none⟩))):=fun W hB=>by
    have:=aB W hB;simpa only[zjz,Option.map_some,eE]using this
   have ba:=zHi iw;unfold zbe at t1;obtain⟨-,-,-,-,k4⟩:=cF5 t1;have T5:=zHi t5;clear aB iw hC hP hT ck cS t1 t5 t6 t7 aQ bJ eE dS ap;go_wp2_with (go_at_call 48;go_must(refine(ba.o _ Bw).mono ?_);rintro e wz ⟨rfl,z,rfl⟩)
   go_ret2
   exact⟨bl.o.trans (Below.mono (B:=wq.heap.size) Bw bl.o.size),H,ar,rfl,t3,(Ro.sl za0 T5.o).keep (n:=wq.heap.size) Bw⟩
 ·go_wp2_with (go_at_call 44
               go_must(refine(lA.o _ Bw _ (zdB (za3 _ _ _ MbF))).mono ?_)
               rintro e wq ⟨h1,⟨_,rfl⟩|⟨he,_⟩⟩;rotate_left 1
               ·exact absurd he h0
               have H1:=zHi h1
               clear h1)
  go_ret2
  exact⟨Below.trans (zau (zau (Below.refl _ _) _) _ MbF) (H1.o.mono MbH),.inl ⟨h0,rfl⟩⟩
def zeT(w:World)(laws:List Law)(ds:List Deed)(place:ByteArray)(ns:List ByteArray)(day:Int)(e:Ending)(w':World):Prop:=
 Below w.heap.size w w'/\((zck laws ds (place::ns) day≠0/\e=.returned (.tuple #[.pointer none,.pointer none,.int .i64 (zck laws ds (place::ns) day)]))\/
  (zck laws ds (place::ns) day=0/\zaH (zaz laws ds day).1 place day=none/\e=.returned (.tuple #[.pointer none,.pointer none,.int .i64 12]))\/
  (zck laws ds (place::ns) day=0/\∃base b la co B T i g,zaH (zaz laws ds day).1 place day=some i/\(zaz laws ds day).1.graves[i]?=some g/\e=.returned (.tuple #[.pointer (some ⟨b,0,none⟩),.pointer (some ⟨T,0,none⟩),.int .i64 0])/\w.heap.size<=base/\WldAt base w' b (zaz laws ds day).1 la co/\TombAt w' base B T g/\(∃last,GoodSt (zaz laws ds day).1 last)/\∃k,k<=60/\FewS k (zaz laws ds day).1))
theorem zke(laws:List Law)(ds:List Deed)(place:ByteArray)(ns:List ByteArray)(day:Int)(LA:Option Addr)(n nc:Nat)(DA:Option Addr)(m mc:Nat)(NA:Option Addr)(l c:Nat)(w:World)(hR:RightsIn w laws ds LA n nc DA m mc)(hF:FormsIn w)(hL:LensIn w)(hO:∀d∈ds,zdi d)(hp:place.size<=100000)
 (hl:l=ns.length)(gy:ns.length<=1000)(hN:∀s∈ns,s.size<=100000)(hS:Sl w 1 sC NA ns):
 Calls Tryz.prog 61 #[.agg #[.slice LA n nc,.slice DA m mc],.int .i64 day,.string place,.slice NA l c] w (zeT w laws ds place ns day):=by
 subst hl;have qW:=fun W (hB:Below w.heap.size w W) XA xc (hS:Sl W 1 sC XA (place::ns))=>on_any laws ds day (place::ns) LA n nc DA m mc XA (1+ns.length) xc W (hR.keep hB) (hF.keep hB) (hL.keep hB) hO MbH MbH (by simpa using⟨hp,hN⟩) hS
 obtain⟨lA,HS⟩:=yH2 qW hS;unfold zeT;clear qW hR hF hL hO hS;unfold zlR at lA;generalize zck laws ds (place::ns) day=E at*;generalize(zaz laws ds day).1=s at*;go_enter Tryz.func61,Tryz.ntmps61
 go_upto_region 1 with fail
 go_cut [11,12]from 14 to 24 (fun v11 v12 W=>Below w.heap.size w W/\((E≠0/\v11=.pointer none/\v12=.int .i64 E)\/(E=0/\v12=.int .i64 0/\∃base b la co,v11=.pointer (some ⟨b,0,none⟩)/\w.heap.size<=base/\WldAt base W b s la co/\(∃last,GoodSt s last)/\∃k,k<=60/\FewS k s)))
 case first=>
  refine wp_region_held_drew (S:=(fun w'=>w'.cell? ⟨w.heap.size,0,none⟩=some (.slice LA n nc)/\w'.cell? ⟨w.heap.size,1,none⟩=some (.slice DA m mc))) MbE ?hS ?hrest
  case hS=>refine⟨?_,?_⟩<;>(simp[go_sem];done)
  case hrest=>
   intro hHeld;refine TkH 0 ?_;refine TkH 1 ?_;refine TkH 2 ?_;refine TkH 4 ?_;refine OnH 3 fun K hK=>?_
   go_simp
   have yc:Below w.heap.size w (w.alloc (.cells #[.slice LA n nc,.slice DA m mc] 25)).drew:=Bw;have aL:∀W,Below (w.heap.size+1) (w.alloc (.cells #[.slice LA n nc,.slice DA m mc] 25)).drew W->W.cell? ⟨w.heap.size,0,none⟩=some (.slice LA n nc)/\W.cell? ⟨w.heap.size,1,none⟩=some (.slice DA m mc):=fun W hW=>by
    refine⟨(za4 hW (Nat.lt_succ_self _)).trans ?_,(za4 hW (Nat.lt_succ_self _)).trans ?_⟩<;>(simp[go_sem];done)
   have fM:=zHi aL;clear aL;have cS:Below (w.heap.size+1) (w.alloc (.cells #[.slice LA n nc,.slice DA m mc] 25)).drew ((w.alloc (.cells #[.slice LA n nc,.slice DA m mc] 25)).drew.alloc (.cells #[.string place] 9)):=zau (Below.refl _ _) _ MbF;refine NxM hK (fun hHeld=>?_) (fM.o _ cS);clear hK K;refine OnH 5 fun K hK=>?_
   refine zaV (v:=.slice (some ⟨w.heap.size+1,0,none⟩) 1 1) (n:=1) (m:=ns.length) rfl _ _ rfl zeE zbG zeD rfl (base:=w.heap.size+1) (xs:=[place]) (ys:=ns) (.inr ⟨w.heap.size+1,0,1,#[.string place],rfl,by omega,za3 _ _ _ MbF,Nat.le_refl _,by simp[maxLen],by simp,fun j u hj=>?hel⟩) rfl rfl rfl (HS.o.keep (n:=w.heap.size) Bw) MbO MbC MbF ?happ
   case hel=>
    match j,hj with
    |0,hj=>simpa[sC]using hj
    |j+1,hj=>simp[sC]at hj
   case happ=>
    intro v6 w6 h1 h2 h3;obtain⟨A6,c6,dt,hS6,_⟩:=h1.sl zbG;rw[show([place]++ns).length=1+ns.length by simp;omega]at dt;subst dt;have aY:Below (w.heap.size+1) (w.alloc (.cells #[.slice LA n nc,.slice DA m mc] 25)).drew w6:=zaF cS h2 (Nat.le_refl _) MbF;have tx:Below w.heap.size w w6:=yc.trans (aY.mono (Nat.le_succ _));have xp:=zHi tx;refine NxM hK (fun hHeld=>?_) (fM.o _ aY);clear hK K;refine OnH 6 fun K hK=>?_
    go_simp
    refine(lA.o w6 xp.o A6 c6 hS6).mono ?_;rintro e wq ⟨k1,cF⟩;have aW:Below (w.heap.size+1) (w.alloc (.cells #[.slice LA n nc,.slice DA m mc] 25)).drew wq:=aY.trans (k1.mono (by have:=aY.size;simp at this;omega));have cu:=zHi (tx.trans (k1.mono tx.size));clear h1 h2 h3 k1 tx aY cS yc lA;rcases cF with⟨ag,rfl⟩|⟨he,base,b,la,co,rfl,q2,q3,q4,q5⟩
    ·have lz:=zHi ag;clear ag;refine NxM hK (fun hHeld=>?_) (fM.o _ aW);clear hK K;refine TkH 7 ?_;refine TkH 8 ?_;refine TkH 9 ?_;refine OnH 10 fun K hK=>?_
     go_simp
     refine NxM hK (fun hHeld=>?_) (fM.o _ aW);clear hK K;refine OnH 11 fun K hK=>?_
     go_simp
     refine NxM hK (fun hHeld=>?_) (fM.o _ aW);clear hK K;refine wpAnyH_done MbE ?_ _;go_wp2_with fail
     go_meet
     exact⟨cu.o,.inl ⟨lz.o,rfl,rfl⟩⟩
    ·obtain⟨HE,Q2,Q3,Q4,Q5⟩:=yH5 he q2 q3 q4 q5;clear he q2 q3 q4 q5;refine NxM hK (fun hHeld=>?_) (fM.o _ aW);clear hK K;refine TkH 7 ?_;refine TkH 8 ?_;refine TkH 9 ?_;refine OnH 10 fun K hK=>?_
     go_simp
     refine NxM hK (fun hHeld=>?_) (fM.o _ aW);clear hK K;refine OnH 11 fun K hK=>?_
     go_simp
     refine NxM hK (fun hHeld=>?_) (fM.o _ aW);clear hK K;refine wpAnyH_done MbE ?_ _;go_wp2_with fail
     go_meet
     exact⟨cu.o,.inr ⟨HE.o,rfl,base,b,la,co,rfl,Nat.le_trans xp.o.size Q2.o,Q3.o,Q4.o,Q5.o⟩⟩
 case rest=>
  obtain⟨hB,cF⟩:=hcut;rcases cF with⟨ag,rfl,rfl⟩|⟨he,rfl,base,b,la,co,rfl,q2,q3,q4,q5⟩
  ·have lz:=zHi ag;go_wp2_with fail
   go_ret3
   exact⟨hB,.inl ⟨lz.o,rfl⟩⟩
  ·have HE:=zHi he;clear he;obtain⟨HB,Q3,Q4,Q5⟩:=yH4 hB q3 q4 q5;obtain⟨Bk,dd,cc,pp,wl,rr,mv,tv,ps,ax,hC,hP,hT⟩:=q3;obtain⟨k,cN,ck⟩:=q5;have cm:=ck.graves;have aB:=fun W (hB:Below wc.heap.size wc W)=>zih base b s la co place day W (hC.keep hB) (hT.keep hB) MbC
   have hsz:=hB.size;have lK:=zHi hsz;cases ap:zaH s place day with
   |none=>
    rw[ap]at aB;obtain⟨ba,gH⟩:=yH2 aB ap;clear aB hC hP hT ck hB q4 ap;go_wp2_with (go_at_call 48;go_must(refine(ba.o _ Bw).mono ?_);rintro e wz ⟨rfl,z,rfl⟩;simp only[zjz,Option.map_none])
    go_ret3
    exact⟨HB.o.trans (Below.mono (B:=wc.heap.size) Bw lK.o),.inr (.inl ⟨HE.o,gH.o,rfl⟩)⟩
   |some i=>
    obtain⟨T,g,dS,eE,bJ,aQ,dP,_⟩:=zdC hT ap;have iw:∀W,Below wc.heap.size wc W->Calls Tryz.prog 48 #[.pointer (some ⟨b,0,none⟩),.string place,.int .i64 day] W (Ret W (.pointer (some ⟨T,0,none⟩))):=fun W hB=>by
     have:=aB W hB;exact Mag
    obtain⟨ba,gH,rW,AF⟩:=yH4 iw ap bJ dP;clear aB iw hC hP hT ck hB q4 dP aQ eE dS ap bJ;go_wp2_with (go_at_call 48;go_must(refine(ba.o _ Bw).mono ?_);rintro e wz ⟨rfl,z,rfl⟩)
    go_ret3
    have cT:Below wc.heap.size wc (wc.ext z):=Bw;exact⟨HB.o.trans (cT.mono lK.o),.inr (.inr ⟨HE.o,base,b,la,co,Bk,T,i,g,gH.o,rW.o,rfl,q2,Q3.o.keep cT,AF.o.keep cT,Q4.o,Q5.o⟩)⟩

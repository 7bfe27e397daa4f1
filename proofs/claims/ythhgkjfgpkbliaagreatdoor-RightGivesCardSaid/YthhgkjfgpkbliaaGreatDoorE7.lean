import Derived.Test.YthhgkjfgpkbliaaGreatDoorEA
set_option linter.all false
set_option maxRecDepth 100000
set_option maxHeartbeats 4000000
namespace Go.Proofs.YthhgkjfgpkbliaaGreatDoor
open Go.RowKit Go.Shelf
attribute [local go_sem] World.cell?_alloc_mark zae zav zai zaw zam zan zao zap zaq zar zas
attribute [local go_sem] zah zac
theorem B_drop{w W:World}(h:Below w.drew.heap.size w.drew W):Below w.heap.size w W:=⟨h.os,h.tape,h.output,h.size,h.block⟩
theorem death_any(base b:Nat)(s:St)(la co last:Int)(laws:List Law)(LA:Option Addr)(lc:Nat)(d:Deed)(B:Option Addr)(c:Nat)(w:World)(hW:WldAt base w b s la co)(fq:GoodSt s last)(hl:last<=d.day)(hk:d.kind=8)(cI:za2 16 (zb3 laws d.day).num (zb3 laws d.day).den=true)(gO:laws.length<=10)(dg:Sl w 4 Law.cells LA laws)
 (Cg:s.graves.length<=1000)(bR:s.children.length<=1000)(fE:s.marriages.length<=1000)(cP:(zbp s d.frm).length<=1000)(cm:∀g∈s.graves,g.holders.length<=70000/\g.died.length<=1000):
 Calls Tryz.prog 100 #[.pointer (some ⟨b,0,none⟩),.slice LA laws.length lc,d.v B c] w (zbr base b (zd2 laws s d) la co w):=by
 have hq:=deathP_eq fq hl cI;have xD:=estate_bd (s:=s) (law:=zb3 laws d.day) (fq.wills d.frm) cI;have aF:=hW;obtain⟨Bk,dd,cc,pp,wl,rr,mv,tv,ps,ax,hC,hP,hT⟩:=hW;have bu:=zad hC;obtain⟨kd,dy,pl,fr,ts,cl,yr⟩:=d;simp only at*;clear hk;have HX:Hid (zd2 laws s ⟨kd,dy,pl,fr,ts,cl,yr⟩=_):=hq;generalize zd2 laws s ⟨kd,dy,pl,fr,ts,cl,yr⟩=X at*;obtain⟨TA,tc,rfl,_,D6⟩:=hT.own.sl zc4;have y9:=hT.own;obtain⟨oW,HC,HP,HT,HW,bU,oF,bM⟩:=yH8 hT.len hC hP hT aF fq cm dg;have l8:=zHi xD;unfold WldC at hC;obtain⟨c0,-,-,-,-,-,c6⟩:=cF7 hC;have dZ:=zHi (fun W (hB:Below w.heap.size w W)=>zcK (HP.o.keep hB) fr);have bf:∀q',_:=fun q'=>dZ.o ((w.alloc (.cells #[.int .i64 kd,.int .i64 dy,.string pl,.string fr,.slice B ts.length c,.int .i64 cl,.int .i64 yr] 28)).drewN q') (zdY Bw _)
 generalize hdx:zaK s fr=dx at*;clear hC hP hT aF fq cm dg hq xD;unfold Deed.v;simp only;go_enter Tryz.func100,Tryz.ntmps100
 go_upto_region 1 with fail
 cases dx
 ·go_quiet (fail)
  go_upto_block 0 with fail
  have bs:Below w.heap.size w (((w.alloc (.cells #[.int .i64 kd,.int .i64 dy,.string pl,.string fr,.slice B ts.length c,.int .i64 cl,.int .i64 yr] 28)).drewN nq).alloc (.cells #[.bool false] 143)):=zau (zdY Bw _) _;have D2:(((w.alloc (.cells #[.int .i64 kd,.int .i64 dy,.string pl,.string fr,.slice B ts.length c,.int .i64 cl,.int .i64 yr] 28)).drewN nq).alloc (.cells #[.bool false] 143)).heap[w.heap.size]?=some (.cells #[.int .i64 kd,.int .i64 dy,.string pl,.string fr,.slice B ts.length c,.int .i64 cl,.int .i64 yr] 28):=zal (za3 _ _ _ rfl);have M2:MarkAt (((w.alloc (.cells #[.int .i64 kd,.int .i64 dy,.string pl,.string fr,.slice B ts.length c,.int .i64 cl,.int .i64 yr] 28)).drewN nq).alloc (.cells #[.bool false] 143)) (w.heap.size+1) false:=za3 _ _ _ (by simp[World.drewN]);have s2:(((w.alloc (.cells #[.int .i64 kd,.int .i64 dy,.string pl,.string fr,.slice B ts.length c,.int .i64 cl,.int .i64 yr] 28)).drewN nq).alloc (.cells #[.bool false] 143)).heap.size=w.heap.size+1+1:=by simp[World.drewN]
  generalize(((w.alloc (.cells #[.int .i64 kd,.int .i64 dy,.string pl,.string fr,.slice B ts.length c,.int .i64 cl,.int .i64 yr] 28)).drewN nq).alloc (.cells #[.bool false] 143))=W2 at*;obtain⟨b9,gD,ke,S2⟩:=yH4 bs D2 M2 s2;clear D2 M2 s2 bf;have bk:=bs.size;clear bs;go_cut [8,10,35]from 36 (fun v8 _ _ wc=>∃A n,v8=.slice A (zb1 fr dy ps s.graves).length n/\OwnS wc W2.heap.size 112 1 ptrC v8 (zb1 fr dy ps s.graves)/\Below W2.heap.size W2 wc)
  case first=>
   go_wp2_with fail
   go_loopw [8,35] (fun v i wr=>∃(k:Nat),k<=ps.length/\i=.int .i64 k/\OwnS wr W2.heap.size 112 1 ptrC v (zb1 fr dy ps (s.graves.take k))/\Below W2.heap.size W2 wr) (fun _ i _=>ps.length-(intOf i).toNat)
   case atStart=>exact⟨0,Nat.zero_le _,rfl,OwnS.nil,Below.refl _ _⟩
   case round=>
    obtain⟨k,hk,rfl,ae,hB⟩:=hrel;obtain⟨VA,vc,rfl,_,mX⟩:=ae.sl zc4;have au:Below w.heap.size w wr:=b9.o.trans (hB.mono bk);have hsz:=hB.size;obtain⟨HO,HB⟩:=yH2 ae hB;have e1:wr.cell? ⟨w.heap.size,1,none⟩=some (.int .i64 dy):=(za4 hB Mcp).trans (by simp only[World.cell?,gD.o];rfl);have e3:wr.cell? ⟨w.heap.size,3,none⟩=some (.string fr):=(za4 hB Mcp).trans (by simp only[World.cell?,gD.o];rfl);have aZ:w.heap.size<wr.heap.size:=Mcp;by_cases aa:k<ps.length
    ·have sO:k<s.graves.length:=by have:=oW.o;omega
     have BI:=(HT.o.keep au).all k ps[k] s.graves[k] (List.getElem?_eq_getElem aa) (List.getElem?_eq_getElem sO);have be:=bU.o.graves s.graves[k] (List.getElem_mem sO);have mA:=oF.o s.graves[k] (List.getElem_mem sO)
     obtain⟨TB,toff,BH,hTb,ya⟩:=(show Sl wr 1 ptrC TA ps from by
      obtain⟨A',c',e',h',_⟩:=(y9.keep au).sl zc4;simp only[Value.slice.injEq]at e'
      rw[e'.1];exact h').at aa
     subst BH;have bA:=held_snoc fr dy s.graves sO;have eE:ps.getD k 0=ps[k]:=Mb5;have i0:wr.cell? ⟨TB,toff+k,none⟩=some (.pointer (some ⟨ps[k],0,none⟩)):=by have:=ya 0 _ rfl;simpa using this
     have yx:zb1 fr dy ps (s.graves.take (k+1))=zb1 fr dy ps (s.graves.take k)++if zcj fr dy s.graves[k]then[ps[k]]else[]:=by
      unfold zb1;rw[bA,List.map_append];cases zcj fr dy s.graves[k]
      ·rfl
      ·show _++[ps.getD k 0]=_;rw[eE];rfl
     generalize ps[k]=T at*;generalize s.graves[k]=g at*;have yY:zcj fr dy g=(zaE g dy&&decide (0<(zab g.holders fr).num)):=rfl;obtain⟨H,ar,D,dc,frm,t1,t2,t3,t4,t5,t6,t7⟩:=BI;have bD:=zad t1;unfold zbe at t1;obtain⟨-,-,-,g3,g4⟩:=cF5 t1;obtain⟨tO,hJ,tN,s9⟩:=yH4 (fun W (hW:Below wr.heap.size wr W)=>zgX g H ar T dy W ((za4 hW bD).trans g3) ((za4 hW bD).trans g4)) (fun W (hW:Below wr.heap.size wr W)=>zd6 g.holders H ar T fr W ((za4 hW bD).trans g4) (Nat.lt_of_lt_of_le bD hW.size) MbC be.good.asc (Ro.sl za0 (t5.keep hW))) yx yY;generalize zaE g dy=fi at*;generalize zab g.holders fr=q at*;unfold za9 at hJ;have ao:(k:Int)<(ps.length:Int):=MbC;have bf:(0:Int)<=(k:Int):=MbC;have eV:(k:Int)<=(tc:Int):=MbC;have cn:(zb1 fr dy ps (s.graves.take k)).length<=1000:=by
      unfold zb1;rw[List.length_map,ze2];refine Nat.le_trans (List.length_filter_le _ _) ?_;rw[List.length_take];omega
     generalize zb1 fr dy ps (s.graves.take k)=dq at*;have eb:=zHi cn;clear be mA bA yx yY t1 t5 t6 t7 t2 t3 t4 ya ae hB au cn eE g3 g4;have Cd:=zir q.num q.den;cases fi
     ·rw[Bool.false_and]at s9;go_wp2_with (go_at_call 107;refine(tO.o _ Bw).mono ?_;rintro e wq ⟨rfl,z,rfl⟩)
      go_round
      case rel=>exact⟨k+1,by omega,by go_num,by rw[tN.o,s9.o];simpa using HO.o.keep (n:=wr.heap.size) Bw,HB.o.trans ((Bw:Below wr.heap.size wr _).mono hsz)⟩
      case measure=>simp[intOf];omega
     ·by_cases hq:0<q.num
      ·have ud:Hid (zcj fr dy g=true):=by show _=_;rw[s9.o];simpa using hq
       go_wp2_with (first
        |(go_at_call 107;refine(tO.o _ Bw).mono ?_;rintro e wq ⟨rfl,z,rfl⟩)
        |(go_at_call 146;refine(hJ.o _ Bw).mono ?_;rintro e wq2 ⟨rfl,z2,rfl⟩)
        |(at_builtin;go_loud(refine zaG (v:=.slice VA dq.length vc) (n:=dq.length) (m:=1) rfl _ _ rfl elTomb zc4 zl3 rfl (HO.o.keep (n:=wr.heap.size) Bw) rfl rfl rfl (sl_ptr (T:=T) (za3 _ _ _ Mb8)) (by have:=eb.o;simp[maxLen];omega) (by have:=eb.o;omega) MbM ?_);intro v3 w3 h1 h2 h3))
       have bW:Below W2.heap.size W2 w3:=Below.grown (a:=W2) (B:=W2.heap.size) (HB.o.trans ((Bw:Below wr.heap.size wr _).mono hsz)) h2 MbM (fun j hj=>(HO.o.ge j hj).1);obtain⟨bw,H1⟩:=yH2 bW h1;clear h1 h2 h3 bW;go_wp2_with fail
       go_round
       case rel=>exact⟨k+1,by omega,by go_num,by rw[tN.o,ud.o];exact H1.o,bw.o⟩
       case measure=>simp[intOf];omega
      ·have ud:Hid (zcj fr dy g=false):=by show _=_;rw[s9.o];simpa using hq
       go_wp2_with (first
        |(go_at_call 107;refine(tO.o _ Bw).mono ?_;rintro e wq ⟨rfl,z,rfl⟩)
        |(go_at_call 146;refine(hJ.o _ Bw).mono ?_;rintro e wq2 ⟨rfl,z2,rfl⟩))
       go_round
       case rel=>exact⟨k+1,by omega,by go_num,by rw[tN.o,ud.o];simpa using HO.o.keep (n:=wr.heap.size) Bw,HB.o.trans ((Bw:Below wr.heap.size wr _).mono hsz)⟩
       case measure=>simp[intOf];omega
    ·have ao:¬(k:Int)<(ps.length:Int):=MbC;have eY:zb1 fr dy ps (s.graves.take k)=zb1 fr dy ps s.graves:=by rw[List.take_of_length_le (by have:=oW.o;omega)]
     have dC:=zHi eY;clear eY ae hB au;go_wp2_with fail
     go_meet
     have hO:=HO.o;rw[dC.o]at hO⊢;exact⟨VA,vc,rfl,hO,HB.o⟩
  case rest=>
   obtain⟨HA,hn,rfl,ae,hB⟩:=hcut;have au:Below w.heap.size w wc:=b9.o.trans (hB.mono bk);have hD:wc.heap[w.heap.size]?=some (.cells #[.int .i64 kd,.int .i64 dy,.string pl,.string fr,.slice B ts.length c,.int .i64 cl,.int .i64 yr] 28):=(hB.block _ Mcp).trans gD.o;have hM:MarkAt wc (w.heap.size+1) false:=(hB.block _ Mcp).trans ke.o;have ig:(zb1 fr dy ps s.graves).length=0->s.graves.any (zcj fr dy)=false:=fun h=>by
    unfold zb1 at h;rw[List.length_map,ze2]at h;rw[List.any_eq_false];intro g hg hq;have:g∈s.graves.filter (zcj fr dy):=List.mem_filter.2 ⟨hg,hq⟩;rw[List.eq_nil_of_length_eq_zero h]at this;cases this
   obtain⟨gT,HO,aM,HD,HM⟩:=yH5 ig ae au hD hM;clear ig ae au hD hM;go_upto_if 58 with fail
   go_cut [11,12,14,15,16,18,19,20,21,58]from 59 (fun _ _ _ _ _ _ _ _ _ _ W=>∃gs,Hid (X=({s with graves:=gs,dead:=s.dead++[fr]},0))/\WldAt base W b {s with graves:=gs} la co/\Below base w W/\W.heap[w.heap.size]?=some (.cells #[.int .i64 kd,.int .i64 dy,.string pl,.string fr,.slice B ts.length c,.int .i64 cl,.int .i64 yr] 28)/\KeepD w W)
   case first=>
    by_cases hz:(zb1 fr dy ps s.graves).length=0
    ·have fL:¬(0:Int)<((zb1 fr dy ps s.graves).length:Int):=MbC;have hX:=HX.o;rw[gT.o hz]at hX;have aK:=zHi hX;clear hz hX;go_wp2_with fail
     go_meet
     refine⟨s.graves,?_,HW.o.keep aM.o,aM.o.mono (by have:=HW.o.lt;omega),HD.o,KeepD.below aM.o⟩;show _=_;rw[aK.o];simp
    ·have fL:(0:Int)<((zb1 fr dy ps s.graves).length:Int):=MbC;have HZ:=zHi hz;have d1:wc.cell? ⟨w.heap.size,1,none⟩=some (.int .i64 dy):=by simp only[World.cell?,HD.o];rfl
     have d3:wc.cell? ⟨w.heap.size,3,none⟩=some (.string fr):=by simp only[World.cell?,HD.o];rfl
     have aZ:w.heap.size<wc.heap.size:=zad HD.o;have aS:=aM.o.size;have nk:=zHi (show∃EF,EF=zbL s (zb3 laws dy) fr from⟨_,rfl⟩);obtain⟨EF,ko⟩:=nk.o;rw[<-ko]at l8 HX;have hel:EF.1.length<=3000:=by
      have h1:=l8.o.good;have h2:=zjR (s:=s) (law:=zb3 laws dy) (n:=fr) (by rw[<-ko];exact h1);rw[<-ko]at h2;omega
     obtain⟨dL,HE⟩:=yH2 hel ko;clear hz ko nk hel;go_upto_region 12 with fail
     clear fL;go_cut [11,58]from 59 (fun v11 _ W=>∃A n,v11=.slice A EF.1.length n/\OwnS W (w.heap.size+1+1) 59 3 zaa v11 EF.1/\MarkAt W (w.heap.size+1) EF.2/\wc.grownBy W (some (w.heap.size+1)))
     case first=>
      refine wp_region_held_drew (S:=(fun w'=>w'.cell? ⟨w.heap.size,1,none⟩=some (.int .i64 dy)/\w'.cell? ⟨w.heap.size,3,none⟩=some (.string fr))) MbE ?hS ?hrest
      case hS=>exact⟨d1,d3⟩
      case hrest=>
       intro hHeld;refine TkH 0 ?_;refine TkH 1 ?_;refine TkH 2 ?_;refine TkH 3 ?_;refine TkH 4 ?_;refine TkH 5 ?_;refine TkH 7 ?_;refine TkH 8 ?_;refine OnH 6 fun K hK=>?_
       go_simp
       refine(zmd laws LA lc dy _ gO (bM.o.keep (aM.o.trans ((zaI (Below.refl _ _)).mono aS)))).mono ?_;rintro e w5 ⟨rfl,z,rfl⟩;refine NxM hK (fun hHeld=>?_) (⟨(zav _ _ _ _ aZ).trans d1,(zav _ _ _ _ aZ).trans d3⟩);clear hK K;refine OnH 9 fun K hK=>?_
       go_simp
       refine(zm9 base b (w.heap.size+1) s last (zb3 laws dy) fr _ ?q1 bU.o ?q2 bR fE cP cI).mono ?_
       case q1=>exact fun W hW=>HW.o.peo.keep (zaF (aM.o.trans ((zbH (zaI (Below.refl _ _)) z).mono aS)) hW MbC)
       case q2=>exact HM.o.drew.ext z
       rintro e w6 ⟨v,rfl,n1,n2,n3⟩;rw[<-HE.o]at n1 n2;have n3':wc.grownBy w6 (some (w.heap.size+1)):=⟨n3.os,n3.tape,n3.output,Nat.le_trans Mb8 n3.size,fun k hk ag=>(n3.block k MbM ag).trans (zbJ _ _ _ hk)⟩
       obtain⟨N1,N2,N3⟩:=yH3 n1 n2 n3';clear n1 n2 n3 n3';refine NxM hK (fun hHeld=>?_) (⟨(zaN N3.o aZ MbC).trans d1,(zaN N3.o aZ MbC).trans d3⟩);clear hK K;refine OnH 10 fun K hK=>?_
       go_simp
       refine NxM hK (fun hHeld=>?_) (⟨(zaN N3.o aZ MbC).trans d1,(zaN N3.o aZ MbC).trans d3⟩);clear hK K;refine wpAnyH_done MbE ?_ _;go_wp2_with fail
       go_meet
       obtain⟨A9,n9,rfl,_,_⟩:=N1.o.sl za0;exact⟨A9,n9,rfl,OwnS.base_le N1.o (by have:=S2.o;have:=hB.size;simp[zae];omega),N2.o,N3.o⟩
     case rest=>
      obtain⟨EA,en,rfl,n1,n2,n3⟩:=hcut;have jv:Below w.heap.size w wc:=zaF aM.o n3 MbC (by have:=aM.o.size;omega);have xB:wc.heap[w.heap.size]?=some (.cells #[.int .i64 kd,.int .i64 dy,.string pl,.string fr,.slice B ts.length c,.int .i64 cl,.int .i64 yr] 28):=(n3.block _ aZ MbF).trans HD.o
      have nF:OwnS wc (w.heap.size+1+1) 112 1 ptrC (.slice HA (zb1 fr dy ps s.graves).length hn) (zb1 fr dy ps s.graves):=(OwnS.base_le HO.o Mcp).grown n3 (by
       cases hb:za1 (.slice HA (zb1 fr dy ps s.graves).length hn)with
       |none=>exact .inl rfl
       |some g=>exact .inr fun e=>by have:=(HO.o.ge g hb).1;have:=S2.o;simp at e;omega)
      obtain⟨oU,ov,jm,rV,oy⟩:=yH5 nF n1 n2 xB jv;have dU:=n3.size;have hHL:(zb1 fr dy ps s.graves).length<=1000:=by
       unfold zb1;rw[List.length_map,ze2];exact Nat.le_trans (List.length_filter_le _ _) Cg
      have gw:(zb1 fr dy ps s.graves).length=(s.graves.filter (zcj fr dy)).length:=by
       unfold zb1;rw[List.length_map,ze2]
      obtain⟨oA,oM⟩:=yH2 gw (fun(W:World) (hB:Below w.heap.size w W) j hj=>held_tomb (n:=fr) (day:=dy) (HT.o.keep hB) (j:=j) hj);have xG:∀g∈s.graves.filter (zcj fr dy),GoodG g/\g.holders.length<=70000/\g.died.length<=1000:=fun g hg=>⟨bU.o.graves g (List.mem_filter.1 hg).1,oF.o g (List.mem_filter.1 hg).1⟩
      have lq:=zHi xG;clear n1 n2 n3 nF xB jv d1 d3 aZ gw xG;generalize hHs:zb1 fr dy ps s.graves=HL at*;generalize hgs2:s.graves.filter (zcj fr dy)=aw at*;obtain⟨rY,fj⟩:=yH2 hHs hgs2;clear hHs hgs2;go_upto_block 2 with fail
      go_cut [12,14,15,16,18,19,71]from 72 (fun v12 _ _ _ _ _ _ W=>∃A n es,v12=.slice A HL.length n/\OwnS W (w.heap.size+1+1) 114 6 tmC v12 es/\es.map (·.1)=(zc0 fr EF.1 aw EF.2).1/\(∀e∈es,TmOk W w.heap.size e)/\MarkAt W (w.heap.size+1) (zc0 fr EF.1 aw EF.2).2/\Below w.heap.size w W/\W.heap[w.heap.size]?=some (.cells #[.int .i64 kd,.int .i64 dy,.string pl,.string fr,.slice B ts.length c,.int .i64 cl,.int .i64 yr] 28)/\OwnS W (w.heap.size+1+1) 112 1 ptrC (.slice HA HL.length hn) HL)
      case first=>
       go_wp2_with fail
       go_loopw [12,71] (fun v i wr=>∃(j:Nat) (es:List Tm),j<=HL.length/\i=.int .i64 j/\OwnS wr (w.heap.size+1+1) 114 6 tmC v es/\Hid (es.map (·.1)=(zc0 fr EF.1 (aw.take j) EF.2).1)/\Hid (∀e∈es,TmOk wr w.heap.size e)/\MarkAt wr (w.heap.size+1) (zc0 fr EF.1 (aw.take j) EF.2).2/\Below w.heap.size w wr/\wr.heap[w.heap.size]?=some (.cells #[.int .i64 kd,.int .i64 dy,.string pl,.string fr,.slice B ts.length c,.int .i64 cl,.int .i64 yr] 28)/\OwnS wr (w.heap.size+1+1) 112 1 ptrC (.slice HA HL.length hn) HL/\OwnS wr (w.heap.size+1+1) 59 3 zaa (.slice EA EF.1.length en) EF.1/\w.heap.size+1+1<=wr.heap.size) (fun _ i _=>HL.length-(intOf i).toNat)
       case atStart=>exact⟨0,[],Nat.zero_le _,rfl,OwnS.nil,rfl,fun e he=>by(cases he),jm.o,oy.o,rV.o,oU.o,ov.o,by have:=S2.o;have:=hB.size;omega⟩
       case round=>
        obtain⟨j,es,hj,rfl,ae,jY,g7,hm,hF,hD,hO,hE,hsz⟩:=hrel;obtain⟨NA,nc,rfl,_,qP⟩:=ae.sl zlN;have gw:=oA.o;have mz:es.length=j:=by
         have h1:=congrArg List.length jY.o;rw[List.length_map,ziP,List.length_take]at h1;omega
        obtain⟨HN,HM,HF,oq,bV,ow⟩:=yH6 ae hm hF hD hO hE;obtain⟨-,-,-,e3⟩:=cF4 hD;have aZ:=zad hD;by_cases aa:j<HL.length
        ·obtain⟨i,g,hi,dS,bJ,vF,dP⟩:=oM.o wr hF j aa;obtain⟨be,hgh,aQ⟩:=lq.o g (List.mem_of_getElem? vF)
         obtain⟨bE,gA,uI,mq,pA⟩:=(show Sl wr 1 ptrC HA HL from by
          obtain⟨A',c',e',h',_⟩:=hO.sl zc4;simp only[Value.slice.injEq]at e'
          rw[e'.1];exact h').at aa
         subst uI;have i0:wr.cell? ⟨bE,gA+j,none⟩=some (.pointer (some ⟨HL[j],0,none⟩)):=by have:=pA 0 _ rfl;simpa using this
         have bA:=next_snoc fr EF.1 aw EF.2 (k:=j) MbC;have qo:aw[j]' MbC=g:=by
          have:=List.getElem?_eq_getElem (l:=aw) (i:=j) MbC;rw[vF]at this;exact(Option.some.inj this).symm
         rw[qo]at bA;have ef:=zHi bA;generalize HL[j]=T at*;obtain⟨H,ar,D,dc,frm,t1,t2,t3,t4,t5,t6,t7⟩:=dP;have bD:=zad t1;unfold zbe at t1;obtain⟨m0,m1,m2,m3,m4,m5⟩:=cF6 t1;obtain⟨cv,iO,bj⟩:=yH3 t1 t6 (fun W (hW:Below wr.heap.size wr W)=>zdM g.holders H g.holders.length ar W rfl MbC (Ro.sl za0 (t5.keep hW)));have uU:T≠wr.heap.size:=MbC;have jd:w.heap.size≠wr.heap.size:=MbC;have ao:(j:Int)<(HL.length:Int):=MbC;have bf:(0:Int)<=(j:Int):=MbC;have Bf:(HL.length:Int)<=(hn:Int):=by
          obtain⟨A',c',e',_,h'⟩:=hO.sl zc4;exact May
         generalize zc0 fr EF.1 (aw.take j) EF.2=nx at*;obtain⟨gW,du⟩:=yH2 gw mz;clear gw mz ae hm hF hD hO hE pA bA qo vF bJ dS hi t1 t5 t6 t7 t2 t3 t4;go_upto_region 18 with fail
         have sk:Below wr.heap.size wr (wr.alloc (.cells #[.string g.place,.int .i64 g.cls,.int .i64 frm,.int .i64 g.fin,.slice H g.holders.length ar,.slice D g.died.length dc] 114)):=Bw;have ye:(wr.alloc (.cells #[.string g.place,.int .i64 g.cls,.int .i64 frm,.int .i64 g.fin,.slice H g.holders.length ar,.slice D g.died.length dc] 114)).heap[wr.heap.size]?=some (.cells #[.string g.place,.int .i64 g.cls,.int .i64 frm,.int .i64 g.fin,.slice H g.holders.length ar,.slice D g.died.length dc] 114):=za3 _ _ _ rfl;have xZ:(wr.alloc (.cells #[.string g.place,.int .i64 g.cls,.int .i64 frm,.int .i64 g.fin,.slice H g.holders.length ar,.slice D g.died.length dc] 114)).heap.size=wr.heap.size+1:=MbF;generalize wr.alloc (.cells #[.string g.place,.int .i64 g.cls,.int .i64 frm,.int .i64 g.fin,.slice H g.holders.length ar,.slice D g.died.length dc] 114)=WA at*;have y4:=(za4 (o:=4) sk bD).trans m4;obtain⟨us,oh,lE⟩:=yH3 ye sk xZ;have aA:=bj.o WA sk;have jl:=zHi aA;clear ye sk xZ aA bj;have wg:Below wr.heap.size wr WA:=oh.o;go_cut [83]from 78 to 124 (fun _ W=>∃A1 c1,zbe W wr.heap.size g.place g.cls frm g.fin (.slice A1 g.holders.length c1) (.slice D g.died.length dc)/\OwnS W wr.heap.size 59 3 zaa (.slice A1 g.holders.length c1) g.holders/\Below wr.heap.size wr W)
         case first=>
          clear oM lq g7 jY HM gW du ef HN ow bV oq HF iO cv oU ov jm rV oy rY fj HO aM HD gT b9 gD ke S2 dZ l8 bM oF bU HW HT HP HC oW
          go_wp2_with (go_at_call 68
                       go_must(refine jl.o.mono ?_)
                       rintro e wq ⟨hv,rfl,o1,o2⟩;obtain⟨A1,c1,mW,_,_⟩:=o1.sl za0;subst mW;have x1:=(o2.block wr.heap.size (by have:=lE.o;omega)).trans us.o;have x3:=zad x1;have x4:wq.frozen? ⟨wr.heap.size,4,none⟩=false:=(by simp only[World.frozen?,x1];rfl)
                       have x5:wq.cell? ⟨wr.heap.size,4,none⟩=some (.slice H g.holders.length ar):=(by simp only[World.cell?,x1];rfl)
                       obtain⟨X1,O1,O2⟩:=yH3 x1 o1 o2
                       clear x1 o1 o2)
          go_meet
          refine⟨A1,c1,zfk (show zbe wq wr.heap.size g.place g.cls frm g.fin (.slice H g.holders.length ar) (.slice D g.died.length dc) from X1.o) _,?_,zaU (oh.o.trans (O2.o.mono (by have:=lE.o;omega))) MbF _⟩;refine OwnS.base_le (OwnS.grown O1.o (zay _ _ _ _) (.inr fun e=>?_)) (by have:=lE.o;omega);have:=(O1.o.ge _ e).1;have:=lE.o;omega
         case rest=>
          obtain⟨A1,c1,bi,ct,fo⟩:=hcut;have wn:=fo.size;have bv:=zad bi;have d3:wc.cell? ⟨w.heap.size,3,none⟩=some (.string fr):=(za4 fo aZ).trans e3;have q5:wc.cell? ⟨T,5,none⟩=some (.slice D g.died.length dc):=(za4 fo bD).trans m5;have fM:=zHi (fun W (hW:Below wc.heap.size wc W)=>zj0 g.died D g.died.length dc W rfl MbC (Ro.sl zbG ((iO.o.keep fo).keep hW)));obtain⟨ei,g8,d9⟩:=yH3 bi ct fo;clear bi ct fo;go_upto_region 19 with fail
          go_cut [93]from 84 to 124 (fun _ W=>∃A2 c2,zbe W wr.heap.size g.place g.cls frm g.fin (.slice A1 g.holders.length c1) (.slice A2 (g.died.length+[fr].length) c2)/\OwnS W wr.heap.size 9 1 sC (.slice A2 (g.died.length+[fr].length) c2) (g.died++[fr])/\OwnS W wr.heap.size 59 3 zaa (.slice A1 g.holders.length c1) g.holders/\Below wr.heap.size wr W)
          case first=>
           clear oM lq g7 jY HM gW du ef HN ow bV oq HF iO cv oU ov jm rV oy rY fj HO aM HD gT b9 gD ke S2 dZ l8 bM oF bU HW HT HP HC oW jl us oh lE;refine wp_region_held_drew (S:=(fun w'=>w'.cell? ⟨w.heap.size,3,none⟩=some (.string fr)/\w'.cell? ⟨T,5,none⟩=some (.slice D g.died.length dc))) MbE ?hS ?hrest
           case hS=>exact⟨d3,q5⟩
           case hrest=>
            intro hHeld;refine TkH 0 ?_;refine TkH 1 ?_;refine TkH 2 ?_;refine TkH 3 ?_;refine TkH 5 ?_;refine TkH 6 ?_;refine wpAnyH_ready (rs:=[4,7]) MbE MbF (AllReadyH.cons (List.getElem?_toArray.trans rfl) (fun K hK=>?_) (AllReadyH.cons (List.getElem?_toArray.trans rfl) (fun K hK=>?_) AllReadyH.nil))
            ·go_simp
             refine(fM.o _ Bw).mono ?_;rintro e w5 ⟨hv,rfl,o1,o2⟩;obtain⟨A5,c5,mW,_,_⟩:=o1.sl zbG;subst mW;have z0:=o2.size;have z1:w.heap.size<w5.heap.size:=by simp at z0;omega
             have z2:T<w5.heap.size:=by simp at z0;omega
             have z3:w5.cell? ⟨w.heap.size,3,none⟩=some (.string fr):=(za4 o2 MbH).trans d3;have z5:w5.cell? ⟨T,5,none⟩=some (.slice D g.died.length dc):=(za4 o2 MbH).trans q5;refine NxM hK (fun hHeld=>?_) (⟨z3,z5⟩);clear hK K;refine OnH 7 fun K hK=>?_
             go_simp
             refine NxM hK (fun hHeld=>?_) (⟨(za4 (zau (Below.refl _ _) _) z1).trans z3,(za4 (zau (Below.refl _ _) _) z2).trans z5⟩);clear hK K;refine OnH 8 fun K hK=>?_
             have oK:Below wc.drew.heap.size wc.drew (w5.alloc (.cells #[.string fr] 9)):=(zau o2 _)
             refine zaV (v:=.slice A5 g.died.length c5) (n:=g.died.length) (m:=1) rfl _ _ rfl zeE zbG zeD rfl (xs:=g.died) (ys:=[fr]) (o1.keep (n:=w5.heap.size) Bw) rfl rfl rfl (zdB (za3 w5 _ _ MbF)) MbO MbC (by have:=z0;simp at this⊢;omega) ?_;exact Mi
            ·go_simp
             have kn:Below wc.heap.size wc (wc.drew.alloc (.cells #[.string fr] 9)):=zau (zaI (Below.refl _ _)) _;refine NxM hK (fun hHeld=>?_) (⟨(za4 kn MbC).trans d3,(za4 kn MbC).trans q5⟩);clear hK K;refine OnH 4 fun K hK=>?_
             go_simp
             have D3:=d3;have Q5:=q5;have d3:=(za4 kn MbC).trans D3;have q5:=(za4 kn MbC).trans Q5;refine(fM.o _ Bw).mono ?_;rintro e w5 ⟨hv,rfl,o1,o2⟩;obtain⟨A5,c5,mW,_,_⟩:=o1.sl zbG;subst mW;have z0:=o2.size;have z1:w.heap.size<w5.heap.size:=by simp at z0;omega
             have z2:T<w5.heap.size:=by simp at z0;omega
             have z3:w5.cell? ⟨w.heap.size,3,none⟩=some (.string fr):=(za4 o2 MbH).trans d3;have z5:w5.cell? ⟨T,5,none⟩=some (.slice D g.died.length dc):=(za4 o2 MbH).trans q5;have d3:=D3;have q5:=Q5;have lR:=kn.trans (o2.mono MbF);have Bp:=(o2.block wc.heap.size MbF).trans (za3 wc.drew _ _ rfl);refine NxM hK (fun hHeld=>?_) (⟨z3,z5⟩);clear hK K;refine OnH 8 fun K hK=>?_
             have oK:Below wc.drew.heap.size wc.drew (w5):=⟨lR.os,lR.tape,lR.output,lR.size,lR.block⟩
             refine zaV (v:=.slice A5 g.died.length c5) (n:=g.died.length) (m:=1) rfl _ _ rfl zeE zbG zeD rfl (xs:=g.died) (ys:=[fr]) (o1.keep (n:=w5.heap.size) Bw) rfl rfl rfl (zdB Bp) MbO MbC (by have:=z0;simp at this⊢;omega) ?_;exact Mi
          case rest=>
           obtain⟨A2,c2,bi,jB,ct,fo⟩:=hcut;obtain⟨W3,rfl⟩:∃x,x=wc:=⟨_,rfl⟩
           obtain⟨WR,rfl⟩:∃x,x=wr:=⟨_,rfl⟩
           have wn:=fo.size;have bv:=zad bi;have d3:W3.cell? ⟨w.heap.size,3,none⟩=some (.string fr):=(za4 fo aZ).trans e3;have rO:W3.cell? ⟨WR.heap.size,4,none⟩=some (.slice A1 g.holders.length c1):=Mb2;obtain⟨eX,eC,gQ,dl⟩:=death_bd (n:=fr) (hs:=EF.1) be l8.o;have jb:∀W,Below W3.heap.size W3 W->_:=fun W hB=>zd6 g.holders A1 c1 WR.heap.size fr W ((za4 hB bv).trans rO) (Nat.lt_of_lt_of_le bv hB.size) MbC be.good.asc (Ro.sl za0 (ct.ro'.keep hB))
           have aU:∀W,zbe W WR.heap.size g.place g.cls frm g.fin (.slice A1 g.holders.length c1) (.slice A2 (g.died.length+[fr].length) c2)->OwnS W WR.heap.size 59 3 zaa (.slice A1 g.holders.length c1) g.holders->Calls Tryz.prog 145 #[.pointer (some ⟨WR.heap.size,0,none⟩),.string fr,.agg #[.int .i64 0,.int .i64 1]] W (zi8 W WR.heap.size WR.heap.size g.place g.cls frm g.fin (.slice A2 (g.died.length+[fr].length) c2) (.slice A1 g.holders.length c1) (setP g.holders fr 0)):=fun W h1 h2=>zha WR.heap.size WR.heap.size g.holders _ g.place g.cls frm g.fin _ fr 0 W h1 (Nat.le_refl _) h2 be.good.asc MbC
           obtain⟨own,ae⟩:∃own,own=zab g.holders fr:=⟨_,rfl⟩
           rw[<-ae]at jb eX eC gQ dl;obtain⟨dB,dw,cB,eO,ei,g8,fN,d9⟩:=yH8 jb aU dl ae bi ct jB fo;clear jb aU dl ae bi ct jB fo rO;unfold za9 at dB
           go_upto_region 22 with(first
            |(go_at_call 146
              go_must(refine(dB.o _ Bw).mono ?_)
              rintro e wq ⟨rfl,z,hz⟩;have dJ:Below W3.heap.size W3 wq:=(by rw[hz];exact Bw)
              have d3q:=(za4 dJ (show w.heap.size<W3.heap.size by omega)).trans d3;have dlq:=dJ.size;have cP:w.heap.size<wq.heap.size:=MbC;have gI:=zHi dJ
              clear hz dJ)
            |(go_at_call 145
              go_must(refine(dw.o _ ?q1 ?q2).mono ?_)
              case q1=>exact zal ((gI.o.block _ bv).trans ei.o)
              case q2=>exact g8.o.keep (n:=W3.heap.size) (zau gI.o _)
              rintro e wz ⟨rfl,v',t1,t2,t3,t4⟩;obtain⟨T1,T2,T3,T4⟩:=yH4 t1 t2 t3 t4
              clear t1 t2 t3 t4))
           have eQ:Below WR.heap.size WR wz:=(d9.o.trans ((zau gI.o _).mono MbC)).trans T3.o;have mZ:=eQ.size;have pT:(wq.alloc (zba own)).heap[WR.heap.size]?=some (.cells #[.string g.place,.int .i64 g.cls,.int .i64 frm,.int .i64 g.fin,.slice A1 g.holders.length c1,.slice A2 (g.died.length+[fr].length) c2] 114):=zal ((gI.o.block _ bv).trans ei.o);have pK:=g8.o.keep (n:=W3.heap.size) (zau gI.o (zba own));have po:=fN.o.keep (n:=W3.heap.size) (zau gI.o (zba own));have aC:∀(j:Nat) (cur:Array Value) (t:TypeId) (f:Nat×Nat),(wq.alloc (zba own)).heap[j]?=some (.cells cur t f)->t≠114->t≠59->wz.heap[j]?=(wq.alloc (zba own)).heap[j]?:=fun j cur t f hj n1 n2=>
            T4.o j (zad hj) (fun e=>by rw[e,pT]at hj;simp only[Option.some.injEq,Obj.cells.injEq]at hj;exact n1 hj.2.1.symm) (ziT pK hj n2)
           have xC:OwnS wz WR.heap.size 9 1 sC (.slice A2 (g.died.length+[fr].length) c2) (g.died++[fr]):=po.same (fun j cur _ hj=>aC j cur _ _ hj MbD MbD);have sA:wz.heap[wq.heap.size]?=some (zba own):=(aC _ _ _ _ (za3 wq (zba own) _ rfl) MbD MbD).trans (za3 wq (zba own) _ rfl);have xO:MarkAt wz (w.heap.size+1) nx.2:=HM.o.keep eQ (zad HM.o);have mD:WR.grownBy wz (some (w.heap.size+1)):=⟨eQ.os,eQ.tape,eQ.output,eQ.size,fun k hk _=>eQ.block k hk⟩
           have qG:=zhe (n:=fr) (q:=0) (l:=g.holders);have By:WR.heap.size<wq.heap.size:=by have:=gI.o.size;omega
           have fE:=zad HM.o;obtain⟨O,hO⟩:∃O,O=wq.heap.size:=⟨_,rfl⟩
           rw[<-hO]at sA By⊢;have hOz:=zad sA;obtain⟨dK,ou,oC,tZ,oI,nr⟩:=yH6 eQ xC sA xO mD qG;clear eQ xC sA xO mD aC pT pK po qG d3q dlq hO d3 gI T3 T4 dB dw cP;go_upto_block 4 with fail
           go_cut [18,19,103]from 104 to 124 (fun _ _ _ W=>∃v out fl,Hid ((out,fl)=zcP fr EF.1 g nx.2)/\MarkAt W (w.heap.size+1) fl/\zbe W WR.heap.size g.place g.cls frm g.fin v (.slice A2 (g.died.length+[fr].length) c2)/\OwnS W WR.heap.size 59 3 zaa v out/\OwnS W WR.heap.size 9 1 sC (.slice A2 (g.died.length+[fr].length) c2) (g.died++[fr])/\WR.grownBy W (some (w.heap.size+1)))
           case first=>
            clear oW HC HP HT HW bU oF bM c0 c6 b9 ke S2 bk aM aS HE ov jm oy dU gT HZ lq oA rY fj HO oU ao bf Bf jY gW du y4 jl d3 q5 g7 HN HF e3 i0 m0 m1 m2 m3 m4 m5 iO uU jd oh lE wg fN d9 bV y9;go_wp2_with fail
            go_loopw [103] (fun i W=>∃(k:Nat) (v:Value) (out:Parts) (fl:Bool),k<=EF.1.length/\i=.int .i64 k/\Hid ((out,fl)=zdy own (EF.1.take k) (setP g.holders fr 0,nx.2))/\Hid (out.length<=g.holders.length+1+k)/\MarkAt W (w.heap.size+1) fl/\zbe W WR.heap.size g.place g.cls frm g.fin v (.slice A2 (g.died.length+[fr].length) c2)/\OwnS W WR.heap.size 59 3 zaa v out/\OwnS W WR.heap.size 9 1 sC (.slice A2 (g.died.length+[fr].length) c2) (g.died++[fr])/\WR.grownBy W (some (w.heap.size+1))/\W.heap[O]?=some (zba own)) (fun i _=>EF.1.length-(intOf i).toNat)
            case atStart=>exact⟨0,v',setP g.holders fr 0,nx.2,Nat.zero_le _,rfl,rfl,nr.o,tZ.o,T1.o,T2.o,ou.o,oI.o,oC.o⟩
            case round=>
             obtain⟨k,v,out,fl,hk,rfl,jt,eb,hm,bi,ct,jB,dH,fS⟩:=hrel;clear nr tZ T1 T2 ou oI oC dK;obtain⟨A3,c3,rfl,lZ,il⟩:=ct.sl za0;have dl:Bd out 1:=by have:=cB.o nx.2 k;rw[<-jt.o]at this;exact this
             have sw:=ow.o.grown dH (.inr fun e=>by have:=(ow.o.ge _ e).1;omega);have rQ:=zad bi;have uO:=zad fS;have CG:=zad hm;have rO:wr.cell? ⟨WR.heap.size,4,none⟩=some (.slice A3 out.length c3):=Mb2;obtain⟨HD,wY,lN,ed,l7,wP,tJ,Al⟩:=yH8 dl hm bi ct jB dH fS lZ;have HE3:=zHi sw;clear dl hm bi ct jB fS lZ dH;by_cases iA:k<EF.1.length
             ·obtain⟨b',off,rfl,bE,hc⟩:=(sw.sl' za0).at iA;obtain⟨eD,ja,dq⟩:=zmD l8.o (List.getElem_mem iA);have aw:=zmE own EF.1 (setP g.holders fr 0,nx.2) iA;rw[<-jt.o]at aw;have C6:EF.1.length<=en:=by
               obtain⟨A',c',e',_,h'⟩:=sw.sl za0;exact May
              generalize EF.1[k]=p at*;obtain⟨pn,q⟩:=p;simp only at eD ja dq;have i0:wr.cell? ⟨b',off+k*3,none⟩=some (.string pn):=hc 0 _ rfl;have i1:wr.cell? ⟨b',off+k*3+1,none⟩=some (.int .i64 q.num):=hc 1 _ rfl;have i2:wr.cell? ⟨b',off+k*3+2,none⟩=some (.int .i64 q.den):=hc 2 _ rfl;have o0:wr.cell? ⟨O,0,none⟩=some (.int .i64 own.num):=by simp only[World.cell?,tJ.o,zba];rfl
              have o1:wr.cell? ⟨O,1,none⟩=some (.int .i64 own.den):=by simp only[World.cell?,tJ.o,zba];rfl
              have qs:zaD (zaQ (own*q)):=zcl (zcc (Rat.mul_nonneg eX (Rat.le_of_lt eD))) (Rat.le_trans (zfH (Rat.mul_nonneg eX (Rat.le_of_lt eD))) (zii eX gQ (Rat.le_of_lt eD) ja)) (zfo _);obtain⟨bU,tM,lw⟩:=yH3 aw qs iA;have fW:wrap64 ((k:Int)+1)=(k:Int)+1:=by
               have:=dL.o;unfold wrap64;omega
              have uq:=zHi fW;clear fW;have qO:∀W,MarkAt W (w.heap.size+1) fl->Calls Tryz.prog 148 #[.pointer (some ⟨w.heap.size+1,0,none⟩),.agg #[.int .i64 own.num,.int .i64 own.den],.agg #[.int .i64 q.num,.int .i64 q.den]] W (zdN W (w.heap.size+1) fl (own*q)):=fun W h=>zg2 (w.heap.size+1) fl W h own q eC dq
              have ly:=zHi qO;have qC:(k:Int)<(EF.1.length:Int):=MbC;have Cp:(0:Int)<=(k:Int):=MbC;have Cs:(k:Int)<=(en:Int):=MbC;have hOn:O≠wr.heap.size:=MbC;have sY:out.length<=90000:=by have:=eb.o;have:=dL.o;omega
              have nT:w.heap.size+1≠wr.heap.size:=MbC;clear hc aw qs eD ja qO C6 sw
              go_wp2_with (go_at_call 148
                           go_must(refine(ly.o _ (wY.o.alloc _)).mono ?_)
                           rintro e wq ⟨rfl,m1,m2⟩;have jU:=m2.size;have y0:wq.heap[wr.heap.size]?=some (.cells #[.string pn,.int .i64 q.num,.int .i64 q.den] 59):=(m2.block _ MbF MbH).trans (za3 _ _ _ rfl);have y1:wq.cell? ⟨wr.heap.size,0,none⟩=some (.string pn):=(by simp only[World.cell?,y0];rfl)
                           have y3:wr.heap.size<wq.heap.size:=zad y0;obtain⟨M1,M2⟩:=yH2 m1 m2;clear m1 m2 y0
                           simp only[za9])
              have pH:OwnS wq WR.heap.size 59 3 zaa (.slice A3 out.length c3) out:=OwnS.grown (W:=wr.alloc _) (ed.o.keep (n:=wr.heap.size) (zau (Below.refl _ _) _)) M2.o (.inr fun e=>by have:=(ed.o.ge _ e).1;omega);have ib:zbe wq WR.heap.size g.place g.cls frm g.fin (.slice A3 out.length c3) (.slice A2 (g.died.length+[fr].length) c2):=(M2.o.block _ MbH MbH).trans (zal lN.o);have jg:wq.cell? ⟨WR.heap.size,4,none⟩=some (.slice A3 out.length c3):=by unfold zbe at ib;simp only[World.cell?,ib];rfl
              have br:WR.heap.size<wq.heap.size:=zad ib;obtain⟨OQ,TQ⟩:=yH2 pH ib;have iI:zaD (zab out pn):=HD.o.share Rat.le_refl pn;generalize cy:zaQ (own*q)=gt at*;generalize hsv2:zab out pn=sv at*;obtain⟨oH,pf,cD⟩:=yH3 cy hsv2 iI;have Dg:wr.heap.size≠wq.heap.size:=MbC;have zk:WR.heap.size≠wq.heap.size:=MbC;clear pH ib iI cy hsv2 i0 i1 i2 o0 o1;go_region_held3 (fun w'=>w'.cell? ⟨wr.heap.size,0,none⟩=some (.string pn)/\w'.cell? ⟨wq.heap.size,0,none⟩=some (.int .i64 gt.num)/\w'.cell? ⟨wq.heap.size,1,none⟩=some (.int .i64 gt.den))
               ((refine⟨?_,?_,?_⟩<;>first|assumption|(simp[go_sem,y1,y3];done)))
               (first
                 |(go_at_call 146
                   go_loud(refine(zd6 out A3 c3 WR.heap.size pn _ ?q1 ?q2 MbC HD.o.good.asc (Sl.keep (OQ.o.sl' za0) (n:=wq.heap.size) Bw)).mono ?_)
                   case q1=>simp[go_sem,jg,br]
                   case q2=>simp;omega
                   rintro e w5 ⟨rfl,zs,rfl⟩;rw[pf.o]
                   simp only[za9])
                 |(go_at_call 73
                   go_loud(refine(zg3 (w.heap.size+1) (fl||bigQ (own*q)) _ ?q3 sv gt cD.o tM.o).mono ?_)
                   case q3=>(repeat(first|exact M1.o|refine MarkAt.ext ?_ _|refine MarkAt.drew ?_|refine MarkAt.alloc ?_ _))
                   rintro e w6 ⟨rfl,n1,n2⟩;have p3:w6.cell? ⟨wr.heap.size,0,none⟩=some (.string pn):=Mch;have p0:w6.cell? ⟨wq.heap.size,0,none⟩=some (.int .i64 gt.num):=MbS;have p1:w6.cell? ⟨wq.heap.size,1,none⟩=some (.int .i64 gt.den):=MbS;obtain⟨N1,N2⟩:=yH2 n1 n2;clear n1 n2
                   simp only[za9])
                 |(go_at_call 145
                   go_loud(refine(zha WR.heap.size WR.heap.size out (.slice A3 out.length c3) g.place g.cls frm g.fin (.slice A2 (g.died.length+[fr].length) c2) pn (zaQ (sv+gt)) _ ?q4 (Nat.le_refl _) ?q5 HD.o.good.asc sY).mono ?_)
                   case q4=>exact(N2.o.block _ MbM MbH).trans Mcb
                   case q5=>exact OwnS.grown (OQ.o.keep (n:=wq.heap.size) Bw) N2.o (.inr fun e=>by have:=(OQ.o.ge _ e).1;omega)
                   rintro e wz ⟨rfl,v',t1,t2,t3,t4⟩;have s3:wz.cell? ⟨wr.heap.size,0,none⟩=some (.string pn):=(World.cell?_of_block (w:=w6) (t4 wr.heap.size MbR MbC (fun e=>by have:=(ed.o.ge _ e).2;omega))).trans p3;have s0:wz.cell? ⟨wq.heap.size,0,none⟩=some (.int .i64 gt.num):=(World.cell?_of_block (w:=w6) (t4 wq.heap.size MbR MbC (fun e=>by have:=(ed.o.ge _ e).2;omega))).trans p0;have s1:wz.cell? ⟨wq.heap.size,1,none⟩=some (.int .i64 gt.den):=(World.cell?_of_block (w:=w6) (t4 wq.heap.size MbR MbC (fun e=>by have:=(ed.o.ge _ e).2;omega))).trans p1;obtain⟨T1,T2,T3,T4⟩:=yH4 t1 t2 t3 t4
                   clear t1 t2 t3 t4))
              have tK:Hid (zeg own (pn,q) (out,fl)=(setP out pn (zaQ (sv+gt)),fl||bigQ (own*q)||bigQ (sv+gt))):=by
               show _=_;unfold zeg;simp only[oH.o,pf.o]
              have cY:MarkAt wz (w.heap.size+1) (fl||bigQ (own*q)||bigQ (sv+gt)):=N1.o.keep T3.o MbC;have ey:=zhe (n:=pn) (q:=zaQ (sv+gt)) (l:=out);have h6:wr.grownBy w6 (some (w.heap.size+1)):=zbb (zis (zau (Below.refl wr.heap.size wr) _) (Nat.le_refl _) M2.o) (zis (n:=wq.heap.size) (W:=((wq.alloc (zba gt)).drew).ext zs) Bw (Nat.le_refl _) N2.o);have dV:=h6.size;have ze:w6.heap[WR.heap.size]?=some (.cells #[.string g.place,.int .i64 g.cls,.int .i64 frm,.int .i64 g.fin,.slice A3 out.length c3,.slice A2 (g.died.length+[fr].length) c2] 114):=(h6.block _ rQ MbH).trans lN.o;have yS:OwnS w6 WR.heap.size 59 3 zaa (.slice A3 out.length c3) out:=ed.o.grown h6 (.inr fun e=>by have:=(ed.o.ge _ e).1;omega);have yj:=l7.o.grown h6 (.inr fun e=>by have:=(l7.o.ge _ e).1;omega);have vw:w6.heap[O]?=some (zba own):=(h6.block O uO MbH).trans tJ.o;have aC:∀(j:Nat) (cur:Array Value) (t:TypeId) (f:Nat×Nat),w6.heap[j]?=some (.cells cur t f)->t≠114->t≠59->wz.heap[j]?=w6.heap[j]?:=fun j cur t f hj n1 n2=>
               T4.o j (zad hj) (fun e=>by rw[e,ze]at hj;simp only[Option.some.injEq,Obj.cells.injEq]at hj;exact n1 hj.2.1.symm) (ziT yS hj n2)
              have ym:=yj.same (W':=wz) (fun j cur _ hj=>aC j cur _ _ hj MbD MbD);have vD:wz.heap[O]?=some (zba own):=(aC _ _ _ _ vw MbD MbD).trans vw;have mD:WR.grownBy wz (some (w.heap.size+1)):=zmF (zbb wP.o h6) T3.o (Nat.le_refl _);obtain⟨kf,dY,ou,oC,oI⟩:=yH5 cY ey ym vD mD;clear cY ey h6 ze yS yj vw aC ym vD mD p3 p0 p1 s3 s0 s1 y1;go_wp2_with fail
              go_round
              case rel=>
               have hel:=dL.o;have iA:=lw.o;have kA:=tK.o.symm.trans bU.o.symm;have kG:(setP out pn (zaQ (sv+gt))).length<=g.holders.length+1+(k+1):=by have:=dY.o;have:=eb.o;omega
               exact⟨k+1,v',setP out pn (zaQ (sv+gt)),_,lw.o,by rw[uq.o];rfl,kA,kG,kf.o,T1.o,T2.o,ou.o,oI.o,oC.o⟩
              case measure=>rw[uq.o];have:=lw.o;simp only[intOf];omega
             ·have ao:¬(k:Int)<(EF.1.length:Int):=MbC;have jf:(out,fl)=zcP fr EF.1 g nx.2:=by
               rw[jt.o,List.take_of_length_le MbC];unfold zcP;rw[<-eO.o]
              have sg:=zHi jf;clear jf jt cB;go_wp2_with fail
              go_meet
              exact⟨_,out,fl,sg.o,wY.o,lN.o,ed.o,l7.o,wP.o⟩
           case rest=>
            obtain⟨v9,out,fl,sg,hm,bi,ct,jB,dH⟩:=hcut;obtain⟨W4,rfl⟩:∃x,x=wc:=⟨_,rfl⟩
            obtain⟨A3,c3,rfl,_,il⟩:=ct.sl za0;have qg:(g.died++[fr]).length<=c2:=by
             obtain⟨A',c',e',_,h'⟩:=jB.sl zbG;exact May
            have hg4:=dH.size;have fJ:=bi;unfold zbe at fJ;obtain⟨m0,m1,m2,m3,m4,m5⟩:=cF6 fJ;obtain⟨E,hE⟩:∃E:Tm,E=(⟨g.place,g.cls,g.fin,out,g.died++[fr]⟩,frm,(A3,c3),(A2,c2)):=⟨_,rfl⟩
            have xE:(tmC E).toArray= #[.string g.place,.int .i64 g.cls,.int .i64 frm,.int .i64 g.fin,.slice A3 out.length c3,.slice A2 (g.died.length+[fr].length) c2]:=by rw[hE];simp[tmC]
            have xP:=HN.o.grown dH (.inr fun e=>by have:=(HN.o.ge _ e).1;omega);have vv:es.length<=1000:=by have:=du.o;omega
            obtain⟨u7,zF,wL,wZ,ub,oo,wN,zE⟩:=yH8 xP xE hE hm ct jB dH qg;clear xP xE hE hm bi ct jB dH fJ cB nr ou oC tZ oI dK T1 T2 ei g8 fN d9 d3 q5 jl us oh lE qg;go_upto_region 28 with fail
            go_wp2_with (at_builtin
                         go_loud(refine zaG (v:=.slice NA es.length nc) (n:=es.length) (m:=1) rfl _ _ rfl elTm zlN tm_one rfl (xs:=es) (ys:=[E]) (u7.o.keep (n:=W4.heap.size) Bw) rfl rfl rfl (sl_tm (by rw[zF.o];exact za3 _ _ _ MbF)) MbO MbC MbH ?_)
                         intro v5 w5 h1 h2 h3;obtain⟨H1,H2⟩:=yH2 h1 h2
                         clear h1 h2 h3)
            have fW:wrap64 ((j:Int)+1)=(j:Int)+1:=by
             unfold wrap64;omega
            obtain⟨uq,aq⟩:=yH2 fW aa;clear fW;go_wp2_with fail
            go_round
            case rel=>
             have vZ:=H2.o.size;simp only[World.size_alloc]at vZ;have Bv:=u7.o;have yM:=HM.o;unfold MarkAt at yM;have Cq:∀(k:Nat) (cur:Array Value) (t:TypeId) (f:Nat×Nat),WR.heap[k]?=some (.cells cur t f)->t≠143->W4.heap[k]?=WR.heap[k]?:=fun k cur t f hk n1=>
              wN.o.block k (zad hk) (fun e=>by
               simp only[Option.some.injEq]at e;rw[e,yM]at hk;simp only[Option.some.injEq,Obj.cells.injEq]at hk
               exact n1 hk.2.1.symm)
             have sV:∀(k:Nat) (cur:Array Value) (t:TypeId) (f:Nat×Nat),W4.heap[k]?=some (.cells cur t f)->t≠114->w5.heap[k]?=W4.heap[k]?:=fun k cur t f hk n1=>by
              have hl:=zad hk;have a1:=H2.o.block k MbH (fun e=>ziT Bv hk n1 e.symm);exact a1.trans (Below.heap_alloc _ _ _ hl)
             have dR:∀(k:Nat) (cur:Array Value) (t:TypeId) (f:Nat×Nat),WR.heap[k]?=some (.cells cur t f)->t≠143->t≠114->w5.heap[k]?=WR.heap[k]?:=fun k cur t f hk n1 n2=>by
              have a1:=Cq k cur t f hk n1;exact(sV k cur t f (a1.trans hk) n2).trans a1
             have vg:Below w.heap.size w w5:=Below.grown (a:=w) (B:=w.heap.size) (zau (zaF HF.o wN.o MbC) _ MbC) H2.o MbH (fun k hk=>by have:=(u7.o.ge k hk).1;omega);refine⟨j+1,es++[E],aq.o,by go_num,H1.o,?_,?_,?_,vg,?_,?_,?_,by omega⟩
             ·show _=_;rw[ef.o,<-sg.o,List.map_append,jY.o,wL.o];rfl
             ·show∀e∈es++[E],TmOk w5 w.heap.size e;intro e he;rcases List.mem_append.1 he with he|he
              ·refine(g7.o e he).same fun k cur t f hk ht=>dR k cur t f hk ?_ ?_
               ·rcases ht with rfl|rfl<;>decide
               ·rcases ht with rfl|rfl<;>decide
              ·rw[List.mem_singleton.1 he,wL.o];refine⟨ub.o.ro'.same fun k cur f hk _=>sV k cur _ f hk MbD,il,oo.o.ro'.same fun k cur f hk _=>sV k cur _ f hk MbD,zE.o,fun a ha=>?_⟩;have ha:A2=some a:=ha;have:=(oo.o.ge a.block (by rw[ha];rfl)).1;omega
             ·rw[ef.o,<-sg.o];exact(sV _ _ _ _ wZ.o MbD).trans wZ.o
             ·exact(dR _ _ _ _ oq.o MbD MbD).trans oq.o
             ·exact bV.o.same fun k cur _ hk=>dR k cur _ _ hk MbD MbD
             ·exact ow.o.same fun k cur _ hk=>dR k cur _ _ hk MbD MbD
            case measure=>have:=aq.o;simp only[intOf];omega
        ·have ao:¬(j:Int)<(HL.length:Int):=MbC;have dQ:aw.take j=aw:=List.take_of_length_le MbC;have my:es.length=HL.length:=MbC;rw[dQ]at jY HM;have zH:=zHi my;clear dQ my mz ae hm hF hD hO hE gw;go_wp2_with fail
         go_meet
         exact⟨NA,nc,es,by rw[zH.o],HN.o,jY.o,g7.o,HM.o,HF.o,oq.o,bV.o⟩
      case rest=>
       obtain⟨NA,nn,es,rfl,eB,jC,cr,hm,hF,hD,hO⟩:=hcut;obtain⟨W6,rfl⟩:∃x,x=wc:=⟨_,rfl⟩
       have rv:=zeN fr dy EF.1 s.graves [] EF.2;have aA:W6.cell? ⟨w.heap.size+1,0,none⟩=some (.bool (zc0 fr EF.1 aw EF.2).2):=(zb7 hm).1;have CH:=zad hm;have qj:es.length=HL.length:=by
        have h1:=congrArg List.length jC;rw[List.length_map,ziP]at h1;have:=oA.o;omega
       have ig:s.graves.any (zcj fr dy)=true:=by
        cases hc:s.graves.any (zcj fr dy)
        ·have h1:=fj.o;rw[List.filter_eq_nil_iff.2 (fun x hx=>by have:=List.any_eq_false.1 hc x hx;simpa using this)]at h1;have:=oA.o;rw[<-h1]at this;exact absurd this HZ.o
        ·rfl
       rw[List.nil_append,List.nil_append,List.length_nil,fj.o]at rv;have hX:=HX.o;rw[ig,<-rv.1,<-rv.2,<-jC]at hX;simp only[Bool.false_eq_true,if_false,if_true]at hX;have se:=zHi hX;generalize(zc0 fr EF.1 aw EF.2).2=fl at*;obtain⟨jY,du,g7,li,zD,xe,xa,oN⟩:=yH8 jC qj cr hF hD hO eB (fun j hj=>oM.o w (Below.refl _ _) j hj);have oG:Hid ((s.graves.filter (zcj fr dy)).length=HL.length):=by show _=_;rw[fj.o,oA.o]
       clear rv ig hX jC cr hm hF hD hO eB qj HX oM gT HM aM HO HD oU ov jm rV oy lq l8 dL HE rY fj;cases fl
       ·have mh:=se.o;simp only[Bool.false_eq_true,if_false]at mh;have sf:=zHi mh;clear mh se;have dV:=li.o.size;have tI:∃HI,HI=zaO fr dy 0 s.graves:=⟨_,rfl⟩
        obtain⟨HI,uG⟩:=tI;rw[<-uG]at sf oN;have kB:HI.length=HL.length:=by
         rw[uG,ze2,oG.o]
        have fF:HL.length<=nn:=by
         obtain⟨A',c',e',_,h'⟩:=xa.o.sl zlN;simp only[Value.slice.injEq]at e';have:=du.o;omega
        have sP:HL.length<=hn:=by
         obtain⟨A',c',e',_,h'⟩:=xe.o.sl zc4;exact May
        obtain⟨wQ,Ai,zQ⟩:=yH3 kB fF sP;clear uG kB fF sP oG;go_wp2_with fail
        go_loopw [129] (fun i wr=>∃j:Nat,j<=HL.length/\i=.int .i64 j/\Hid (WldC wr b dd cc pp wl rr mv (.slice TA ps.length tc) la co)/\Hid (PplAt base wr Bk dd cc pp wl rr mv s)/\Hid (TombsAt base wr Bk (.slice TA ps.length tc) ps (zcQ s.graves (HI.take j) ((es.map (·.1)).take j)))/\Hid (Below base w wr)/\wr.heap[w.heap.size]?=some (.cells #[.int .i64 kd,.int .i64 dy,.string pl,.string fr,.slice B ts.length c,.int .i64 cl,.int .i64 yr] 28)/\Hid (KeepD w wr)/\OwnS wr (w.heap.size+1+1) 112 1 ptrC (.slice HA HL.length hn) HL/\OwnS wr (w.heap.size+1+1) 114 6 tmC (.slice NA HL.length nn) es/\Hid (∀e∈es,TmOk wr w.heap.size e)/\w.heap.size<=wr.heap.size) (fun i _=>HL.length-(intOf i).toNat)
        case atStart=>exact⟨0,Nat.zero_le _,rfl,HC.o.keep li.o,HP.o.keep li.o,HT.o.keep li.o,li.o.mono MbC,zD.o,KeepD.below li.o,xe.o,by rw[<-du.o]at*;exact xa.o,g7.o,dV⟩
        case round=>
         obtain⟨j,hj,rfl,wG,kh,iP,cu,uy,oO,sE,pE,oV,dW⟩:=hrel;obtain⟨tH,Ak,xb⟩:=yH3 uy sE pE;by_cases aa:j<HL.length
         ·have jL:j<es.length:=by have:=du.o;omega
          obtain⟨i,g,hi,dS,bJ,_,dP⟩:=oN.o j aa;have yb:HL[j]<w.heap.size:=by obtain⟨_,_,_,_,_,t1,_⟩:=dP;exact zad t1
          obtain⟨bE,gA,uI,mq,pA⟩:=(sE.sl' zc4).at aa;subst uI;have i0:wr.cell? ⟨bE,gA+j,none⟩=some (.pointer (some ⟨HL[j],0,none⟩)):=by have:=pA 0 _ rfl;simpa using this
          obtain⟨nb,noff,Bu,nU,lX⟩:=(pE.sl' zlN).at jL;subst Bu;have cr:=oV.o es[j] (List.getElem_mem jL);have fT:i<(zcQ s.graves (HI.take j) ((es.map (·.1)).take j)).length:=by rw[ziq];exact(List.getElem?_eq_some_iff.1 bJ).1
          obtain⟨H,ar,D,dc,frm,t1,t2,_⟩:=iP.o.all i _ _ dS (List.getElem?_eq_getElem fT);have bA:zcQ s.graves (HI.take (j+1)) ((es.map (·.1)).take (j+1))=(zcQ s.graves (HI.take j) ((es.map (·.1)).take j)).set i es[j].1:=by
           have yC:j<HI.length:=by have:=wQ.o;omega
           have Co:j<(es.map (·.1)).length:=by rw[List.length_map];exact jL
           have Bg:HI[j]=i:=by
            rw[List.getElem?_eq_getElem yC]at hi;exact Option.some.inj hi
           rw[List.take_succ_eq_append_getElem yC,List.take_succ_eq_append_getElem Co,List.getElem_map,Bg];exact zh0 _ _ _ _ _ (by rw[List.length_take,List.length_take];omega)
          obtain⟨ef,lB,gY⟩:=yH3 bA dS cr;generalize HL[j]=T at*;generalize hE:es[j]=E at*;obtain⟨⟨gp,gc,gf,gh,gd⟩,efr,⟨EH,ehc⟩,⟨ED,edc⟩⟩:=E;have n0:wr.cell? ⟨nb,noff+j*6,none⟩=some (.string gp):=lX 0 _ rfl;have n1:wr.cell? ⟨nb,noff+j*6+1,none⟩=some (.int .i64 gc):=lX 1 _ rfl;have n2:wr.cell? ⟨nb,noff+j*6+2,none⟩=some (.int .i64 efr):=lX 2 _ rfl;have n3:wr.cell? ⟨nb,noff+j*6+3,none⟩=some (.int .i64 gf):=lX 3 _ rfl;have n4:wr.cell? ⟨nb,noff+j*6+4,none⟩=some (.slice EH gh.length ehc):=lX 4 _ rfl;have n5:wr.cell? ⟨nb,noff+j*6+5,none⟩=some (.slice ED gd.length edc):=lX 5 _ rfl;have bD:=zad t1;have cv:=zHi t1;unfold zbe at t1;generalize be:(zcQ s.graves (HI.take j) ((es.map (·.1)).take j))[i]=gg at*;obtain⟨z0,z1,z2,z3,z4,z5⟩:=cF6 t1;have fz:∀j,wr.frozen? ⟨T,j,none⟩=false:=fun j=>by simp only[World.frozen?,t1];rfl
          have ao:(j:Int)<(HL.length:Int):=MbC;have bf:(0:Int)<=(j:Int):=MbC;have hkh:(j:Int)<=(hn:Int):=by have:=zQ.o;omega
          have ix:(j:Int)<=(nn:Int):=by have:=Ai.o;omega
          have hnT:nb≠T:=by
           have:=(pE.ge nb rfl).1;omega
          obtain⟨aq,lM⟩:=yH2 aa yb;clear be hE bA dS cr pA lX hi bJ dP t1 uy sE pE fT jL;go_wp2_with fail
          go_round
          case rel=>
           have hg:=zbD wr T (.string gp) (.int .i64 gc) (.int .i64 efr) (.int .i64 gf) (.slice EH gh.length ehc) (.slice ED gd.length edc);have BG:=zho (show wr.heap[T]?=some (.cells #[.string gg.place,.int .i64 gg.cls,.int .i64 frm,.int .i64 gg.fin,.slice H gg.holders.length ar,.slice D gg.died.length dc] 114) from cv.o) (.string gp) (.int .i64 gc) (.int .i64 efr) (.int .i64 gf) (.slice EH gh.length ehc) (.slice ED gd.length edc);have yb:=lM.o;have sW:∀(k:Nat) (cur:Array Value) (t:TypeId) (f:Nat×Nat),wr.heap[k]?=some (.cells cur t f)->t=59\/t=9->((((((wr.setCell ⟨T,0,none⟩ (.string gp)).setCell ⟨T,1,none⟩ (.int .i64 gc)).setCell ⟨T,2,none⟩ (.int .i64 efr)).setCell ⟨T,3,none⟩ (.int .i64 gf)).setCell ⟨T,4,none⟩ (.slice EH gh.length ehc)).setCell ⟨T,5,none⟩ (.slice ED gd.length edc)).heap[k]?=wr.heap[k]?:=fun k cur t f hk ht=>
            hg.block k (zad hk) (fun e=>by
             simp only[Option.some.injEq]at e;rw[e,show wr.heap[T]?=_ from cv.o]at hk;simp only[Option.some.injEq,Obj.cells.injEq]at hk;rw[<-hk.2.1]at ht;revert ht
             decide)
           have hN:TombAt ((((((wr.setCell ⟨T,0,none⟩ (.string gp)).setCell ⟨T,1,none⟩ (.int .i64 gc)).setCell ⟨T,2,none⟩ (.int .i64 efr)).setCell ⟨T,3,none⟩ (.int .i64 gf)).setCell ⟨T,4,none⟩ (.slice EH gh.length ehc)).setCell ⟨T,5,none⟩ (.slice ED gd.length edc)) base Bk T ⟨gp,gc,gf,gh,gd⟩:=
            ⟨EH,ehc,ED,edc,efr,BG,t2,gY.o.hc,gY.o.dc,gY.o.hs.kept hg cv.o MbD,gY.o.ds.kept hg cv.o MbD,fun _ a ha hb=>by
              have h1:=gY.o.ge a ha;have h2:=ppl_rows HP.o _ hb
              omega⟩
           refine⟨j+1,aq.o,by go_num,wldC_tomb wG.o cv.o hg,kh.o.kept hg cv.o MbD MbD MbD,?_,zaF cu.o hg t2 MbC,(hg.block _ (zad tH.o) MbH).trans tH.o,oO.o.trans (KeepD.cells hg cv.o MbD),Ak.o.kept hg cv.o MbD,xb.o.grown hg (.inr fun e=>by have:=(xb.o.ge _ e).1;omega),fun e he=>(oV.o e he).same sW,Nat.le_trans dW hg.size⟩;show TombsAt _ _ _ _ _ _;rw[ef.o];exact zkT iP.o lB.o cv.o hg hN
          case measure=>have:=aq.o;simp only[intOf];omega
         ·have ao:¬(j:Int)<(HL.length:Int):=MbC;have h1:HI.take j=HI:=List.take_of_length_le (by have:=wQ.o;omega);have h2:(es.map (·.1)).take j=es.map (·.1):=List.take_of_length_le (by have:=du.o;rw[List.length_map];omega);rw[h1,h2]at iP;clear h1 h2 uy sE pE;go_wp2_with fail
          go_meet
          exact⟨_,sf.o,⟨Bk,dd,cc,pp,wl,rr,mv,_,ps,ax,wG.o,⟨kh.o.nd,kh.o.ge,kh.o.dead,kh.o.rows,kh.o.marr,kh.o.wills,kh.o.ren⟩,iP.o⟩,cu.o,tH.o,oO.o⟩
       ·have mh:=se.o;simp only[if_true]at mh;have sf:=zHi mh;clear mh se;go_wp2_with fail
        go_ret
        exact zb0 HW.o li.o sf.o
   case rest=>
    obtain⟨gs,aK,BO,fo,su,Bm⟩:=hcut;have zY:=zHi Bm;obtain⟨W9,rfl⟩:∃x,x=wc:=⟨_,rfl⟩
    obtain⟨Bk',d',c',p',wl',r',mv',tv',ps',cg,bm,dF,dh⟩:=BO;have mq:=zad bm;have aZ:=zad su;obtain⟨zA,uc,xl,gU⟩:=yH4 bm dF dh fo;unfold WldC at bm;obtain z0:=cF1 bm;obtain⟨-,-,-,z3⟩:=cF4 su;obtain⟨es,ec,hx⟩:=zbd dF.dead;have jt:=zHi hx;have mx:=dF.dead.at.lt;have dl:b≠d':=fun e=>by subst e;rw[bm]at hx;simp at hx
    have wo:w.heap.size≠d':=fun e=>by rw[<-e,su]at hx;simp at hx
    clear bm dF dh fo su hx;go_upto_region 37 with fail
    refine wp_region_held_drew (S:=(fun w'=>w'.cell? ⟨b,0,none⟩=some (.map (some d'))/\w'.cell? ⟨w.heap.size,3,none⟩=some (.string fr))) MbE ?hS ?hrest
    case hS=>exact⟨z0,z3⟩
    case hrest=>
     intro hHeld;refine TkH 0 ?_;refine TkH 1 ?_;refine TkH 2 ?_;refine TkH 3 ?_;refine TkH 4 ?_;refine TkH 5 ?_;refine TkH 6 ?_;refine OnH 7 fun K hK=>?_
     obtain⟨w6,ai,eW,aP,dV⟩:=zbY (w:=W9.drew) zml (uc.o.dead.keep (w':=W9.drew) rfl) fr true;refine zc6 rfl _ _ _ rfl _ _ _ rfl rfl rfl w6 ai ?_;have jE:W9.grownBy w6 (some d'):=⟨aP.os,aP.tape,aP.output,aP.size,aP.block⟩
     have p6:w6.cell? ⟨b,0,none⟩=some (.map (some d')):=(zaN jE mq dl).trans z0;have q6:w6.cell? ⟨w.heap.size,3,none⟩=some (.string fr):=(zaN jE aZ wo).trans z3;obtain⟨oQ,fO⟩:=yH2 eW jE;clear eW aP jE ai;refine hK.out _ _ ?_ (fun hHeld=>?_);focus((try dsimp only);refine⟨?_,?_⟩<;>assumption)
     clear hK K;try simp only[Act.put,List.setIfInBounds_toArray,List.set_cons_zero,List.set_cons_succ]
     refine wpAnyH_done MbE ?_ _;go_wp2_with fail
     go_ret
     rw[aK.o];have bI:=uc.o.ge;have nT:mput eqS fr true (s.dead.map fun n=>(n,true))=(s.dead++[fr]).map fun n=>(n,true):=by
      have hz:=zhs (eq:=eqS) (k:=fr) (l:=s.dead) (by rw[zgx];exact hdx);rw[ziH hz];simp
     have mG:MapS w6 d' ekS evB ((s.dead++[fr]).map fun n=>(n,true)):=by
      rw[<-nT];exact oQ.o
     exact⟨rfl,zkJ cg zA.o xl.o fO.o jt.o rfl (ppl_dead uc.o fO.o mG),zaF gU.o fO.o bI.1 (by have:=HW.o.lt;omega),zY.o.trans (KeepD.map fO.o jt.o)⟩
 ·go_quiet (fail)
  go_wp2_with fail
  go_ret
  exact zb0 HW.o Bw HX.o

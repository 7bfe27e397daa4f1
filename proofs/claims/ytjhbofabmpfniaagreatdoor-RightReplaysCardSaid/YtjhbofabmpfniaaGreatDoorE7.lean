/- Walk of chapter 5's death. -/
import Derived.Test.YtjhbofabmpfniaaGreatDoorEA
set_option linter.unusedSimpArgs false
set_option linter.unusedVariables false
set_option maxRecDepth 100000
set_option maxHeartbeats 4000000
namespace Go.Proofs.YtjhbofabmpfniaaGreatDoor
open Go.RowKit Go.Shelf
attribute [local go_sem] World.cell?_alloc_mark zae za3 zam za6 zas zat zau zav zaw zax zay
attribute [local go_sem] zaj zac
theorem B_drop {w W:World} (h:Below w.drew.heap.size w.drew W):Below w.heap.size w W:=⟨h.os,h.tape,h.output,h.size,h.block⟩
theorem death_any (base b:Nat) (s:St) (la co last:Int) (laws:List Law) (LA:Option Addr) (lc:Nat) (d:Deed) (B:Option Addr) (c:Nat) (w:World) (hW:WldAt base w b s la co) (jm:GoodSt s last) (hl:last<=d.day) (hk:d.kind=8) (dm:za9 16 (zaY laws d.day).num (zaY laws d.day).den=true) (fg:laws.length<=10) (eH:Sl w 4 Law.cells LA laws)
 (kV:s.graves.length<=1000) (bR:s.children.length<=1000) (fh:s.marriages.length<=1000) (bS:(zbs s d.frm).length<=1000) (cz: ∀g∈s.graves,g.holders.length<=70000/\g.died.length<=1000):
 Calls Tryz.prog 142 #[.pointer (some ⟨b,0,none⟩), .slice LA laws.length lc,d.v B c] w (zbF base b (zdL laws s d) la co w):=by
 have hq:=deathP_eq jm hl dm;have EW:=estate_bd (s:=s) (law:=zaY laws d.day) (jm.wills d.frm) dm;have ao:=hW;obtain⟨Bk,dd,cc,pp,wl,rr,mv,tv,ps,aY,hC,hP,hT⟩:=hW;have cW:=zab hC;obtain⟨kd,dy,pl,fr,ts,cl,yr⟩:=d;simp only at*;clear hk;have HX:Hid (zdL laws s ⟨kd,dy,pl,fr,ts,cl,yr⟩=_):=hq;generalize zdL laws s ⟨kd,dy,pl,fr,ts,cl,yr⟩=X at*;obtain⟨TA,tc,rfl,_,u4⟩:=hT.own.sl zda;have Ft:=hT.own;have uR:=zHi hT.len;have HC:=zHi hC;have HP:=zHi hP;have HT:=zHi hT;have HW:=zHi ao;have dE:=zHi jm;have qv:=zHi cz;have cE:=zHi eH;have ql:=zHi EW;unfold WldC at hC;obtain⟨c0,-,-,-,-,-,c6⟩:=cF7 hC;have ie:=zHi (fun W (hB:Below w.heap.size w W)=>zdb (HP.o.keep hB) fr);have aT: ∀q',_:=fun q'=>ie.o ((w.alloc (.cells #[.int .i64 kd, .int .i64 dy, .string pl, .string fr, .slice B ts.length c, .int .i64 cl, .int .i64 yr] 52)).drewN q') (zd5 Bw _)
 generalize rU:zaK s fr=dx at*;clear hC hP hT ao jm cz eH hq EW;unfold Deed.v;simp only;go_enter Tryz.func142,Tryz.ntmps142
 go_upto_region 1 with fail
 cases dx
 ·go_quiet (fail)
  go_upto_block 0 with fail
  have bB:Below w.heap.size w (((w.alloc (.cells #[.int .i64 kd, .int .i64 dy, .string pl, .string fr, .slice B ts.length c, .int .i64 cl, .int .i64 yr] 52)).drewN nq).alloc (.cells #[.bool false] 146)):=zad (zd5 Bw _) _;have D2:(((w.alloc (.cells #[.int .i64 kd, .int .i64 dy, .string pl, .string fr, .slice B ts.length c, .int .i64 cl, .int .i64 yr] 52)).drewN nq).alloc (.cells #[.bool false] 146)).heap[w.heap.size]?=some (.cells #[.int .i64 kd, .int .i64 dy, .string pl, .string fr, .slice B ts.length c, .int .i64 cl, .int .i64 yr] 52):=zal (zar _ _ _ rfl);have M2:MarkAt (((w.alloc (.cells #[.int .i64 kd, .int .i64 dy, .string pl, .string fr, .slice B ts.length c, .int .i64 cl, .int .i64 yr] 52)).drewN nq).alloc (.cells #[.bool false] 146)) (w.heap.size+1) false:=zar _ _ _ (by simp[World.drewN]);have s2:(((w.alloc (.cells #[.int .i64 kd, .int .i64 dy, .string pl, .string fr, .slice B ts.length c, .int .i64 cl, .int .i64 yr] 52)).drewN nq).alloc (.cells #[.bool false] 146)).heap.size=w.heap.size+1+1:=by simp[World.drewN]
  generalize(((w.alloc (.cells #[.int .i64 kd, .int .i64 dy, .string pl, .string fr, .slice B ts.length c, .int .i64 cl, .int .i64 yr] 52)).drewN nq).alloc (.cells #[.bool false] 146))=W2 at*;have aB:=zHi bB;have jN:=zHi D2;have p9:=zHi M2;have S2:=zHi s2;clear D2 M2 s2 aT;have bp:=bB.size;clear bB;go_cut [8,10,35]from 36 (fun v8 _ _ wc=> ∃A n,v8= .slice A (zbQ fr dy ps s.graves).length n/\OwnS wc W2.heap.size 118 1 ptrC v8 (zbQ fr dy ps s.graves)/\Below W2.heap.size W2 wc)
  case first=>
   go_wp2_with fail
   go_loopw [8,35] (fun v i wr=> ∃(k:Nat),k<=ps.length/\i= .int .i64 k/\OwnS wr W2.heap.size 118 1 ptrC v (zbQ fr dy ps (s.graves.take k))/\Below W2.heap.size W2 wr) (fun _ i _=>ps.length-(intOf i).toNat)
   case atStart=>exact⟨0,Nat.zero_le _,rfl,OwnS.nil,Below.refl _ _⟩
   case round=>
    obtain⟨k,hk,rfl,ae,hB⟩:=hrel;obtain⟨VA,vc,rfl,_,ka⟩:=ae.sl zda;have aZ:Below w.heap.size w wr:=aB.o.trans (hB.mono bp);have hsz:=hB.size;have HO:=zHi ae;have HB:=zHi hB;have e1:wr.cell? ⟨w.heap.size,1,none⟩=some (.int .i64 dy):=(zah hB MdP).trans (by simp only[World.cell?,jN.o];rfl);have e3:wr.cell? ⟨w.heap.size,3,none⟩=some (.string fr):=(zah hB MdP).trans (by simp only[World.cell?,jN.o];rfl);have bu:w.heap.size<wr.heap.size:=MdP;by_cases aa:k<ps.length
    ·have pD:k<s.graves.length:=by have:=uR.o;omega
     have Jw:=(HT.o.keep aZ).all k ps[k] s.graves[k] (List.getElem?_eq_getElem aa) (List.getElem?_eq_getElem pD);have ba:=dE.o.graves s.graves[k] (List.getElem_mem pD);have rY:=qv.o s.graves[k] (List.getElem_mem pD)
     obtain⟨TB,toff,Jv,hTb,Fu⟩:=(show Sl wr 1 ptrC TA ps from by
      obtain⟨A',c',e',h',_⟩:=(Ft.keep aZ).sl zda;simp only[Value.slice.injEq]at e'
      rw[e'.1];exact h').at aa
     subst Jv;have bU:=held_snoc fr dy s.graves pD;have iC:ps.getD k 0=ps[k]:=Mdf;have i0:wr.cell? ⟨TB,toff+k,none⟩=some (.pointer (some ⟨ps[k],0,none⟩)):=by have:=Fu 0 _ rfl;simpa using this
     have FS:zbQ fr dy ps (s.graves.take (k+1))=zbQ fr dy ps (s.graves.take k)++if zc6 fr dy s.graves[k]then[ps[k]]else[]:=by
      unfold zbQ;rw[bU,List.map_append];cases zc6 fr dy s.graves[k]
      ·rfl
      ·show _++[ps.getD k 0]=_;rw[iC];rfl
     generalize ps[k]=T at*;generalize s.graves[k]=g at*;have Gm:zc6 fr dy g=(zaU g dy&&decide (0<(zag g.holders fr).num)):=rfl;obtain⟨H,aV,D,dc,frm,t1,t2,t3,t4,t5,t6,t7⟩:=Jw;have cV:=zab t1;unfold zbt at t1;obtain⟨-,-,-,g3,g4⟩:=cF5 t1;have AS:=zHi (fun W (hW:Below wr.heap.size wr W)=>ziw g H aV T dy W ((zah hW cV).trans g3) ((zah hW cV).trans g4));have jg:=zHi (fun W (hW:Below wr.heap.size wr W)=>zew g.holders H aV T fr W ((zah hW cV).trans g4) (Nat.lt_of_lt_of_le cV hW.size) Mcn ba.good.asc (Ro.sl zao (t5.keep hW)));have AR:=zHi FS;have yY:=zHi Gm;generalize zaU g dy=fi at*;generalize zag g.holders fr=q at*;unfold zaB at jg;have ar:(k:Int)<(ps.length:Int):=Mcn;have aT:(0:Int)<=(k:Int):=Mcn;have fH:(k:Int)<=(tc:Int):=Mcn;have ew:(zbQ fr dy ps (s.graves.take k)).length<=1000:=by
      unfold zbQ;rw[List.length_map,zfF];exact MaS
     generalize zbQ fr dy ps (s.graves.take k)=eA at*;have eE:=zHi ew;clear ba rY bU FS Gm t1 t5 t6 t7 t2 t3 t4 Fu ae hB aZ ew iC g3 g4;have zV:=zoN q.num q.den;cases fi
     ·rw[Bool.false_and]at yY;go_wp2_with (go_at_call 96;refine(AS.o _ Bw).mono ?_;rintro e wq ⟨rfl,z,rfl⟩)
      go_round
      case rel=>exact⟨k+1,by omega,by go_num,by rw[AR.o,yY.o];simpa using HO.o.keep (n:=wr.heap.size) Bw,HB.o.trans ((Bw:Below wr.heap.size wr _).mono hsz)⟩
      case measure=>simp[intOf];omega
     ·by_cases hq:0<q.num
      ·have Bq:Hid (zc6 fr dy g=true):=by show _=_;rw[yY.o];simpa using hq
       go_wp2_with (first
        |(go_at_call 96;refine(AS.o _ Bw).mono ?_;rintro e wq ⟨rfl,z,rfl⟩)
        |(go_at_call 95;refine(jg.o _ Bw).mono ?_;rintro e wq2 ⟨rfl,z2,rfl⟩)
        |(at_builtin;go_loud(refine za1 (v:= .slice VA eA.length vc) (n:=eA.length) (m:=1) rfl _ _ rfl elTomb zda znO rfl (HO.o.keep (n:=wr.heap.size) Bw) rfl rfl rfl (sl_ptr (T:=T) (zar _ _ _ Mdv)) (by have:=eE.o;simp[maxLen];omega) (by have:=eE.o;omega) Mcw ?_);intro v3 w3 h1 h2 h3))
       have ay:Below W2.heap.size W2 w3:=Below.grown (a:=W2) (B:=W2.heap.size) (HB.o.trans ((Bw:Below wr.heap.size wr _).mono hsz)) h2 Mcw (fun j hj=>(HO.o.ge j hj).1);have aH:=zHi ay;have H1:=zHi h1;clear h1 h2 h3 ay;go_wp2_with fail
       go_round
       case rel=>exact⟨k+1,by omega,by go_num,by rw[AR.o,Bq.o];exact H1.o,aH.o⟩
       case measure=>simp[intOf];omega
      ·have Bq:Hid (zc6 fr dy g=false):=by show _=_;rw[yY.o];simpa using hq
       go_wp2_with (first
        |(go_at_call 96;refine(AS.o _ Bw).mono ?_;rintro e wq ⟨rfl,z,rfl⟩)
        |(go_at_call 95;refine(jg.o _ Bw).mono ?_;rintro e wq2 ⟨rfl,z2,rfl⟩))
       go_round
       case rel=>exact⟨k+1,by omega,by go_num,by rw[AR.o,Bq.o];simpa using HO.o.keep (n:=wr.heap.size) Bw,HB.o.trans ((Bw:Below wr.heap.size wr _).mono hsz)⟩
       case measure=>simp[intOf];omega
    ·have ar: ¬(k:Int)<(ps.length:Int):=Mcn;have iZ:zbQ fr dy ps (s.graves.take k)=zbQ fr dy ps s.graves:=by rw[List.take_of_length_le (by have:=uR.o;omega)]
     have gq:=zHi iZ;clear iZ ae hB aZ;go_wp2_with fail
     go_meet
     have hO:=HO.o;rw[gq.o]at hO⊢;exact⟨VA,vc,rfl,hO,HB.o⟩
  case rest=>
   obtain⟨HA,hn,rfl,ae,hB⟩:=hcut;have aZ:Below w.heap.size w wc:=aB.o.trans (hB.mono bp);have hD:wc.heap[w.heap.size]?=some (.cells #[.int .i64 kd, .int .i64 dy, .string pl, .string fr, .slice B ts.length c, .int .i64 cl, .int .i64 yr] 52):=(hB.block _ MdP).trans jN.o;have hM:MarkAt wc (w.heap.size+1) false:=(hB.block _ MdP).trans p9.o;have m9:(zbQ fr dy ps s.graves).length=0->s.graves.any (zc6 fr dy)=false:=fun h=>by
    unfold zbQ at h;rw[List.length_map,zfF]at h;rw[List.any_eq_false];intro g hg hq;have:g∈s.graves.filter (zc6 fr dy):=List.mem_filter.2 ⟨hg,hq⟩;rw[List.eq_nil_of_length_eq_zero h]at this;cases this
   have lj:=zHi m9;have HO:=zHi ae;have aW:=zHi aZ;have HD:=zHi hD;have HM:=zHi hM;clear m9 ae aZ hD hM;go_upto_if 58 with fail
   go_cut [11,12,14,15,16,18,19,20,21,58]from 59 (fun _ _ _ _ _ _ _ _ _ _ W=> ∃gs,Hid (X=({s with graves:=gs,dead:=s.dead++[fr]},0))/\WldAt base W b {s with graves:=gs} la co/\Below base w W/\W.heap[w.heap.size]?=some (.cells #[.int .i64 kd, .int .i64 dy, .string pl, .string fr, .slice B ts.length c, .int .i64 cl, .int .i64 yr] 52)/\KeepD w W)
   case first=>
    by_cases hz:(zbQ fr dy ps s.graves).length=0
    ·have j9: ¬(0:Int)<((zbQ fr dy ps s.graves).length:Int):=Mcn;have hX:=HX.o;rw[lj.o hz]at hX;have av:=zHi hX;clear hz hX;go_wp2_with fail
     go_meet
     refine⟨s.graves,?_,HW.o.keep aW.o,aW.o.mono (by have:=HW.o.lt;omega),HD.o,KeepD.below aW.o⟩;show _=_;rw[av.o];simp
    ·have j9:(0:Int)<((zbQ fr dy ps s.graves).length:Int):=Mcn;have HZ:=zHi hz;have d1:wc.cell? ⟨w.heap.size,1,none⟩=some (.int .i64 dy):=by simp only[World.cell?,HD.o];rfl
     have d3:wc.cell? ⟨w.heap.size,3,none⟩=some (.string fr):=by simp only[World.cell?,HD.o];rfl
     have bu:w.heap.size<wc.heap.size:=zab HD.o;have aE:=aW.o.size;have oZ:=zHi (show∃EF,EF=zcf s (zaY laws dy) fr from⟨_,rfl⟩);obtain⟨EF,kS⟩:=oZ.o;rw[<-kS]at ql HX;have hel:EF.1.length<=3000:=by
      have h1:=ql.o.good;have h2:=ziL (s:=s) (law:=zaY laws dy) (n:=fr) (by rw[<-kS];exact h1);rw[<-kS]at h2;omega
     have eO:=zHi hel;have HE:=zHi kS;clear hz kS oZ hel;go_upto_region 12 with fail
     clear j9;go_cut [11,58]from 59 (fun v11 _ W=> ∃A n,v11= .slice A EF.1.length n/\OwnS W (w.heap.size+1+1) 75 3 zaa v11 EF.1/\MarkAt W (w.heap.size+1) EF.2/\wc.grownBy W (some (w.heap.size+1)))
     case first=>
      refine wp_region_held_drew (S:=(fun w'=>w'.cell? ⟨w.heap.size,1,none⟩=some (.int .i64 dy)/\w'.cell? ⟨w.heap.size,3,none⟩=some (.string fr))) Mco ?hS ?hrest
      case hS=>exact⟨d1,d3⟩
      case hrest=>
       intro hHeld;refine TkH 0 ?_;refine TkH 1 ?_;refine TkH 2 ?_;refine TkH 3 ?_;refine TkH 4 ?_;refine TkH 5 ?_;refine TkH 7 ?_;refine TkH 8 ?_;refine OnH 6 fun K hK=> ?_
       go_simp
       refine(zj0 laws LA lc dy _ fg (cE.o.keep (aW.o.trans ((zaH (Below.refl _ _)).mono aE)))).mono ?_;rintro e w5 ⟨rfl,z,rfl⟩;refine NxM hK (fun hHeld=> ?_) (⟨(za3 _ _ _ _ bu).trans d1,(za3 _ _ _ _ bu).trans d3⟩);clear hK K;refine OnH 9 fun K hK=> ?_
       go_simp
       refine(zjQ base b (w.heap.size+1) s last (zaY laws dy) fr _ ?q1 dE.o ?q2 bR fh bS dm).mono ?_
       case q1=>exact fun W hW=>HW.o.peo.keep (zaS (aW.o.trans ((zb6 (zaH (Below.refl _ _)) z).mono aE)) hW Mcn)
       case q2=>exact HM.o.drew.ext z
       rintro e w6 ⟨v,rfl,n1,n2,n3⟩;rw[<-HE.o]at n1 n2;have n3':wc.grownBy w6 (some (w.heap.size+1)):=⟨n3.os,n3.tape,n3.output,Nat.le_trans Mdv n3.size,fun k hk ai=>(n3.block k Mcw ai).trans (zcI _ _ _ hk)⟩
       have N1:=zHi n1;have N2:=zHi n2;have N3:=zHi n3';clear n1 n2 n3 n3';refine NxM hK (fun hHeld=> ?_) (⟨(zbb N3.o bu Mcn).trans d1,(zbb N3.o bu Mcn).trans d3⟩);clear hK K;refine OnH 10 fun K hK=> ?_
       go_simp
       refine NxM hK (fun hHeld=> ?_) (⟨(zbb N3.o bu Mcn).trans d1,(zbb N3.o bu Mcn).trans d3⟩);clear hK K;refine wpAnyH_done Mco ?_ _;go_wp2_with fail
       go_meet
       obtain⟨A9,n9,rfl,_,_⟩:=N1.o.sl zao;exact⟨A9,n9,rfl,OwnS.base_le N1.o (by have:=S2.o;have:=hB.size;simp[zae];omega),N2.o,N3.o⟩
     case rest=>
      obtain⟨EA,en,rfl,n1,n2,n3⟩:=hcut;have og:Below w.heap.size w wc:=zaS aW.o n3 Mcn Md9;have ET:wc.heap[w.heap.size]?=some (.cells #[.int .i64 kd, .int .i64 dy, .string pl, .string fr, .slice B ts.length c, .int .i64 cl, .int .i64 yr] 52):=(n3.block _ bu Mcq).trans HD.o
      have tx:OwnS wc (w.heap.size+1+1) 118 1 ptrC (.slice HA (zbQ fr dy ps s.graves).length hn) (zbQ fr dy ps s.graves):=(OwnS.base_le HO.o MdP).grown n3 (by
       cases hb:zaA (.slice HA (zbQ fr dy ps s.graves).length hn)with
       |none=>exact .inl rfl
       |some g=>exact .inr fun e=>by have:=(HO.o.ge g hb).1;have:=S2.o;simp at e;omega)
      have kM:=zHi tx;have uu:=zHi n1;have nR:=zHi n2;have yJ:=zHi ET;have ux:=zHi og;have iY:=n3.size;have hHL:(zbQ fr dy ps s.graves).length<=1000:=by
       unfold zbQ;rw[List.length_map,zfF];exact Nat.le_trans (List.length_filter_le _ _) kV
      have dL:(zbQ fr dy ps s.graves).length=(s.graves.filter (zc6 fr dy)).length:=by
       unfold zbQ;rw[List.length_map,zfF]
      have nO:=zHi dL;have qz:=zHi (fun(W:World) (hB:Below w.heap.size w W) j hj=>held_tomb (n:=fr) (day:=dy) (HT.o.keep hB) (j:=j) hj);have F2: ∀g∈s.graves.filter (zc6 fr dy),GoodG g/\g.holders.length<=70000/\g.died.length<=1000:=fun g hg=>⟨dE.o.graves g (List.mem_filter.1 hg).1,qv.o g (List.mem_filter.1 hg).1⟩
      have qx:=zHi F2;clear n1 n2 n3 tx ET og d1 d3 bu dL F2;generalize hHs:zbQ fr dy ps s.graves=HL at*;generalize sd:s.graves.filter (zc6 fr dy)=aK at*;have yU:=zHi hHs;have jc:=zHi sd;clear hHs sd;go_upto_block 2 with fail
      go_cut [12,14,15,16,18,19,71]from 72 (fun v12 _ _ _ _ _ _ W=> ∃A n es,v12= .slice A HL.length n/\OwnS W (w.heap.size+1+1) 121 6 tmC v12 es/\es.map (·.1)=(zcV fr EF.1 aK EF.2).1/\(∀e∈es,TmOk W w.heap.size e)/\MarkAt W (w.heap.size+1) (zcV fr EF.1 aK EF.2).2/\Below w.heap.size w W/\W.heap[w.heap.size]?=some (.cells #[.int .i64 kd, .int .i64 dy, .string pl, .string fr, .slice B ts.length c, .int .i64 cl, .int .i64 yr] 52)/\OwnS W (w.heap.size+1+1) 118 1 ptrC (.slice HA HL.length hn) HL)
      case first=>
       go_wp2_with fail
       go_loopw [12,71] (fun v i wr=> ∃(j:Nat) (es:List Tm),j<=HL.length/\i= .int .i64 j/\OwnS wr (w.heap.size+1+1) 121 6 tmC v es/\Hid (es.map (·.1)=(zcV fr EF.1 (aK.take j) EF.2).1)/\Hid (∀e∈es,TmOk wr w.heap.size e)/\MarkAt wr (w.heap.size+1) (zcV fr EF.1 (aK.take j) EF.2).2/\Below w.heap.size w wr/\wr.heap[w.heap.size]?=some (.cells #[.int .i64 kd, .int .i64 dy, .string pl, .string fr, .slice B ts.length c, .int .i64 cl, .int .i64 yr] 52)/\OwnS wr (w.heap.size+1+1) 118 1 ptrC (.slice HA HL.length hn) HL/\OwnS wr (w.heap.size+1+1) 75 3 zaa (.slice EA EF.1.length en) EF.1/\w.heap.size+1+1<=wr.heap.size) (fun _ i _=>HL.length-(intOf i).toNat)
       case atStart=>exact⟨0,[],Nat.zero_le _,rfl,OwnS.nil,rfl,fun e he=>by(cases he),nR.o,ux.o,yJ.o,kM.o,uu.o,by have:=S2.o;have:=hB.size;omega⟩
       case round=>
        obtain⟨j,es,hj,rfl,ae,jb,dI,hm,hF,hD,hO,hE,hsz⟩:=hrel;obtain⟨NA,nc,rfl,_,xB⟩:=ae.sl zoc;have dL:=nO.o;have rV:es.length=j:=by
         have h1:=congrArg List.length jb.o;rw[List.length_map,zkG,List.length_take]at h1;omega
        have HN:=zHi ae;have HM:=zHi hm;have HF:=zHi hF;have fX:=zHi hD;have dV:=zHi hO;have uv:=zHi hE;obtain⟨-,-,-,e3⟩:=cF4 hD;have bu:=zab hD;by_cases aa:j<HL.length
        ·obtain⟨i,g,hi,ia,aN,Db,gV⟩:=qz.o wr hF j aa;obtain⟨ba,hgh,bP⟩:=qx.o g (List.mem_of_getElem? Db)
         obtain⟨cJ,cR,C8,rR,vC⟩:=(show Sl wr 1 ptrC HA HL from by
          obtain⟨A',c',e',h',_⟩:=hO.sl zda;simp only[Value.slice.injEq]at e'
          rw[e'.1];exact h').at aa
         subst C8;have i0:wr.cell? ⟨cJ,cR+j,none⟩=some (.pointer (some ⟨HL[j],0,none⟩)):=by have:=vC 0 _ rfl;simpa using this
         have bU:=next_snoc fr EF.1 aK EF.2 (k:=j) Mcn;have wS:aK[j]' Mcn=g:=by
          have:=List.getElem?_eq_getElem (l:=aK) (i:=j) Mcn;rw[Db]at this;exact(Option.some.inj this).symm
         rw[wS]at bU;have ej:=zHi bU;generalize HL[j]=T at*;obtain⟨H,aV,D,dc,frm,t1,t2,t3,t4,t5,t6,t7⟩:=gV;have cV:=zab t1;unfold zbt at t1;obtain⟨m0,m1,m2,m3,m4,m5⟩:=cF6 t1;have eF:=zHi t1;have kR:=zHi t6;have cd:=zHi (fun W (hW:Below wr.heap.size wr W)=>zeF g.holders H g.holders.length aV W rfl Mcn (Ro.sl zao (t5.keep hW)));have Cr:T≠wr.heap.size:=Mcn;have kE:w.heap.size≠wr.heap.size:=Mcn;have ar:(j:Int)<(HL.length:Int):=Mcn;have aT:(0:Int)<=(j:Int):=Mcn;have J6:(HL.length:Int)<=(hn:Int):=by
          obtain⟨A',c',e',_,h'⟩:=hO.sl zda;exact Ma9
         generalize zcV fr EF.1 (aK.take j) EF.2=nx at*;have lD:=zHi dL;have fY:=zHi rV;clear dL rV ae hm hF hD hO hE vC bU wS Db aN ia hi t1 t5 t6 t7 t2 t3 t4;go_upto_region 18 with fail
         have zm:Below wr.heap.size wr (wr.alloc (.cells #[.string g.place, .int .i64 g.cls, .int .i64 frm, .int .i64 g.fin, .slice H g.holders.length aV, .slice D g.died.length dc] 121)):=Bw;have zN:(wr.alloc (.cells #[.string g.place, .int .i64 g.cls, .int .i64 frm, .int .i64 g.fin, .slice H g.holders.length aV, .slice D g.died.length dc] 121)).heap[wr.heap.size]?=some (.cells #[.string g.place, .int .i64 g.cls, .int .i64 frm, .int .i64 g.fin, .slice H g.holders.length aV, .slice D g.died.length dc] 121):=zar _ _ _ rfl;have Fq:(wr.alloc (.cells #[.string g.place, .int .i64 g.cls, .int .i64 frm, .int .i64 g.fin, .slice H g.holders.length aV, .slice D g.died.length dc] 121)).heap.size=wr.heap.size+1:=Mcq;generalize wr.alloc (.cells #[.string g.place, .int .i64 g.cls, .int .i64 frm, .int .i64 g.fin, .slice H g.holders.length aV, .slice D g.died.length dc] 121)=WA at*;have y4:=(zah (o:=4) zm cV).trans m4;have BL:=zHi zN;have qd:=zHi zm;have km:=zHi Fq;have bm:=cd.o WA zm;have nN:=zHi bm;clear zN zm Fq bm cd;have DJ:Below wr.heap.size wr WA:=qd.o;go_cut [83]from 78 to 124 (fun _ W=> ∃A1 c1,zbt W wr.heap.size g.place g.cls frm g.fin (.slice A1 g.holders.length c1) (.slice D g.died.length dc)/\OwnS W wr.heap.size 75 3 zaa (.slice A1 g.holders.length c1) g.holders/\Below wr.heap.size wr W)
         case first=>
          clear qz qx dI jb HM lD fY ej HN uv dV fX HF kR eF kM uu nR yJ ux yU jc HO aW HD lj aB jN p9 S2 ie ql cE qv dE HW HT HP HC uR
          go_wp2_with (go_at_call 108
                       go_must(refine nN.o.mono ?_)
                       rintro e wq ⟨hv,rfl,o1,o2⟩;obtain⟨A1,c1,sH,_,_⟩:=o1.sl zao;subst sH;have x1:=(o2.block wr.heap.size (by have:=km.o;omega)).trans BL.o;have x3:=zab x1;have x4:wq.frozen? ⟨wr.heap.size,4,none⟩=false:=(by simp only[World.frozen?,x1];rfl)
                       have x5:wq.cell? ⟨wr.heap.size,4,none⟩=some (.slice H g.holders.length aV):=(by simp only[World.cell?,x1];rfl)
                       have X1:=zHi x1;have O1:=zHi o1;have O2:=zHi o2
                       clear x1 o1 o2)
          go_meet
          refine⟨A1,c1,zg0 (show zbt wq wr.heap.size g.place g.cls frm g.fin (.slice H g.holders.length aV) (.slice D g.died.length dc) from X1.o) _,?_,zaM (qd.o.trans (O2.o.mono (by have:=km.o;omega))) Mcq _⟩;refine OwnS.base_le (OwnS.grown O1.o (zaz _ _ _ _) (.inr fun e=> ?_)) (by have:=km.o;omega);have:=(O1.o.ge _ e).1;have:=km.o;omega
         case rest=>
          obtain⟨A1,c1,cv,ez,eG⟩:=hcut;have yk:=eG.size;have bv:=zab cv;have d3:wc.cell? ⟨w.heap.size,3,none⟩=some (.string fr):=(zah eG bu).trans e3;have q5:wc.cell? ⟨T,5,none⟩=some (.slice D g.died.length dc):=(zah eG cV).trans m5;have eh:=zHi (fun W (hW:Below wc.heap.size wc W)=>zly g.died D g.died.length dc W rfl Mcn (Ro.sl zaD ((kR.o.keep eG).keep hW)));have fq:=zHi cv;have kj:=zHi ez;have ax:=zHi eG;clear cv ez eG;go_upto_region 19 with fail
          go_cut [93]from 84 to 124 (fun _ W=> ∃A2 c2,zbt W wr.heap.size g.place g.cls frm g.fin (.slice A1 g.holders.length c1) (.slice A2 (g.died.length+[fr].length) c2)/\OwnS W wr.heap.size 9 1 sC (.slice A2 (g.died.length+[fr].length) c2) (g.died++[fr])/\OwnS W wr.heap.size 75 3 zaa (.slice A1 g.holders.length c1) g.holders/\Below wr.heap.size wr W)
          case first=>
           clear qz qx dI jb HM lD fY ej HN uv dV fX HF kR eF kM uu nR yJ ux yU jc HO aW HD lj aB jN p9 S2 ie ql cE qv dE HW HT HP HC uR nN BL qd km;refine wp_region_held_drew (S:=(fun w'=>w'.cell? ⟨w.heap.size,3,none⟩=some (.string fr)/\w'.cell? ⟨T,5,none⟩=some (.slice D g.died.length dc))) Mco ?hS ?hrest
           case hS=>exact⟨d3,q5⟩
           case hrest=>
            intro hHeld;refine TkH 0 ?_;refine TkH 1 ?_;refine TkH 2 ?_;refine TkH 3 ?_;refine TkH 5 ?_;refine TkH 6 ?_;refine wpAnyH_ready (rs:=[4,7]) Mco Mcq (AllReadyH.cons (List.getElem?_toArray.trans rfl) (fun K hK=> ?_) (AllReadyH.cons (List.getElem?_toArray.trans rfl) (fun K hK=> ?_) AllReadyH.nil))
            ·go_simp
             refine(eh.o _ Bw).mono ?_;rintro e w5 ⟨hv,rfl,o1,o2⟩;obtain⟨A5,c5,sH,_,_⟩:=o1.sl zaD;subst sH;have z0:=o2.size;have z1:w.heap.size<w5.heap.size:=by simp at z0;omega
             have z2:T<w5.heap.size:=by simp at z0;omega
             have z3:w5.cell? ⟨w.heap.size,3,none⟩=some (.string fr):=(zah o2 Mcr).trans d3;have z5:w5.cell? ⟨T,5,none⟩=some (.slice D g.died.length dc):=(zah o2 Mcr).trans q5;refine NxM hK (fun hHeld=> ?_) (⟨z3,z5⟩);clear hK K;refine OnH 7 fun K hK=> ?_
             go_simp
             refine NxM hK (fun hHeld=> ?_) (⟨(zah (zad (Below.refl _ _) _) z1).trans z3,(zah (zad (Below.refl _ _) _) z2).trans z5⟩);clear hK K;refine OnH 8 fun K hK=> ?_
             have oK:Below wc.drew.heap.size wc.drew (w5.alloc (.cells #[.string fr] 9)):=(zad o2 _)
             refine zak (v:= .slice A5 g.died.length c5) (n:=g.died.length) (m:=1) rfl _ _ rfl zbL zaD zbK rfl (xs:=g.died) (ys:=[fr]) (o1.keep (n:=w5.heap.size) Bw) rfl rfl rfl (zdj (zar w5 _ _ Mcq)) McL Mcn (by have:=z0;simp at this⊢;omega) ?_;exact Mt
            ·go_simp
             have pj:Below wc.heap.size wc (wc.drew.alloc (.cells #[.string fr] 9)):=zad (zaH (Below.refl _ _)) _;refine NxM hK (fun hHeld=> ?_) (⟨(zah pj Mcn).trans d3,(zah pj Mcn).trans q5⟩);clear hK K;refine OnH 4 fun K hK=> ?_
             go_simp
             have D3:=d3;have Q5:=q5;have d3:=(zah pj Mcn).trans D3;have q5:=(zah pj Mcn).trans Q5;refine(eh.o _ Bw).mono ?_;rintro e w5 ⟨hv,rfl,o1,o2⟩;obtain⟨A5,c5,sH,_,_⟩:=o1.sl zaD;subst sH;have z0:=o2.size;have z1:w.heap.size<w5.heap.size:=by simp at z0;omega
             have z2:T<w5.heap.size:=by simp at z0;omega
             have z3:w5.cell? ⟨w.heap.size,3,none⟩=some (.string fr):=(zah o2 Mcr).trans d3;have z5:w5.cell? ⟨T,5,none⟩=some (.slice D g.died.length dc):=(zah o2 Mcr).trans q5;have d3:=D3;have q5:=Q5;have qW:=pj.trans (o2.mono Mcq);have Jh:=(o2.block wc.heap.size Mcq).trans (zar wc.drew _ _ rfl);refine NxM hK (fun hHeld=> ?_) (⟨z3,z5⟩);clear hK K;refine OnH 8 fun K hK=> ?_
             have oK:Below wc.drew.heap.size wc.drew (w5):=⟨qW.os,qW.tape,qW.output,qW.size,qW.block⟩
             refine zak (v:= .slice A5 g.died.length c5) (n:=g.died.length) (m:=1) rfl _ _ rfl zbL zaD zbK rfl (xs:=g.died) (ys:=[fr]) (o1.keep (n:=w5.heap.size) Bw) rfl rfl rfl (zdj Jh) McL Mcn (by have:=z0;simp at this⊢;omega) ?_;exact Mt
          case rest=>
           obtain⟨A2,c2,cv,jx,ez,eG⟩:=hcut;obtain⟨W3,rfl⟩: ∃x,x=wc:=⟨_,rfl⟩
           obtain⟨WR,rfl⟩: ∃x,x=wr:=⟨_,rfl⟩
           have yk:=eG.size;have bv:=zab cv;have d3:W3.cell? ⟨w.heap.size,3,none⟩=some (.string fr):=(zah eG bu).trans e3;have yA:W3.cell? ⟨WR.heap.size,4,none⟩=some (.slice A1 g.holders.length c1):=Mda;obtain⟨iU,iB,kZ,dg⟩:=death_bd (n:=fr) (hs:=EF.1) ba ql.o;have nG: ∀W,Below W3.heap.size W3 W->_:=fun W hB=>zew g.holders A1 c1 WR.heap.size fr W ((zah hB bv).trans yA) (Nat.lt_of_lt_of_le bv hB.size) Mcn ba.good.asc (Ro.sl zao (ez.ro'.keep hB))
           have iE: ∀W,zbt W WR.heap.size g.place g.cls frm g.fin (.slice A1 g.holders.length c1) (.slice A2 (g.died.length+[fr].length) c2)->OwnS W WR.heap.size 75 3 zaa (.slice A1 g.holders.length c1) g.holders->Calls Tryz.prog 195 #[.pointer (some ⟨WR.heap.size,0,none⟩), .string fr, .agg #[.int .i64 0, .int .i64 1]] W (zku W WR.heap.size WR.heap.size g.place g.cls frm g.fin (.slice A2 (g.died.length+[fr].length) c2) (.slice A1 g.holders.length c1) (setP g.holders fr 0)):=fun W h1 h2=>ziy WR.heap.size WR.heap.size g.holders _ g.place g.cls frm g.fin _ fr 0 W h1 (Nat.le_refl _) h2 ba.good.asc Mcn
           obtain⟨own,ae⟩: ∃own,own=zag g.holders fr:=⟨_,rfl⟩
           rw[<-ae]at nG iU iB kZ dg;have gn:=zHi nG;have g8:=zHi iE;have da:=zHi dg;have dJ:=zHi ae;have fq:=zHi cv;have kj:=zHi ez;have dD:=zHi jx;have ax:=zHi eG;clear nG iE dg ae cv ez jx eG yA;unfold zaB at gn
           go_upto_region 22 with(first
            |(go_at_call 95
              go_must(refine(gn.o _ Bw).mono ?_)
              rintro e wq ⟨rfl,z,hz⟩;have cZ:Below W3.heap.size W3 wq:=(by rw[hz];exact Bw)
              have d3q:=(zah cZ (show w.heap.size<W3.heap.size by omega)).trans d3;have dlq:=cZ.size;have bS:w.heap.size<wq.heap.size:=Mcn;have kP:=zHi cZ
              clear hz cZ)
            |(go_at_call 195
              go_must(refine(g8.o _ ?q1 ?q2).mono ?_)
              case q1=>exact zal ((kP.o.block _ bv).trans fq.o)
              case q2=>exact kj.o.keep (n:=W3.heap.size) (zad kP.o _)
              rintro e wz ⟨rfl,v',t1,t2,t3,t4⟩;have T1:=zHi t1;have T2:=zHi t2;have T3:=zHi t3;have T4:=zHi t4
              clear t1 t2 t3 t4))
           have eW:Below WR.heap.size WR wz:=(ax.o.trans ((zad kP.o _).mono Mcn)).trans T3.o;have oW:=eW.size;have vZ:(wq.alloc (zbr own)).heap[WR.heap.size]?=some (.cells #[.string g.place, .int .i64 g.cls, .int .i64 frm, .int .i64 g.fin, .slice A1 g.holders.length c1, .slice A2 (g.died.length+[fr].length) c2] 121):=zal ((kP.o.block _ bv).trans fq.o);have vO:=kj.o.keep (n:=W3.heap.size) (zad kP.o (zbr own));have vv:=dD.o.keep (n:=W3.heap.size) (zad kP.o (zbr own));have bo: ∀(j:Nat) (cur:Array Value) (t:TypeId) (f:Nat×Nat),(wq.alloc (zbr own)).heap[j]?=some (.cells cur t f)->t≠121->t≠75->wz.heap[j]?=(wq.alloc (zbr own)).heap[j]?:=fun j cur t f hj n1 n2=>
            T4.o j (zab hj) (fun e=>by rw[e,vZ]at hj;simp only[Option.some.injEq,Obj.cells.injEq]at hj;exact n1 hj.2.1.symm) (zkK vO hj n2)
           have EV:OwnS wz WR.heap.size 9 1 sC (.slice A2 (g.died.length+[fr].length) c2) (g.died++[fr]):=vv.same (fun j cur _ hj=>bo j cur _ _ hj Mcp Mcp);have zA:wz.heap[wq.heap.size]?=some (zbr own):=(bo _ _ _ _ (zar wq (zbr own) _ rfl) Mcp Mcp).trans (zar wq (zbr own) _ rfl);have Fe:MarkAt wz (w.heap.size+1) nx.2:=HM.o.keep eW (zab HM.o);have se:WR.grownBy wz (some (w.heap.size+1)):=⟨eW.os,eW.tape,eW.output,eW.size,fun k hk _=>eW.block k hk⟩
           have xn:=zit (n:=fr) (q:=0) (l:=g.holders);have Jk:WR.heap.size<wq.heap.size:=by have:=kP.o.size;omega
           have fh:=zab HM.o;obtain⟨O,hO⟩: ∃O,O=wq.heap.size:=⟨_,rfl⟩
           rw[<-hO]at zA Jk⊢;have hOz:=zab zA;have fF:=zHi eW;have uq:=zHi EV;have uz:=zHi zA;have Be:=zHi Fe;have uD:=zHi se;have p8:=zHi xn;clear eW EV zA Fe se bo vZ vO vv xn d3q dlq hO d3 kP T3 T4 gn g8 bS;go_upto_block 4 with fail
           go_cut [18,19,103]from 104 to 124 (fun _ _ _ W=> ∃v out fl,Hid ((out,fl)=zd0 fr EF.1 g nx.2)/\MarkAt W (w.heap.size+1) fl/\zbt W WR.heap.size g.place g.cls frm g.fin v (.slice A2 (g.died.length+[fr].length) c2)/\OwnS W WR.heap.size 75 3 zaa v out/\OwnS W WR.heap.size 9 1 sC (.slice A2 (g.died.length+[fr].length) c2) (g.died++[fr])/\WR.grownBy W (some (w.heap.size+1)))
           case first=>
            clear uR HC HP HT HW dE qv cE c0 c6 aB p9 S2 bp aW aE HE uu nR ux iY lj HZ qx nO yU jc HO kM ar aT J6 jb lD fY y4 nN d3 q5 dI HN HF e3 i0 m0 m1 m2 m3 m4 m5 kR Cr kE qd km DJ dD ax dV Ft;go_wp2_with fail
            go_loopw [103] (fun i W=> ∃(k:Nat) (v:Value) (out:Parts) (fl:Bool),k<=EF.1.length/\i= .int .i64 k/\Hid ((out,fl)=zei own (EF.1.take k) (setP g.holders fr 0,nx.2))/\Hid (out.length<=g.holders.length+1+k)/\MarkAt W (w.heap.size+1) fl/\zbt W WR.heap.size g.place g.cls frm g.fin v (.slice A2 (g.died.length+[fr].length) c2)/\OwnS W WR.heap.size 75 3 zaa v out/\OwnS W WR.heap.size 9 1 sC (.slice A2 (g.died.length+[fr].length) c2) (g.died++[fr])/\WR.grownBy W (some (w.heap.size+1))/\W.heap[O]?=some (zbr own)) (fun i _=>EF.1.length-(intOf i).toNat)
            case atStart=>exact⟨0,v',setP g.holders fr 0,nx.2,Nat.zero_le _,rfl,rfl,p8.o,Be.o,T1.o,T2.o,uq.o,uD.o,uz.o⟩
            case round=>
             obtain⟨k,v,out,fl,hk,rfl,o8,eE,hm,cv,ez,jx,dl,kw⟩:=hrel;clear p8 Be T1 T2 uq uD uz fF;obtain⟨A3,c3,rfl,ri,mh⟩:=ez.sl zao;have dg:Bd out 1:=by have:=da.o nx.2 k;rw[<-o8.o]at this;exact this
             have zt:=uv.o.grown dl (.inr fun e=>by have:=(uv.o.ge _ e).1;omega);have yC:=zab cv;have vM:=zab kw;have KF:=zab hm;have yA:wr.cell? ⟨WR.heap.size,4,none⟩=some (.slice A3 out.length c3):=Mda;have HD:=zHi dg;have Eh:=zHi hm;have qN:=zHi cv;have ii:=zHi ez;have qj:=zHi jx;have eC:=zHi dl;have sU:=zHi kw;have Ij:=zHi ri;have HE3:=zHi zt;clear dg hm cv ez jx kw ri dl;by_cases mI:k<EF.1.length
             ·obtain⟨b',off,rfl,cJ,hc⟩:=(zt.sl' zao).at mI;obtain⟨iX,jZ,eA⟩:=zdJ ql.o (List.getElem_mem mI);have aK:=zoM own EF.1 (setP g.holders fr 0,nx.2) mI;rw[<-o8.o]at aK;have tI:EF.1.length<=en:=by
               obtain⟨A',c',e',_,h'⟩:=zt.sl zao;exact Ma9
              generalize EF.1[k]=p at*;obtain⟨pn,q⟩:=p;simp only at iX jZ eA;have i0:wr.cell? ⟨b',off+k*3,none⟩=some (.string pn):=hc 0 _ rfl;have i1:wr.cell? ⟨b',off+k*3+1,none⟩=some (.int .i64 q.num):=hc 1 _ rfl;have i2:wr.cell? ⟨b',off+k*3+2,none⟩=some (.int .i64 q.den):=hc 2 _ rfl;have o0:wr.cell? ⟨O,0,none⟩=some (.int .i64 own.num):=by simp only[World.cell?,sU.o,zbr];rfl
              have o1:wr.cell? ⟨O,1,none⟩=some (.int .i64 own.den):=by simp only[World.cell?,sU.o,zbr];rfl
              have wU:zaI (zbg (own*q)):=zcc (zcv (Rat.mul_nonneg iU (Rat.le_of_lt iX))) (Rat.le_trans (zhc (Rat.mul_nonneg iU (Rat.le_of_lt iX))) (zjJ iU kZ (Rat.le_of_lt iX) jZ)) (zgt _);have dE:=zHi aK;have AO:=zHi wU;have qC:=zHi mI;have l9:wrap64 ((k:Int)+1)=(k:Int)+1:=by
               have:=eO.o;unfold wrap64;omega
              have BH:=zHi l9;clear l9;have xA: ∀W,MarkAt W (w.heap.size+1) fl->Calls Tryz.prog 196 #[.pointer (some ⟨w.heap.size+1,0,none⟩), .agg #[.int .i64 own.num, .int .i64 own.den], .agg #[.int .i64 q.num, .int .i64 q.den]] W (zeG W (w.heap.size+1) fl (own*q)):=fun W h=>zhM (w.heap.size+1) fl W h own q iB eA
              have Bc:=zHi xA;have xe:(k:Int)<(EF.1.length:Int):=Mcn;have Kp:(0:Int)<=(k:Int):=Mcn;have Ks:(k:Int)<=(en:Int):=Mcn;have Fj:O≠wr.heap.size:=Mcn;have tP:out.length<=90000:=by have:=eE.o;have:=eO.o;omega
              have tR:w.heap.size+1≠wr.heap.size:=Mcn;clear hc aK wU iX jZ xA tI zt
              go_wp2_with (go_at_call 196
                           go_must(refine(Bc.o _ (Eh.o.alloc _)).mono ?_)
                           rintro e wq ⟨rfl,m1,m2⟩;have jL:=m2.size;have y0:wq.heap[wr.heap.size]?=some (.cells #[.string pn, .int .i64 q.num, .int .i64 q.den] 75):=(m2.block _ Mcq Mcr).trans (zar _ _ _ rfl);have y1:wq.cell? ⟨wr.heap.size,0,none⟩=some (.string pn):=(by simp only[World.cell?,y0];rfl)
                           have y3:wr.heap.size<wq.heap.size:=zab y0;have M1:=zHi m1;have M2:=zHi m2;clear m1 m2 y0
                           simp only[zaB])
              have vK:OwnS wq WR.heap.size 75 3 zaa (.slice A3 out.length c3) out:=OwnS.grown (W:=wr.alloc _) (ii.o.keep (n:=wr.heap.size) (zad (Below.refl _ _) _)) M2.o (.inr fun e=>by have:=(ii.o.ge _ e).1;omega);have lZ:zbt wq WR.heap.size g.place g.cls frm g.fin (.slice A3 out.length c3) (.slice A2 (g.died.length+[fr].length) c2):=(M2.o.block _ Mcr Mcr).trans (zal qN.o);have nK:wq.cell? ⟨WR.heap.size,4,none⟩=some (.slice A3 out.length c3):=by unfold zbt at lZ;simp only[World.cell?,lZ];rfl
              have bw:WR.heap.size<wq.heap.size:=zab lZ;have OQ:=zHi vK;have TQ:=zHi lZ;have mR:zaI (zag out pn):=HD.o.share Rat.le_refl pn;generalize eI:zbg (own*q)=gt at*;generalize hsv2:zag out pn=sv at*;have uC:=zHi eI;have ve:=zHi hsv2;have eQ:=zHi mR;have Le:wr.heap.size≠wq.heap.size:=Mcn;have GF:WR.heap.size≠wq.heap.size:=Mcn;clear vK lZ mR eI hsv2 i0 i1 i2 o0 o1;go_region_held3 (fun w'=>w'.cell? ⟨wr.heap.size,0,none⟩=some (.string pn)/\w'.cell? ⟨wq.heap.size,0,none⟩=some (.int .i64 gt.num)/\w'.cell? ⟨wq.heap.size,1,none⟩=some (.int .i64 gt.den))
               ((refine⟨?_,?_,?_⟩<;>first|assumption|(simp[go_sem,y1,y3];done)))
               (first
                 |(go_at_call 95
                   go_loud(refine(zew out A3 c3 WR.heap.size pn _ ?q1 ?q2 Mcn HD.o.good.asc (Sl.keep (OQ.o.sl' zao) (n:=wq.heap.size) Bw)).mono ?_)
                   case q1=>simp[go_sem,nK,bw]
                   case q2=>simp;omega
                   rintro e w5 ⟨rfl,zs,rfl⟩;rw[ve.o]
                   simp only[zaB])
                 |(go_at_call 113
                   go_loud(refine(zhN (w.heap.size+1) (fl||bigQ (own*q)) _ ?q3 sv gt eQ.o AO.o).mono ?_)
                   case q3=>(repeat(first|exact M1.o|refine MarkAt.ext ?_ _|refine MarkAt.drew ?_|refine MarkAt.alloc ?_ _))
                   rintro e w6 ⟨rfl,n1,n2⟩;have p3:w6.cell? ⟨wr.heap.size,0,none⟩=some (.string pn):=Mdx;have p0:w6.cell? ⟨wq.heap.size,0,none⟩=some (.int .i64 gt.num):=McZ;have p1:w6.cell? ⟨wq.heap.size,1,none⟩=some (.int .i64 gt.den):=McZ;have N1:=zHi n1;have N2:=zHi n2;clear n1 n2
                   simp only[zaB])
                 |(go_at_call 195
                   go_loud(refine(ziy WR.heap.size WR.heap.size out (.slice A3 out.length c3) g.place g.cls frm g.fin (.slice A2 (g.died.length+[fr].length) c2) pn (zbg (sv+gt)) _ ?q4 (Nat.le_refl _) ?q5 HD.o.good.asc tP).mono ?_)
                   case q4=>exact(N2.o.block _ Mcw Mcr).trans Mdp
                   case q5=>exact OwnS.grown (OQ.o.keep (n:=wq.heap.size) Bw) N2.o (.inr fun e=>by have:=(OQ.o.ge _ e).1;omega)
                   rintro e wz ⟨rfl,v',t1,t2,t3,t4⟩;have s3:wz.cell? ⟨wr.heap.size,0,none⟩=some (.string pn):=(World.cell?_of_block (w:=w6) (t4 wr.heap.size McV Mcn (fun e=>by have:=(ii.o.ge _ e).2;omega))).trans p3;have s0:wz.cell? ⟨wq.heap.size,0,none⟩=some (.int .i64 gt.num):=(World.cell?_of_block (w:=w6) (t4 wq.heap.size McV Mcn (fun e=>by have:=(ii.o.ge _ e).2;omega))).trans p0;have s1:wz.cell? ⟨wq.heap.size,1,none⟩=some (.int .i64 gt.den):=(World.cell?_of_block (w:=w6) (t4 wq.heap.size McV Mcn (fun e=>by have:=(ii.o.ge _ e).2;omega))).trans p1;have T1:=zHi t1;have T2:=zHi t2;have T3:=zHi t3;have T4:=zHi t4
                   clear t1 t2 t3 t4))
              have AL:Hid (zfh own (pn,q) (out,fl)=(setP out pn (zbg (sv+gt)),fl||bigQ (own*q)||bigQ (sv+gt))):=by
               show _=_;unfold zfh;simp only[uC.o,ve.o]
              have cB:MarkAt wz (w.heap.size+1) (fl||bigQ (own*q)||bigQ (sv+gt)):=N1.o.keep T3.o Mcn;have iA:=zit (n:=pn) (q:=zbg (sv+gt)) (l:=out);have h6:wr.grownBy w6 (some (w.heap.size+1)):=zbl (zjT (zad (Below.refl wr.heap.size wr) _) (Nat.le_refl _) M2.o) (zjT (n:=wq.heap.size) (W:=((wq.alloc (zbr gt)).drew).ext zs) Bw (Nat.le_refl _) N2.o);have kA:=h6.size;have Gu:w6.heap[WR.heap.size]?=some (.cells #[.string g.place, .int .i64 g.cls, .int .i64 frm, .int .i64 g.fin, .slice A3 out.length c3, .slice A2 (g.died.length+[fr].length) c2] 121):=(h6.block _ yC Mcr).trans qN.o;have pO:OwnS w6 WR.heap.size 75 3 zaa (.slice A3 out.length c3) out:=ii.o.grown h6 (.inr fun e=>by have:=(ii.o.ge _ e).1;omega);have FF:=qj.o.grown h6 (.inr fun e=>by have:=(qj.o.ge _ e).1;omega);have CU:w6.heap[O]?=some (zbr own):=(h6.block O vM Mcr).trans sU.o;have bo: ∀(j:Nat) (cur:Array Value) (t:TypeId) (f:Nat×Nat),w6.heap[j]?=some (.cells cur t f)->t≠121->t≠75->wz.heap[j]?=w6.heap[j]?:=fun j cur t f hj n1 n2=>
               T4.o j (zab hj) (fun e=>by rw[e,Gu]at hj;simp only[Option.some.injEq,Obj.cells.injEq]at hj;exact n1 hj.2.1.symm) (zkK pO hj n2)
              have FI:=FF.same (W':=wz) (fun j cur _ hj=>bo j cur _ _ hj Mcp Mcp);have CY:wz.heap[O]?=some (zbr own):=(bo _ _ _ _ CU Mcp Mcp).trans CU;have se:WR.grownBy wz (some (w.heap.size+1)):=zoO (zbl eC.o h6) T3.o (Nat.le_refl _);have Bg:=zHi cB;have fZ:=zHi iA;have uq:=zHi FI;have uz:=zHi CY;have uD:=zHi se;clear cB iA h6 Gu pO FF CU bo FI CY se p3 p0 p1 s3 s0 s1 y1;go_wp2_with fail
              go_round
              case rel=>
               have hel:=eO.o;have mI:=qC.o;have pE:=AL.o.symm.trans dE.o.symm;have pL:(setP out pn (zbg (sv+gt))).length<=g.holders.length+1+(k+1):=by have:=fZ.o;have:=eE.o;omega
               exact⟨k+1,v',setP out pn (zbg (sv+gt)),_,qC.o,by rw[BH.o];rfl,pE,pL,Bg.o,T1.o,T2.o,uq.o,uD.o,uz.o⟩
              case measure=>rw[BH.o];have:=qC.o;simp only[intOf];omega
             ·have ar: ¬(k:Int)<(EF.1.length:Int):=Mcn;have nJ:(out,fl)=zd0 fr EF.1 g nx.2:=by
               rw[o8.o,List.take_of_length_le Mcn];unfold zd0;rw[<-dJ.o]
              have zh:=zHi nJ;clear nJ o8 da;go_wp2_with fail
              go_meet
              exact⟨_,out,fl,zh.o,Eh.o,qN.o,ii.o,qj.o,eC.o⟩
           case rest=>
            obtain⟨v9,out,fl,zh,hm,cv,ez,jx,dl⟩:=hcut;obtain⟨W4,rfl⟩: ∃x,x=wc:=⟨_,rfl⟩
            obtain⟨A3,c3,rfl,_,mh⟩:=ez.sl zao;have kU:(g.died++[fr]).length<=c2:=by
             obtain⟨A',c',e',_,h'⟩:=jx.sl zaD;exact Ma9
            have hg4:=dl.size;have jI:=cv;unfold zbt at jI;obtain⟨m0,m1,m2,m3,m4,m5⟩:=cF6 jI;obtain⟨E,hE⟩: ∃E:Tm,E=(⟨g.place,g.cls,g.fin,out,g.died++[fr]⟩,frm,(A3,c3),(A2,c2)):=⟨_,rfl⟩
            have EX:(tmC E).toArray= #[.string g.place, .int .i64 g.cls, .int .i64 frm, .int .i64 g.fin, .slice A3 out.length c3, .slice A2 (g.died.length+[fr].length) c2]:=by rw[hE];simp[tmC]
            have Ff:=HN.o.grown dl (.inr fun e=>by have:=(HN.o.ge _ e).1;omega);have CT:es.length<=1000:=by have:=fY.o;omega
            have Bh:=zHi Ff;have Hs:=zHi EX;have E7:=zHi hE;have Ei:=zHi hm;have Bo:=zHi ez;have un:=zHi jx;have E9:=zHi dl;have Ho:=zHi kU;clear Ff EX hE hm cv ez jx dl jI da p8 uq uz Be uD fF T1 T2 fq kj dD ax d3 q5 nN BL qd km kU;go_upto_region 28 with fail
            go_wp2_with (at_builtin
                         go_loud(refine za1 (v:= .slice NA es.length nc) (n:=es.length) (m:=1) rfl _ _ rfl elTm zoc tm_one rfl (xs:=es) (ys:=[E]) (Bh.o.keep (n:=W4.heap.size) Bw) rfl rfl rfl (sl_tm (by rw[Hs.o];exact zar _ _ _ Mcq)) McL Mcn Mcr ?_)
                         intro v5 w5 h1 h2 h3;have H1:=zHi h1;have H2:=zHi h2
                         clear h1 h2 h3)
            have l9:wrap64 ((j:Int)+1)=(j:Int)+1:=by
             unfold wrap64;omega
            have BH:=zHi l9;have am:=zHi aa;clear l9;go_wp2_with fail
            go_round
            case rel=>
             have DH:=H2.o.size;simp only[World.size_alloc]at DH;have Jj:=Bh.o;have Gf:=HM.o;unfold MarkAt at Gf;have Kq: ∀(k:Nat) (cur:Array Value) (t:TypeId) (f:Nat×Nat),WR.heap[k]?=some (.cells cur t f)->t≠146->W4.heap[k]?=WR.heap[k]?:=fun k cur t f hk n1=>
              E9.o.block k (zab hk) (fun e=>by
               simp only[Option.some.injEq]at e;rw[e,Gf]at hk;simp only[Option.some.injEq,Obj.cells.injEq]at hk
               exact n1 hk.2.1.symm)
             have Ad: ∀(k:Nat) (cur:Array Value) (t:TypeId) (f:Nat×Nat),W4.heap[k]?=some (.cells cur t f)->t≠121->w5.heap[k]?=W4.heap[k]?:=fun k cur t f hk n1=>by
              have hl:=zab hk;have a1:=H2.o.block k Mcr (fun e=>zkK Jj hk n1 e.symm);exact a1.trans (Below.heap_alloc _ _ _ hl)
             have fT: ∀(k:Nat) (cur:Array Value) (t:TypeId) (f:Nat×Nat),WR.heap[k]?=some (.cells cur t f)->t≠146->t≠121->w5.heap[k]?=WR.heap[k]?:=fun k cur t f hk n1 n2=>by
              have a1:=Kq k cur t f hk n1;exact(Ad k cur t f (a1.trans hk) n2).trans a1
             have CH:Below w.heap.size w w5:=Below.grown (a:=w) (B:=w.heap.size) (zad (zaS HF.o E9.o Mcn) _ Mcn) H2.o Mcr (fun k hk=>by have:=(Bh.o.ge k hk).1;omega);refine⟨j+1,es++[E],am.o,by go_num,H1.o,?_,?_,?_,CH,?_,?_,?_,by omega⟩
             ·show _=_;rw[ej.o,<-zh.o,List.map_append,jb.o,E7.o];rfl
             ·show∀e∈es++[E],TmOk w5 w.heap.size e;intro e he;rcases List.mem_append.1 he with he|he
              ·refine(dI.o e he).same fun k cur t f hk ht=>fT k cur t f hk ?_ ?_
               ·rcases ht with rfl|rfl<;>decide
               ·rcases ht with rfl|rfl<;>decide
              ·rw[List.mem_singleton.1 he,E7.o];refine⟨Bo.o.ro'.same fun k cur f hk _=>Ad k cur _ f hk Mcp,mh,un.o.ro'.same fun k cur f hk _=>Ad k cur _ f hk Mcp,Ho.o,fun a ha=> ?_⟩;have ha:A2=some a:=ha;have:=(un.o.ge a.block (by rw[ha];rfl)).1;omega
             ·rw[ej.o,<-zh.o];exact(Ad _ _ _ _ Ei.o Mcp).trans Ei.o
             ·exact(fT _ _ _ _ fX.o Mcp Mcp).trans fX.o
             ·exact dV.o.same fun k cur _ hk=>fT k cur _ _ hk Mcp Mcp
             ·exact uv.o.same fun k cur _ hk=>fT k cur _ _ hk Mcp Mcp
            case measure=>have:=am.o;simp only[intOf];omega
        ·have ar: ¬(j:Int)<(HL.length:Int):=Mcn;have cX:aK.take j=aK:=List.take_of_length_le Mcn;have FK:es.length=HL.length:=Mcn;rw[cX]at jb HM;have Hu:=zHi FK;clear cX FK rV ae hm hF hD hO hE dL;go_wp2_with fail
         go_meet
         exact⟨NA,nc,es,by rw[Hu.o],HN.o,jb.o,dI.o,HM.o,HF.o,fX.o,dV.o⟩
      case rest=>
       obtain⟨NA,nn,es,rfl,jG,gF,bJ,hm,hF,hD,hO⟩:=hcut;obtain⟨W6,rfl⟩: ∃x,x=wc:=⟨_,rfl⟩
       have y9:=zge fr dy EF.1 s.graves [] EF.2;have bm:W6.cell? ⟨w.heap.size+1,0,none⟩=some (.bool (zcV fr EF.1 aK EF.2).2):=(zbV hm).1;have KG:=zab hm;have wP:es.length=HL.length:=by
        have h1:=congrArg List.length gF;rw[List.length_map,zkG]at h1;have:=nO.o;omega
       have m9:s.graves.any (zc6 fr dy)=true:=by
        cases hc:s.graves.any (zc6 fr dy)
        ·have h1:=jc.o;rw[List.filter_eq_nil_iff.2 (fun x hx=>by have:=List.any_eq_false.1 hc x hx;simpa using this)]at h1;have:=nO.o;rw[<-h1]at this;exact absurd this HZ.o
        ·rfl
       rw[List.nil_append,List.nil_append,List.length_nil,jc.o]at y9;have hX:=HX.o;rw[m9,<-y9.1,<-y9.2,<-gF]at hX;simp only[Bool.false_eq_true,if_false,if_true]at hX;have eS:=zHi hX;generalize(zcV fr EF.1 aK EF.2).2=fl at*;have jb:=zHi gF;have fY:=zHi wP;have dI:=zHi bJ;have qp:=zHi hF;have Hn:=zHi hD;have lJ:=zHi hO;have Ek:=zHi jG;have uE:=zHi (fun j hj=>qz.o w (Below.refl _ _) j hj);have uB:Hid ((s.graves.filter (zc6 fr dy)).length=HL.length):=by show _=_;rw[jc.o,nO.o]
       clear y9 m9 hX gF bJ hm hF hD hO jG wP HX qz lj HM aW HO HD kM uu nR yJ ux qx ql eO HE yU jc;cases fl
       ·have rB:=eS.o;simp only[Bool.false_eq_true,if_false]at rB;have kn:=zHi rB;clear rB eS;have kA:=qp.o.size;have AJ: ∃HI,HI=zbd fr dy 0 s.graves:=⟨_,rfl⟩
        obtain⟨HI,C6⟩:=AJ;rw[<-C6]at kn uE;have kW:HI.length=HL.length:=by
         rw[C6,zfF,uB.o]
        have i8:HL.length<=nn:=by
         obtain⟨A',c',e',_,h'⟩:=Ek.o.sl zoc;simp only[Value.slice.injEq]at e';have:=fY.o;omega
        have Aa:HL.length<=hn:=by
         obtain⟨A',c',e',_,h'⟩:=lJ.o.sl zda;exact Ma9
        have yS:=zHi kW;have Ih:=zHi i8;have AQ:=zHi Aa;clear C6 kW i8 Aa uB;go_wp2_with fail
        go_loopw [129] (fun i wr=> ∃j:Nat,j<=HL.length/\i= .int .i64 j/\Hid (WldC wr b dd cc pp wl rr mv (.slice TA ps.length tc) la co)/\Hid (PplAt base wr Bk dd cc pp wl rr mv s)/\Hid (TombsAt base wr Bk (.slice TA ps.length tc) ps (zd1 s.graves (HI.take j) ((es.map (·.1)).take j)))/\Hid (Below base w wr)/\wr.heap[w.heap.size]?=some (.cells #[.int .i64 kd, .int .i64 dy, .string pl, .string fr, .slice B ts.length c, .int .i64 cl, .int .i64 yr] 52)/\Hid (KeepD w wr)/\OwnS wr (w.heap.size+1+1) 118 1 ptrC (.slice HA HL.length hn) HL/\OwnS wr (w.heap.size+1+1) 121 6 tmC (.slice NA HL.length nn) es/\Hid (∀e∈es,TmOk wr w.heap.size e)/\w.heap.size<=wr.heap.size) (fun i _=>HL.length-(intOf i).toNat)
        case atStart=>exact⟨0,Nat.zero_le _,rfl,HC.o.keep qp.o,HP.o.keep qp.o,HT.o.keep qp.o,qp.o.mono Mcn,Hn.o,KeepD.below qp.o,lJ.o,by rw[<-fY.o]at*;exact Ek.o,dI.o,kA⟩
        case round=>
         obtain⟨j,hj,rfl,E5,pa,nj,bT,BY,uG,zE,vH,uP,kB⟩:=hrel;have AF:=zHi BY;have uO:=zHi zE;have El:=zHi vH;by_cases aa:j<HL.length
         ·have oF:j<es.length:=by have:=fY.o;omega
          obtain⟨i,g,hi,ia,aN,_,gV⟩:=uE.o j aa;have Fv:HL[j]<w.heap.size:=by obtain⟨_,_,_,_,_,t1,_⟩:=gV;exact zab t1
          obtain⟨cJ,cR,C8,rR,vC⟩:=(zE.sl' zda).at aa;subst C8;have i0:wr.cell? ⟨cJ,cR+j,none⟩=some (.pointer (some ⟨HL[j],0,none⟩)):=by have:=vC 0 _ rfl;simpa using this
          obtain⟨nb,noff,Ji,pN,rg⟩:=(vH.sl' zoc).at oF;subst Ji;have bJ:=uP.o es[j] (List.getElem_mem oF);have f9:i<(zd1 s.graves (HI.take j) ((es.map (·.1)).take j)).length:=by rw[zjR];exact(List.getElem?_eq_some_iff.1 aN).1
          obtain⟨H,aV,D,dc,frm,t1,t2,_⟩:=nj.o.all i _ _ ia (List.getElem?_eq_getElem f9);have bU:zd1 s.graves (HI.take (j+1)) ((es.map (·.1)).take (j+1))=(zd1 s.graves (HI.take j) ((es.map (·.1)).take j)).set i es[j].1:=by
           have FU:j<HI.length:=by have:=yS.o;omega
           have Kn:j<(es.map (·.1)).length:=by rw[List.length_map];exact oF
           have J8:HI[j]=i:=by
            rw[List.getElem?_eq_getElem FU]at hi;exact Option.some.inj hi
           rw[List.take_succ_eq_append_getElem FU,List.take_succ_eq_append_getElem Kn,List.getElem_map,J8];exact ziP _ _ _ _ _ (by rw[List.length_take,List.length_take];omega)
          have ej:=zHi bU;have qE:=zHi ia;have lK:=zHi bJ;generalize HL[j]=T at*;generalize hE:es[j]=E at*;obtain⟨⟨gp,gc,gf,gh,gd⟩,efr,⟨EH,ehc⟩,⟨ED,edc⟩⟩:=E;have n0:wr.cell? ⟨nb,noff+j*6,none⟩=some (.string gp):=rg 0 _ rfl;have n1:wr.cell? ⟨nb,noff+j*6+1,none⟩=some (.int .i64 gc):=rg 1 _ rfl;have n2:wr.cell? ⟨nb,noff+j*6+2,none⟩=some (.int .i64 efr):=rg 2 _ rfl;have n3:wr.cell? ⟨nb,noff+j*6+3,none⟩=some (.int .i64 gf):=rg 3 _ rfl;have n4:wr.cell? ⟨nb,noff+j*6+4,none⟩=some (.slice EH gh.length ehc):=rg 4 _ rfl;have n5:wr.cell? ⟨nb,noff+j*6+5,none⟩=some (.slice ED gd.length edc):=rg 5 _ rfl;have cV:=zab t1;have eF:=zHi t1;unfold zbt at t1;generalize ba:(zd1 s.graves (HI.take j) ((es.map (·.1)).take j))[i]=gg at*;obtain⟨z0,z1,z2,z3,z4,z5⟩:=cF6 t1;have fz: ∀j,wr.frozen? ⟨T,j,none⟩=false:=fun j=>by simp only[World.frozen?,t1];rfl
          have ar:(j:Int)<(HL.length:Int):=Mcn;have aT:(0:Int)<=(j:Int):=Mcn;have hkh:(j:Int)<=(hn:Int):=by have:=AQ.o;omega
          have jC:(j:Int)<=(nn:Int):=by have:=Ih.o;omega
          have hnT:nb≠T:=by
           have:=(vH.ge nb rfl).1;omega
          have am:=zHi aa;have qM:=zHi Fv;clear ba hE bU ia bJ vC rg hi aN gV t1 BY zE vH f9 oF;go_wp2_with fail
          go_round
          case rel=>
           have hg:=zcd wr T (.string gp) (.int .i64 gc) (.int .i64 efr) (.int .i64 gf) (.slice EH gh.length ehc) (.slice ED gd.length edc);have Ju:=ziA (show wr.heap[T]?=some (.cells #[.string gg.place, .int .i64 gg.cls, .int .i64 frm, .int .i64 gg.fin, .slice H gg.holders.length aV, .slice D gg.died.length dc] 121) from eF.o) (.string gp) (.int .i64 gc) (.int .i64 efr) (.int .i64 gf) (.slice EH gh.length ehc) (.slice ED gd.length edc);have Fv:=qM.o;have Ae: ∀(k:Nat) (cur:Array Value) (t:TypeId) (f:Nat×Nat),wr.heap[k]?=some (.cells cur t f)->t=75\/t=9->((((((wr.setCell ⟨T,0,none⟩ (.string gp)).setCell ⟨T,1,none⟩ (.int .i64 gc)).setCell ⟨T,2,none⟩ (.int .i64 efr)).setCell ⟨T,3,none⟩ (.int .i64 gf)).setCell ⟨T,4,none⟩ (.slice EH gh.length ehc)).setCell ⟨T,5,none⟩ (.slice ED gd.length edc)).heap[k]?=wr.heap[k]?:=fun k cur t f hk ht=>
            hg.block k (zab hk) (fun e=>by
             simp only[Option.some.injEq]at e;rw[e,show wr.heap[T]?=_ from eF.o]at hk;simp only[Option.some.injEq,Obj.cells.injEq]at hk;rw[<-hk.2.1]at ht;revert ht
             decide)
           have hN:TombAt ((((((wr.setCell ⟨T,0,none⟩ (.string gp)).setCell ⟨T,1,none⟩ (.int .i64 gc)).setCell ⟨T,2,none⟩ (.int .i64 efr)).setCell ⟨T,3,none⟩ (.int .i64 gf)).setCell ⟨T,4,none⟩ (.slice EH gh.length ehc)).setCell ⟨T,5,none⟩ (.slice ED gd.length edc)) base Bk T ⟨gp,gc,gf,gh,gd⟩:=
            ⟨EH,ehc,ED,edc,efr,Ju,t2,lK.o.hc,lK.o.dc,lK.o.hs.kept hg eF.o Mcp,lK.o.ds.kept hg eF.o Mcp,fun _ a ha hb=>by
              have h1:=lK.o.ge a ha;have h2:=ppl_rows HP.o _ hb
              omega⟩
           refine⟨j+1,am.o,by go_num,wldC_tomb E5.o eF.o hg,pa.o.kept hg eF.o Mcp Mcp Mcp,?_,zaS bT.o hg t2 Mcn,(hg.block _ (zab AF.o) Mcr).trans AF.o,uG.o.trans (KeepD.cells hg eF.o Mcp),uO.o.kept hg eF.o Mcp,El.o.grown hg (.inr fun e=>by have:=(El.o.ge _ e).1;omega),fun e he=>(uP.o e he).same Ae,Nat.le_trans kB hg.size⟩;show TombsAt _ _ _ _ _ _;rw[ej.o];exact znc nj.o qE.o eF.o hg hN
          case measure=>have:=am.o;simp only[intOf];omega
         ·have ar: ¬(j:Int)<(HL.length:Int):=Mcn;have h1:HI.take j=HI:=List.take_of_length_le (by have:=yS.o;omega);have h2:(es.map (·.1)).take j=es.map (·.1):=List.take_of_length_le (by have:=fY.o;rw[List.length_map];omega);rw[h1,h2]at nj;clear h1 h2 BY zE vH;go_wp2_with fail
          go_meet
          exact⟨_,kn.o,⟨Bk,dd,cc,pp,wl,rr,mv,_,ps,aY,E5.o,⟨pa.o.nd,pa.o.ge,pa.o.dead,pa.o.rows,pa.o.marr,pa.o.wills,pa.o.ren⟩,nj.o⟩,bT.o,AF.o,uG.o⟩
       ·have rB:=eS.o;simp only[if_true]at rB;have kn:=zHi rB;clear rB eS;go_wp2_with fail
        go_ret
        exact zbP HW.o qp.o kn.o
   case rest=>
    obtain⟨gs,av,JB,eG,zr,Jd⟩:=hcut;have I6:=zHi Jd;obtain⟨W9,rfl⟩: ∃x,x=wc:=⟨_,rfl⟩
    obtain⟨Bk',d',c',p',wl',r',mv',tv',ps',eo,cC,gA,fQ⟩:=JB;have rR:=zab cC;have bu:=zab zr;have Hg:=zHi cC;have Bp:=zHi gA;have Ev:=zHi fQ;have ee:=zHi eG;unfold WldC at cC;obtain z0:=cF1 cC;obtain⟨-,-,-,z3⟩:=cF4 zr;obtain⟨es,ec,hx⟩:=zbw gA.dead;have o8:=zHi hx;have gZ:=gA.dead.at.lt;have dg:b≠d':=fun e=>by subst e;rw[cC]at hx;simp at hx
    have DO:w.heap.size≠d':=fun e=>by rw[<-e,zr]at hx;simp at hx
    clear cC gA fQ eG zr hx;go_upto_region 37 with fail
    refine wp_region_held_drew (S:=(fun w'=>w'.cell? ⟨b,0,none⟩=some (.map (some d'))/\w'.cell? ⟨w.heap.size,3,none⟩=some (.string fr))) Mco ?hS ?hrest
    case hS=>exact⟨z0,z3⟩
    case hrest=>
     intro hHeld;refine TkH 0 ?_;refine TkH 1 ?_;refine TkH 2 ?_;refine TkH 3 ?_;refine TkH 4 ?_;refine TkH 5 ?_;refine TkH 6 ?_;refine OnH 7 fun K hK=> ?_
     obtain⟨w6,hrun,iT,bG,kA⟩:=zcu (w:=W9.drew) zox (Bp.o.dead.keep (w':=W9.drew) rfl) fr true;refine zdc rfl _ _ _ rfl _ _ _ rfl rfl rfl w6 hrun ?_;have oA:W9.grownBy w6 (some d'):=⟨bG.os,bG.tape,bG.output,bG.size,bG.block⟩
     have p6:w6.cell? ⟨b,0,none⟩=some (.map (some d')):=(zbb oA rR dg).trans z0;have q6:w6.cell? ⟨w.heap.size,3,none⟩=some (.string fr):=(zbb oA bu DO).trans z3;have uJ:=zHi iT;have jP:=zHi oA;clear iT bG oA hrun;refine hK.out _ _ ?_ (fun hHeld=> ?_);focus((try dsimp only);refine⟨?_,?_⟩<;>assumption)
     clear hK K;try simp only[Act.put,List.setIfInBounds_toArray,List.set_cons_zero,List.set_cons_succ]
     refine wpAnyH_done Mco ?_ _;go_wp2_with fail
     go_ret
     rw[av.o];have fA:=Bp.o.ge;have tR:mput eqS fr true (s.dead.map fun n=>(n,true))=(s.dead++[fr]).map fun n=>(n,true):=by
      have hz:=ziJ (eq:=eqS) (k:=fr) (l:=s.dead) (by rw[zhK];exact rU);rw[zkA hz];simp
     have sr:MapS w6 d' ekS evB ((s.dead++[fr]).map fun n=>(n,true)):=by
      rw[<-tR];exact uJ.o
     exact⟨rfl,zmX eo Hg.o Ev.o jP.o o8.o rfl (ppl_dead Bp.o jP.o sr),zaS ee.o jP.o fA.1 (by have:=HW.o.lt;omega),I6.o.trans (KeepD.map jP.o o8.o)⟩
 ·go_quiet (fail)
  go_wp2_with fail
  go_ret
  exact zbP HW.o Bw HX.o
end Go.Proofs.YtjhbofabmpfniaaGreatDoor

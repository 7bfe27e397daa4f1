import Derived.Test.YtcfheecahnnhjaaGreatDoorXL
set_option linter.all false
set_option maxRecDepth 100000
set_option maxHeartbeats 4000000
namespace Go.Proofs.YtcfheecahnnhjaaGreatDoor
open Go.RowKit Go.Shelf
attribute [local go_sem] World.cell?_alloc_mark zag za4 zar zaB zaw zax zay zaz za0 za1 za2
attribute [local go_sem] zas zad
theorem sl_deed{W:World}{b:Nat}{t:TypeId}{fr:Nat×Nat}(d:Deed)(B:Option Addr)(c:Nat)(h:W.heap[b]?=some (.cells #[.int .i64 d.kind,.int .i64 d.day,.string d.place,.string d.frm,.slice B d.to.length c,.int .i64 d.cls,.int .i64 d.years] t fr)):Sl W 7 DV.cells (some ⟨b,0,none⟩) [⟨d,B,c⟩]:=
 ziD zck h (by simp[DV.cells])
theorem zkW(laws:List Law)(s:St)(wd rd:List Deed)(LA CA MA DA WA RA GA:Option Addr)(c0 c1 c2 c3 c4 c5 c6:Nat)(d:Deed)(B:Option Addr)(c:Nat)(w:World)(h:StIn w laws s wd rd LA CA MA DA WA RA GA c0 c1 c2 c3 c4 c5 c6)(hk:StLink s wd rd)(hf:StFew s wd rd)(hd:OkD d)(hS:Sl w 3 RPart.cells B d.to)(bV:d.kind=5)(ax:d.to.length<=c):Calls Tryz.prog 132 #[.agg #[.slice LA laws.length c0,.slice CA s.children.length c1,.slice MA s.marriages.length c2,.slice DA s.dead.length c3,.slice WA wd.length c4,.slice RA rd.length c5,.slice GA s.graves.length c6],d.v B c] w (zfJ w laws (zbD s d)):=by
 obtain⟨R,hR⟩:∃R,R=zbD s d:=⟨_,rfl⟩
 rw[<-hR];have aP:=(hd.one (.inl bV)).1;obtain⟨BA,tM⟩:=yH2 aP (fun W (hS:Sl W 3 RPart.cells B d.to)=>zn1 aP hS);have nP:(0:Int)<(d.to.length:Int):=Mcu;have Lo:0<d.to.length:=Mcu;unfold zbD at hR;rw[hk.ren,List.any_map]at hR;change R=(if(zaN s d.frm||zaN s (zbi d))=true then(s,28)else if rd.any (renT d.frm (zbi d))=true then(s,5)else({s with renounce:=rd.map (fun d=>(d.frm,zbi d))++[(d.frm,zbi d)]},0))at hR;obtain⟨tn,fM⟩:∃tn,tn=zbi d:=⟨_,rfl⟩
 rw[<-fM]at hR tM;obtain⟨IZ,lF⟩:=yH2 fM ax;obtain⟨dvs,xt,xu,sk⟩:=dv_of h.ren;obtain⟨zG,tC,qt⟩:=yH3 xt xu sk;clear bV aP fM xt xu sk ax;obtain⟨H,HK,HF,HD,HS,HR⟩:=yH6 (fun W (hB:Below w.heap.size w W)=>h.keep hB) hk hf hd (fun W (hB:Below w.heap.size w W)=>hS.keep hB) hR;unfold Deed.v;clear h hk hf hd hS hR;go_enter Tryz.func132,Tryz.ntmps132
 go_upto_region 1 with fail
 generalize ak:World.alloc (World.alloc (World.alloc w _) _) _=W0;obtain⟨aj,aw⟩:=zeR ak;clear ak;have au:=aj.o.size;obtain⟨⟨xs0,xd0,xr0⟩,⟨s0,s1,s2,s3,s4,s5,s6⟩,⟨d0,d1,d2,d3,d4,d5,d6⟩,⟨r0,r1,r2,r3,r4,r5,r6⟩,rf,ls,ld,lr⟩:=ddF (aw.o W0 (Below.refl _ _));have tB:=zHi (fun x W (hB:Below W0.heap.size W0 W)=>sDead x W (H.o W (aj.o.trans (hB.mono au))) HF.o);obtain⟨b,off,hA,hb,kZ⟩:=tM.o W0 (HS.o W0 aj.o);have hr:=HR.o;rw[hA]at d4;go_upto_region 1 with fail
 have gq:=zHi (fun x b (hx:zaN s x=b) W (hB:Below W0.heap.size W0 W)=>(hx▸tB.o x W hB:Calls Tryz.prog 135 #[.agg #[.slice LA laws.length c0,.slice CA s.children.length c1,.slice MA s.marriages.length c2,.slice DA s.dead.length c3,.slice WA wd.length c4,.slice RA rd.length c5,.slice GA s.graves.length c6],.string x] W (Ret W (.bool b))));clear tB;cases cg:zaN s d.frm;rotate_left 1
 ·have HE:Hid (R=(s,28)):=Mec;clear hr
  (refine zaj Mcv Mcv ?_
   repeat(first|go_big_quiet_skip|(go_big_quiet_want;go_big_quiet_op;first|go_big_quiet_on|(apply Exists.intro;refine⟨fun _=>?_,?_⟩;((go_at_call 135;exact quietx (gq.o _ _ cg _ Bw)));go_big_quiet_on)))
   refine wpQuiet_nil ?_
   rintro _ ⟨zq,rfl⟩)
  have bk:=zao W0 zq;exact MbY
 cases dW:zaN s tn;rotate_left 1
 ·have HE:Hid (R=(s,28)):=by show _=_;rw[hr,cg,dW];rfl
  clear hr
  (refine zaj Mcv Mcv ?_
   repeat(first|go_big_quiet_skip|(go_big_quiet_want;go_big_quiet_op;first|go_big_quiet_on|(apply Exists.intro;refine⟨fun _=>?_,?_⟩;((go_at_call 135;exact quietx (gq.o _ _ (by first|exact cg|exact dW) _ Bw)));go_big_quiet_on)))
   refine wpQuiet_nil ?_
   rintro _ ⟨zq,rfl⟩)
  have bk:=zao W0 zq;exact MbY
 rw[cg,dW,Bool.or_false,if_neg Mcx]at hr;have bI:Hid (R=if(rd.drop 0).any (renT d.frm tn)=true then(s,5)else({s with renounce:=rd.map (fun d=>(d.frm,zbi d))++[(d.frm,tn)]},0)):=zHi hr;clear hr
 (refine zaj Mcv Mcv ?_
  repeat(first|go_big_quiet_skip|(go_big_quiet_want;go_big_quiet_op;first|go_big_quiet_on|(apply Exists.intro;refine⟨fun _=>?_,?_⟩;((go_at_call 135;exact quietx (gq.o _ _ (by first|exact cg|exact dW) _ Bw)));go_big_quiet_on)))
  refine wpQuiet_nil ?_
  rintro _ ⟨zq,rfl⟩)
 obtain⟨W1,aV⟩:∃W1,W1=W0.ext zq:=⟨_,rfl⟩
 have aR:Below W0.heap.size W0 W1:=Mdp;rw[<-aV];have ii:=aR.size;obtain⟨aC,tx,AO⟩:=yH3 aR (show b<W0.heap.size/\W0.cell? ⟨b,off,none⟩=some (.string tn) from⟨hb,kZ⟩) hA;clear aV aR hb kZ cg dW hA;clear xs0 xd0 xr0 s0 s1 s2 s3 s4 s5 s6 d0 d1 d2 d3 d4 d5 d6 r0 r1 r2 r3 r4 r5 r6 rf ls ld lr;go_upto_region 4 with fail
 go_loopw [6] (fun i wr=>∃k:Nat,k<=rd.length/\i=.int .i64 k/\Hid (R=if(rd.drop k).any (renT d.frm tn)=true then(s,5)else({s with renounce:=rd.map (fun d=>(d.frm,zbi d))++[(d.frm,tn)]},0))/\Below W1.heap.size W1 wr) (fun i _=>rd.length-(intOf i).toNat)
 case atStart=>exact⟨0,Nat.zero_le _,rfl,bI,Below.refl _ _⟩
 case round=>
  obtain⟨k,hk,rfl,HX,hB⟩:=hrel;have aI:=hB.size;have cB:=aC.o.trans (hB.mono ii);have Lh:=HF.o.ren;obtain⟨⟨xs0,xd0,xr0⟩,⟨s0,s1,s2,s3,s4,s5,s6⟩,⟨d0,d1,d2,d3,d4,d5,d6⟩,⟨r0,r1,r2,r3,r4,r5,r6⟩,rf,ls,ld,lr⟩:=ddF (aw.o wr (cB));obtain⟨bA,HB⟩:=yH2 cB hB;have uA:W0.heap.size<=wr.heap.size:=cB.size;by_cases ae:k<rd.length
  ·obtain⟨gb,go,cs,j8,dj,dB,ah⟩:=(H.o wr (aj.o.trans (cB.mono au))).ren.at ae;have hx:=HX.o;rw[List.drop_eq_getElem_cons ae,List.any_cons]at hx;have ai:=HK.o.tos _ (List.getElem_mem ae);obtain⟨av,am⟩:=yH2 hx ae;generalize rd[k]=x at*;obtain⟨XB,xc,uE,rfl,hP⟩:=dB;obtain⟨kd,dy,pl,fr,ts,cl,yr⟩:=x;simp only at ai uE hP ah;cases ts with
   |nil=>exact absurd rfl ai
   |cons p ts=>
    obtain⟨tb,tof,At,H8,t8⟩:=hP.at (k:=0) (Nat.succ_pos _);obtain⟨pn,pu,pd⟩:=p;have t0:wr.cell? ⟨tb,tof,none⟩=some (.string pn):=MdK;have zf:zbi ⟨kd,dy,pl,fr,⟨pn,pu,pd⟩::ts,cl,yr⟩=pn:=rfl;have i3:=ah 3 _ rfl;have i4:=ah 4 _ rfl;have ar:(k:Int)<(rd.length:Int):=Mcu;have aT:(0:Int)<=(k:Int):=Mcu;generalize eG:(⟨pn,pu,pd⟩::ts:List RPart).length=ln at*;have jr:(0:Int)<(ln:Int):=by rw[<-eG];simp
    have Dz:0<ln:=Mcu;rw[AO.o]at d4;rw[j8]at s5;rw[At]at i4;have kZ:wr.cell? ⟨b,off,none⟩=some (.string tn):=(zah cB tx.o.1).trans tx.o.2;have hb:b<wr.heap.size:=by have:=tx.o.1;omega
    clear ah ae hx ai hP t8 eG uE hB cB;cases dm:zae fr d.frm
    ·have aY:(fr.toList==d.frm.toList)=false:=dm;have HE:Hid (R=if(rd.drop (k+1)).any (renT d.frm tn)=true then(s,5)else({s with renounce:=rd.map (fun d=>(d.frm,zbi d))++[(d.frm,tn)]},0)):=by show _=_;rw[av.o];simp[renT,dm]
     clear dm;exact MO
    ·have aY:(fr.toList==d.frm.toList)=true:=dm;cases g8:zae pn tn
     ·have sV:(pn.toList==tn.toList)=false:=g8;have HE:Hid (R=if(rd.drop (k+1)).any (renT d.frm tn)=true then(s,5)else({s with renounce:=rd.map (fun d=>(d.frm,zbi d))++[(d.frm,tn)]},0)):=by show _=_;rw[av.o];simp[renT,zf,g8]
      clear dm g8;exact MO
     ·have sV:(pn.toList==tn.toList)=true:=g8;have HE:Hid (R=(s,5)):=by show _=_;rw[av.o];simp[renT,zf,dm,g8]
      clear dm g8;go_upto_region 6 with fail
      (refine zaj Mcv Mcv ?_
       repeat(first|go_big_quiet_skip|(go_big_quiet_want;go_big_quiet_op;first|go_big_quiet_on|(apply Exists.intro;refine⟨fun _=>?_,?_⟩;(fail);go_big_quiet_on)))
       refine wpQuiet_nil ?_
       rintro _ ⟨zq,rfl⟩)
      have bk:=zbg bA.o zq;clear xs0 xd0 xr0 s0 s1 s2 s3 s4 s5 s6 d0 d1 d2 d3 d4 d5 d6 r0 r1 r2 r3 r4 r5 r6 rf ls ld lr;clear i3 i4 t0;obtain⟨⟨xs0,xd0,xr0⟩,⟨s0,s1,s2,s3,s4,s5,s6⟩,⟨d0,d1,d2,d3,d4,d5,d6⟩,⟨r0,r1,r2,r3,r4,r5,r6⟩,rf,ls,ld,lr⟩:=ddF (aw.o (wr.ext zq) (bk));have bk:=bk;exact Mg
  ·have ar:¬(k:Int)<(rd.length:Int):=Mcu;have hx:=HX.o;rw[List.drop_of_length_le Mcu]at hx;have HE:Hid (R=({s with renounce:=rd.map (fun d=>(d.frm,zbi d))++[(d.frm,tn)]},0)):=Md6;clear hx ae hB cB;go_upto_region 8 with fail
   clear ar;obtain⟨WX,kg⟩:∃WX,WX=wr:=⟨_,rfl⟩
   subst kg;have f9:=bA.o.size;have br:Hid (rd.length=(dvs).length):=zHi (by rw[<-zG.o,List.length_map]);have tP:Hid ((dvs).length<=1000):=zHi (by rw[<-br.o];exact HF.o.ren);have bL:=zHi (fun W (hB:Below WX.heap.size WX W)=>qt.o.keep (aj.o.trans ((bA.o.trans (hB.mono f9)).mono au)));have aA:=zHi (fun(W:World) (h:Below WX.heap.size WX W)=>(show W.cell? ⟨w.heap.size,5,none⟩=some (.slice RA rd.length c5)/\W.cell? ⟨w.heap.size+1,0,none⟩=some (.int .i64 d.kind)/\W.cell? ⟨w.heap.size+1,1,none⟩=some (.int .i64 d.day)/\W.cell? ⟨w.heap.size+1,2,none⟩=some (.string d.place)/\W.cell? ⟨w.heap.size+1,3,none⟩=some (.string d.frm)/\W.cell? ⟨w.heap.size+1,4,none⟩=some (.slice B d.to.length c)/\W.cell? ⟨w.heap.size+1,5,none⟩=some (.int .i64 d.cls)/\W.cell? ⟨w.heap.size+1,6,none⟩=some (.int .i64 d.years) from⟨(zah h ls).trans s5,(zah h ld).trans d0,(zah h ld).trans d1,(zah h ld).trans d2,(zah h ld).trans d3,(zah h ld).trans d4,(zah h ld).trans d5,(zah h ld).trans d6⟩))
   go_cut [5]from 55 to 63 (fun v wc=>v=v/\∃V c',wc.heap[w.heap.size]?=some (.cells #[.slice LA laws.length c0,.slice CA s.children.length c1,.slice MA s.marriages.length c2,.slice DA s.dead.length c3,.slice WA wd.length c4,.slice V (rd.length+1) c',.slice GA s.graves.length c6] 44)/\wc.heap[w.heap.size+2]?=some (.cells #[.slice none 0 0,.slice none 0 0,.slice none 0 0,.slice none 0 0,.slice none 0 0,.slice none 0 0,.slice none 0 0] 44)/\Ro wc 69 DV.cells V (dvs++[(⟨d,B,c⟩:DV)])/\Below w.heap.size w wc)
   case first=>
    refine za7 6 (fun bb w'=>bb=true\/(w'.cell? ⟨w.heap.size,5,none⟩=some (.slice RA rd.length c5)/\w'.cell? ⟨w.heap.size+1,0,none⟩=some (.int .i64 d.kind)/\w'.cell? ⟨w.heap.size+1,1,none⟩=some (.int .i64 d.day)/\w'.cell? ⟨w.heap.size+1,2,none⟩=some (.string d.place)/\w'.cell? ⟨w.heap.size+1,3,none⟩=some (.string d.frm)/\w'.cell? ⟨w.heap.size+1,4,none⟩=some (.slice B d.to.length c)/\w'.cell? ⟨w.heap.size+1,5,none⟩=some (.int .i64 d.cls)/\w'.cell? ⟨w.heap.size+1,6,none⟩=some (.int .i64 d.years))) Mcv (.inr (aA.o _ (zaE (Below.refl _ _)))) ?hrest
    case hrest=>
     intro hHeld;clear xs0 xd0 xr0 s0 s1 s2 s3 s4 s5 s6 d0 d1 d2 d3 d4 d5 d6 r0 r1 r2 r3 r4 r5 r6 rf ls ld lr;refine TkM 1 ?_;refine TkM 2 ?_;refine TkM 4 ?_;refine TwM 0 5 (fun K hK=>?_) fun K hK=>?_
     ·go_simp
      have e0:Below WX.heap.size WX (WX.drew.alloc (.cells #[] 69)):=zac (zaE (Below.refl _ _)) _;have m0:OwnS (WX.drew.alloc (.cells #[] 69)) WX.heap.size 69 7 DV.cells (.slice (some ⟨WX.heap.size,0,none⟩) 0 0) []:=zec zck WX.drew WX.heap.size (Nat.le_refl _);refine NxM hK (fun hHeld=>?_) (.inr (aA.o _ e0));clear hK K;refine TwM 3 5 (fun K hK=>?_) fun K hK=>?_
      ·refine zak (v:=.slice (some ⟨WX.heap.size,0,none⟩) 0 0) (n:=0) (m:=rd.length) rfl _ _ rfl zgw zck zgv rfl (xs:=[]) (ys:=dvs) (m0) rfl rfl br.o (bL.o _ e0) McC McO McF ?_;intro v4 w4 h1 h2 h3;rw[List.nil_append]at h1;obtain⟨V4,c4',aZ,_,_⟩:=h1.sl zck;rw[<-br.o]at aZ;subst aZ;have aB:Below WX.heap.size WX w4:=Below.grown e0 h2 Mdt (fun j hj=>by simp[za5]at hj;omega);refine NxM hK (fun hHeld=>?_) (.inr (aA.o _ aB));clear hK K;refine OnM 5 false fun K hK=>?_
       go_simp
       have e1:Below WX.heap.size WX (w4.alloc (.cells #[.int .i64 d.kind,.int .i64 d.day,.string d.place,.string d.frm,.slice B d.to.length c,.int .i64 d.cls,.int .i64 d.years] 69)):=zac aB _;have n1:(w4.alloc (.cells #[.int .i64 d.kind,.int .i64 d.day,.string d.place,.string d.frm,.slice B d.to.length c,.int .i64 d.cls,.int .i64 d.years] 69)).heap[w4.heap.size]?=some (.cells #[.int .i64 d.kind,.int .i64 d.day,.string d.place,.string d.frm,.slice B d.to.length c,.int .i64 d.cls,.int .i64 d.years] 69):=zaq _ _ _ rfl;have o1:OwnS (w4.alloc (.cells #[.int .i64 d.kind,.int .i64 d.day,.string d.place,.string d.frm,.slice B d.to.length c,.int .i64 d.cls,.int .i64 d.years] 69)) WX.heap.size 69 7 DV.cells (.slice V4 rd.length c4') dvs:=h1.keep (n:=w4.heap.size) (zac (Below.refl _ _) _);refine NxM hK (fun hHeld=>?_) (.inr (aA.o _ e1));clear hK K;have o9:=o1;have n9:=n1;have e9:=e1;exact Mo
      ·go_simp
       have e1:Below WX.heap.size WX ((WX.drew.alloc (.cells #[] 69)).alloc (.cells #[.int .i64 d.kind,.int .i64 d.day,.string d.place,.string d.frm,.slice B d.to.length c,.int .i64 d.cls,.int .i64 d.years] 69)):=zac e0 _;have n1:((WX.drew.alloc (.cells #[] 69)).alloc (.cells #[.int .i64 d.kind,.int .i64 d.day,.string d.place,.string d.frm,.slice B d.to.length c,.int .i64 d.cls,.int .i64 d.years] 69)).heap[WX.heap.size+1]?=some (.cells #[.int .i64 d.kind,.int .i64 d.day,.string d.place,.string d.frm,.slice B d.to.length c,.int .i64 d.cls,.int .i64 d.years] 69):=zaq _ _ _ Mcx;have m1:OwnS ((WX.drew.alloc (.cells #[] 69)).alloc (.cells #[.int .i64 d.kind,.int .i64 d.day,.string d.place,.string d.frm,.slice B d.to.length c,.int .i64 d.cls,.int .i64 d.years] 69)) WX.heap.size 69 7 DV.cells (.slice (some ⟨WX.heap.size,0,none⟩) 0 0) []:=m0.keep (n:=(WX.drew.alloc (.cells #[] 69)).heap.size) (zac (Below.refl _ _) _);refine NxM hK (fun hHeld=>?_) (.inr (aA.o _ e1));clear hK K;refine OnM 3 false fun K hK=>?_
       refine zak (v:=.slice (some ⟨WX.heap.size,0,none⟩) 0 0) (n:=0) (m:=rd.length) rfl _ _ rfl zgw zck zgv rfl (xs:=[]) (ys:=dvs) (m1) rfl rfl br.o (bL.o _ e1) McC McO McB ?_;intro v4 w4 h1 h2 h3;rw[List.nil_append]at h1;obtain⟨V4,c4',aZ,_,_⟩:=h1.sl zck;rw[<-br.o]at aZ;subst aZ;have aB:Below WX.heap.size WX w4:=Below.grown e1 h2 McR (fun j hj=>by simp[za5]at hj;omega);have n2:w4.heap[WX.heap.size+1]?=some (.cells #[.int .i64 d.kind,.int .i64 d.day,.string d.place,.string d.frm,.slice B d.to.length c,.int .i64 d.cls,.int .i64 d.years] 69):=(h2.block _ McM Mdj).trans n1;exact Mce
     ·go_simp
      have e0:Below WX.heap.size WX (WX.drew.alloc (.cells #[.int .i64 d.kind,.int .i64 d.day,.string d.place,.string d.frm,.slice B d.to.length c,.int .i64 d.cls,.int .i64 d.years] 69)):=zac (zaE (Below.refl _ _)) _;have n0:(WX.drew.alloc (.cells #[.int .i64 d.kind,.int .i64 d.day,.string d.place,.string d.frm,.slice B d.to.length c,.int .i64 d.cls,.int .i64 d.years] 69)).heap[WX.heap.size]?=some (.cells #[.int .i64 d.kind,.int .i64 d.day,.string d.place,.string d.frm,.slice B d.to.length c,.int .i64 d.cls,.int .i64 d.years] 69):=zaq _ _ _ rfl;refine NxM hK (fun hHeld=>?_) (.inr (aA.o _ e0));clear hK K;refine OnM 0 false fun K hK=>?_
      go_simp
      have e1:Below WX.heap.size WX ((WX.drew.alloc (.cells #[.int .i64 d.kind,.int .i64 d.day,.string d.place,.string d.frm,.slice B d.to.length c,.int .i64 d.cls,.int .i64 d.years] 69)).alloc (.cells #[] 69)):=zac e0 _;have n1:((WX.drew.alloc (.cells #[.int .i64 d.kind,.int .i64 d.day,.string d.place,.string d.frm,.slice B d.to.length c,.int .i64 d.cls,.int .i64 d.years] 69)).alloc (.cells #[] 69)).heap[WX.heap.size]?=some (.cells #[.int .i64 d.kind,.int .i64 d.day,.string d.place,.string d.frm,.slice B d.to.length c,.int .i64 d.cls,.int .i64 d.years] 69):=zal n0;have m1:OwnS ((WX.drew.alloc (.cells #[.int .i64 d.kind,.int .i64 d.day,.string d.place,.string d.frm,.slice B d.to.length c,.int .i64 d.cls,.int .i64 d.years] 69)).alloc (.cells #[] 69)) WX.heap.size 69 7 DV.cells (.slice (some ⟨WX.heap.size+1,0,none⟩) 0 0) []:=by
       exact Maq
      refine NxM hK (fun hHeld=>?_) (.inr (aA.o _ e1));clear hK K;refine OnM 3 false fun K hK=>?_
      refine zak (v:=.slice (some ⟨WX.heap.size+1,0,none⟩) 0 0) (n:=0) (m:=rd.length) rfl _ _ rfl zgw zck zgv rfl (xs:=[]) (ys:=dvs) (m1) rfl rfl br.o (bL.o _ e1) McC McO McB ?_;intro v4 w4 h1 h2 h3;rw[List.nil_append]at h1;obtain⟨V4,c4',aZ,_,_⟩:=h1.sl zck;rw[<-br.o]at aZ;subst aZ;have aB:Below WX.heap.size WX w4:=Below.grown e1 h2 McR (fun j hj=>by simp[za5]at hj;omega);have n2:w4.heap[WX.heap.size]?=some (.cells #[.int .i64 d.kind,.int .i64 d.day,.string d.place,.string d.frm,.slice B d.to.length c,.int .i64 d.cls,.int .i64 d.years] 69):=(h2.block _ McM Mdj).trans n1;exact Mce
   case rest=>
    obtain⟨_,V,c',eI,cy,dZ,ov⟩:=hcut;clear xs0 xd0 xr0 s0 s1 s2 s3 s4 s5 s6 d0 d1 d2 d3 d4 d5 d6 r0 r1 r2 r3 r4 r5 r6 rf ls ld lr;obtain⟨s0,s1,s2,s3,s4,s5,s6⟩:=zaH eI;obtain⟨r0,r1,r2,r3,r4,r5,r6⟩:=zaH cy;have rf:=frz cy;have ls:=zab eI;have lr:=zab cy;go_wp2_with fail
    rw[HE.o];have du:=zcD (a0:=.slice LA laws.length c0) (a1:=.slice CA s.children.length c1) (a2:=.slice MA s.marriages.length c2) (a3:=.slice DA s.dead.length c3) (a4:=.slice WA wd.length c4) (a5:=.slice V (rd.length+1) c') (a6:=.slice GA s.graves.length c6) ov (show w.heap.size<=w.heap.size+2 by omega);refine bodyPost_ret (zbG rfl _ rfl rfl (zc2 cy)) rfl ?_;have h':=H.o _ du;refine⟨_,_,_,_,_,_,_,rfl,rfl,du,fun _=>⟨wd,rd++[d],LA,CA,MA,DA,WA,V,GA,c0,c1,c2,c3,c4,c',c6,rfl,rfl,rfl,rfl,rfl,by rw[List.length_append];rfl,rfl,⟨h'.laws,h'.kids,h'.marr,h'.dead,h'.wills,?_,h'.graves,h'.deadc⟩,⟨HK.o.wills,HK.o.shares,?_,?_⟩⟩⟩
    ·exact Mac
    ·rw[List.map_append,IZ.o];rfl
    ·intro x hx;rcases List.mem_append.1 hx with hx|hx
     ·exact HK.o.tos x hx
     ·rw[List.mem_singleton.1 hx];intro he;have:=BA.o;rw[he]at this;cases this
structure GrSt (out l:Parts):Prop where
 good:GoodParts out
 isN:∀p∈out,IsN 720720 p.2
 le:sumQ out+sumQ l<=1
 pos:∀p∈l,0<=p.2
 lN:∀p∈l,IsN 720720 p.2
theorem GrSt.parts{out l:Parts}(h:GrSt out l):∀p∈out,zaJ p.2:=by
 have h1:0<=sumQ l:=zbt h.pos;exact fun p hp=>(zdO (hs:=out) ⟨h.good,zc9 Mcw Mcw h.isN,by have:=h.le;grind⟩ hp).2.2
theorem GrSt.next{out l:Parts}{n:ByteArray}{q:Rat}(h:GrSt out ((n,q)::l)):GrSt (za3 out n q) l:=by
 have hq:=h.pos (n,q) Mcx;have bP:=h.le;rw[sumQ]at bP;exact⟨zb0 hq h.good,zcK (h.lN (n,q) Mcx) h.isN,by rw[zbY];grind,fun p hp=>h.pos p Md0,fun p hp=>h.lN p Md0⟩
theorem GrSt.small{out l:Parts}{n:ByteArray}{q:Rat}(h:GrSt out ((n,q)::l)):zaJ q:=by
 have hq:=h.pos (n,q) Mcx;have bP:=h.le;rw[sumQ]at bP;have h1:0<=sumQ l:=zbt fun p hp=>h.pos p Md0
 have h2:0<=sumQ out:=zbt fun p hp=>by have:=h.good.pos p hp;grind
 simp only at hq bP;exact zcB Mcw Mcw (h.lN (n,q) Mcx) hq McX
theorem sl_grave{W:World}{b:Nat}{t:TypeId}{fr:Nat×Nat}(x:GX)(h:W.heap[b]?=some (.cells #[.string x.g.place,.int .i64 x.g.cls,.int .i64 x.g.fin,.slice x.H x.g.holders.length x.hc,.slice x.D x.g.died.length x.dc] t fr)):Sl W 5 GX.cells (some ⟨b,0,none⟩) [x]:=
 ziD zda h (by simp[GX.cells])
theorem zp1(laws:List Law)(s:St)(wd rd:List Deed)(LA CA MA DA WA RA GA:Option Addr)(c0 c1 c2 c3 c4 c5 c6:Nat)(d:Deed)(B:Option Addr)(c:Nat)(w:World)(h:StIn w laws s wd rd LA CA MA DA WA RA GA c0 c1 c2 c3 c4 c5 c6)(hk:StLink s wd rd)(hf:StFew s wd rd)(hd:OkD d)(hS:Sl w 3 RPart.cells B d.to)(bV:d.kind=0):Calls Tryz.prog 128 #[.agg #[.slice LA laws.length c0,.slice CA s.children.length c1,.slice MA s.marriages.length c2,.slice DA s.dead.length c3,.slice WA wd.length c4,.slice RA rd.length c5,.slice GA s.graves.length c6],d.v B c] w (zfJ w laws (zcT s d)):=by
 obtain⟨R,hR⟩:∃R,R=zcT s d:=⟨_,rfl⟩
 rw[<-hR];have jE:=zHi (zef (hd.parts (.inl bV)).2);have bx:=hd.len;obtain⟨gxs,hm,bv,bn⟩:=znz h.graves;obtain⟨HM,dr,Bg⟩:=yH3 hm bv bn;unfold zcT at hR;clear bV hm bv bn;obtain⟨H,HK,HF,HD,HS,HR⟩:=yH6 (fun W (hB:Below w.heap.size w W)=>h.keep hB) hk hf hd (fun W (hB:Below w.heap.size w W)=>hS.keep hB) hR;unfold Deed.v;clear h hk hf hd hS hR;go_enter Tryz.func128,Tryz.ntmps128
 go_upto_region 1 with fail
 generalize ak:World.alloc (World.alloc (World.alloc w _) _) _=W0;obtain⟨aj,aw⟩:=zeR ak;clear ak;have au:=aj.o.size;obtain⟨⟨xs0,xd0,xr0⟩,⟨s0,s1,s2,s3,s4,s5,s6⟩,⟨d0,d1,d2,d3,d4,d5,d6⟩,⟨r0,r1,r2,r3,r4,r5,r6⟩,rf,ls,ld,lr⟩:=ddF (aw.o W0 (Below.refl _ _));have ew:=zHi (fun W (hB:Below W0.heap.size W0 W)=>zkb d.place d.day W (H.o W (aj.o.trans (hB.mono au))) HF.o);have jS:=zHi (fun W (hB:Below W0.heap.size W0 W)=>zmu d.to B c W (H.o W (aj.o.trans (hB.mono au))) HF.o Mcu (HS.o W (aj.o.trans (hB.mono au))));have hr:=HR.o;cases aG:zaL s d.place d.day with
 |some i=>
  rw[aG]at hr;rw[zeb aG]at ew;have eX:(0:Int)<=(i:Int):=Mcu;have HE:Hid (R=(s,13)):=zHi hr;clear hr aG;go_upto_region 2 with(go_at_call 35;go_must(refine(ew.o _ (Below.refl _ _)).mono ?_);rintro e wq ⟨rfl,z,rfl⟩)
  have bk:=zao W0 z;exact MbY
 |none=>
  rw[aG]at hr;rw[zgJ aG]at ew;simp only[Option.isSome_none,Bool.false_eq_true,if_false]at hr;cases fW:ze5 s d.to;rotate_left 1
  ·have HE:Hid (R=(s,28)):=by show _=_;rw[hr,fW];rfl
   rw[fW]at jS;clear hr aG fW
   go_upto_region 4 with(first
    |(go_at_call 35;go_must(refine(ew.o _ (Below.refl _ _)).mono ?_);rintro e wq ⟨rfl,z,rfl⟩)
    |(go_at_call 154;go_must(refine(jS.o _ Bw).mono ?_);rintro e wq ⟨rfl,z3,rfl⟩))
   have bk:Below W0.heap.size W0 ((W0.ext z).ext z3):=zbg (zao _ _) _;have bk:=bk;exact MbY
  rw[fW,if_neg Mcx]at hr;rw[fW]at jS;have AP:=zHi (fun W=>zjZ d.day d.years W HD.o.day.1 HD.o.day.2 HD.o.years.1 HD.o.years.2);generalize zcj d.day d.years=af at*;have bI:=zHi hr;clear hr aG fW
  go_upto_region 6 with(first
   |(go_at_call 35;go_must(refine(ew.o _ (Below.refl _ _)).mono ?_);rintro e wq ⟨rfl,z,rfl⟩)
   |(go_at_call 154;go_must(refine(jS.o _ Bw).mono ?_);rintro e wq ⟨rfl,z3,rfl⟩))
  obtain⟨GB,j9⟩:∃GB,GB=W0.heap.size+z.os.size+z3.os.size:=⟨_,rfl⟩
  obtain⟨W1,aV⟩:∃W1,W1=((W0.ext z).ext z3).alloc (.cells #[.string d.place,.int .i64 d.cls,.int .i64 (-1),.slice none 0 0,.slice none 0 0] 94):=⟨_,rfl⟩
  have gG:W1.heap[GB]?=some (.cells #[.string d.place,.int .i64 d.cls,.int .i64 (-1),.slice none 0 0,.slice none 0 0] 94):=by rw[aV];exact zaq _ _ _ (by rw[j9];simp[zag])
  have aR:Below W0.heap.size W0 W1:=by rw[aV];exact zac (zbg (zao _ _) _) _
  have iL:W0.heap.size<=GB:=Mcu;rw[<-aV,<-j9];clear aV j9 ew jS;clear xs0 xd0 xr0 s0 s1 s2 s3 s4 s5 s6 d0 d1 d2 d3 d4 d5 d6 r0 r1 r2 r3 r4 r5 r6 rf ls ld lr;obtain⟨g0,g1,g2,g3,g4⟩:=zei gG;have gf:=frz gG;have gl:=zab gG;obtain⟨GG,aC⟩:=yH2 gG aR;clear gG aR;obtain⟨⟨xs0,xd0,xr0⟩,⟨s0,s1,s2,s3,s4,s5,s6⟩,⟨d0,d1,d2,d3,d4,d5,d6⟩,⟨r0,r1,r2,r3,r4,r5,r6⟩,rf,ls,ld,lr⟩:=ddF (aw.o W1 (aC.o));go_upto_if 28 with fail
  go_cut [5]from 26 to 39 (fun v wc=>v=v/\∃fin:Int,Hid (R=({s with graves:=s.graves++[⟨d.place,d.cls,fin,zbe d.to [],[]⟩]},0))/\wc.heap[GB]?=some (.cells #[.string d.place,.int .i64 d.cls,.int .i64 (fin),.slice none 0 0,.slice none 0 0] 94)/\Below W0.heap.size W0 wc)
  case first=>
   by_cases hy:0<d.years
   ·have hr:=bI.o;have Dd:decide (0<d.years)=true:=by simpa using hy
    rw[Dd]at hr;simp only[Bool.true_and,if_true]at hr;go_upto_region 8 with(go_at_call 155;go_must(refine(AP.o _).mono ?_);rintro e wq ⟨rfl,z5,rfl⟩)
    obtain⟨W2,cI⟩:∃W2,W2=(W1.setCell ⟨GB,2,none⟩ (.int .i64 af)).ext z5:=⟨_,rfl⟩
    have gG2:W2.heap[GB]?=some (.cells #[.string d.place,.int .i64 d.cls,.int .i64 (af),.slice none 0 0,.slice none 0 0] 94):=by
     rw[cI];exact Mbw
    have bE:Below W0.heap.size W0 W2:=by rw[cI];exact zbg (zaM aC.o iL _) z5
    rw[<-cI];clear cI g0 g1 g2 g3 g4 gf gl;clear xs0 xd0 xr0 s0 s1 s2 s3 s4 s5 s6 d0 d1 d2 d3 d4 d5 d6 r0 r1 r2 r3 r4 r5 r6 rf ls ld lr;obtain⟨g0,g1,g2,g3,g4⟩:=zei gG2;have gl:=zab gG2;obtain⟨aD,G2⟩:=yH2 bE gG2;clear bE gG2;obtain⟨⟨xs0,xd0,xr0⟩,⟨s0,s1,s2,s3,s4,s5,s6⟩,⟨d0,d1,d2,d3,d4,d5,d6⟩,⟨r0,r1,r2,r3,r4,r5,r6⟩,rf,ls,ld,lr⟩:=ddF (aw.o W2 (aD.o));by_cases oB:af<0
    ·have HE:Hid (R=(s,2)):=by show _=_;rw[hr,if_pos (by simpa using oB)]
     clear hr;go_upto_region 9 with fail
     have bk:=aD.o;exact Mg
    ·have HE:Hid (R=({s with graves:=s.graves++[⟨d.place,d.cls,af,zbe d.to [],[]⟩]},0)):=by show _=_;rw[hr,if_neg (by simpa using oB)]
     clear hr;go_wp2_with fail
     go_meet
     exact⟨by first|rfl|trivial,af,HE,G2.o,aD.o⟩
   ·have hr:=bI.o;have Dd:decide (0<d.years)=false:=by simpa using hy
    rw[Dd]at hr;simp only[Bool.false_and,Bool.false_eq_true,if_false]at hr;have HE:=zHi hr;clear hr;go_wp2_with fail
    go_meet
    exact⟨by first|rfl|trivial,-1,HE,GG.o,aC.o⟩
  case rest=>
   obtain⟨_,fin,HE,gG2,bE⟩:=hcut;obtain⟨W2,cI⟩:∃W2,W2=wc:=⟨_,rfl⟩
   subst cI;have aD:=zHi bE;have kV:=bE.size;have gT:=zHi gG2
   have oY:GrSt [] (zan d.to):=⟨⟨List.Pairwise.nil,by simp⟩,by simp,by show(0:Rat)+_<=1;have:=jE.o.2.1;grind,fun p hp=>by
    obtain⟨q,hq,rfl⟩:=List.mem_map.1 hp;have:=(jE.o.1 q hq).1;show 0<=q.rat;grind,fun p hp=>by
    obtain⟨q,hq,rfl⟩:=List.mem_map.1 hp
    exact(jE.o.1 q hq).2.1⟩
   have BP:=zHi oY;clear g0 g1 g2 g3 g4 gf gl bE gG2 oY;clear xs0 xd0 xr0 s0 s1 s2 s3 s4 s5 s6 d0 d1 d2 d3 d4 d5 d6 r0 r1 r2 r3 r4 r5 r6 rf ls ld lr;go_upto_region 11 with fail
   go_loopw [7] (fun n wr=>∃(k:Nat) (out:Parts) (VA:Option Addr) (vc:Nat),k<=d.to.length/\n=.int .i64 k/\Hid (R=({s with graves:=s.graves++[⟨d.place,d.cls,fin,zbe (d.to.drop k) out,[]⟩]},0))/\Hid (GrSt out (zan (d.to.drop k)))/\out.length<=k/\OwnS wr W0.heap.size 64 3 zaa (.slice VA out.length vc) out/\wr.heap[GB]?=some (.cells #[.string d.place,.int .i64 d.cls,.int .i64 (fin),.slice VA out.length vc,.slice none 0 0] 94)/\Below W0.heap.size W0 wr) (fun n _=>d.to.length-(intOf n).toNat)
   case atStart=>exact⟨0,[],none,0,Nat.zero_le _,rfl,HE,BP,Nat.le_refl _,OwnS.nil,gT.o,aD.o⟩
   case round=>
    obtain⟨k,out,VA,vc,hk,rfl,HX,HG,kv,aa,iu,cB⟩:=hrel;have uA:=cB.size;obtain⟨g0,g1,g2,g3,g4⟩:=zei iu;have gl:=zab iu;obtain⟨bA,HO,eh⟩:=yH3 cB aa iu;obtain⟨⟨xs0,xd0,xr0⟩,⟨s0,s1,s2,s3,s4,s5,s6⟩,⟨d0,d1,d2,d3,d4,d5,d6⟩,⟨r0,r1,r2,r3,r4,r5,r6⟩,rf,ls,ld,lr⟩:=ddF (aw.o wr (cB));have vT:=zHi (HS.o wr (aj.o.trans (cB.mono au)));by_cases ae:k<d.to.length
    ·obtain⟨b,off,hA,hb,ah⟩:=vT.o.at ae;have hx:=HX.o;have ao:=HG.o;have gJ:d.to.drop k=d.to[k]::d.to.drop (k+1):=List.drop_eq_getElem_cons ae;rw[gJ]at hx ao;have bQ:=(jE.o.1 _ (List.getElem_mem ae)).2.2;have am:=zHi ae;clear gJ;generalize d.to[k]=y at*;obtain⟨nm,nu,de⟩:=y;have eJ:R=({s with graves:=s.graves++[⟨d.place,d.cls,fin,zbe (d.to.drop (k+1)) (za3 out nm (Rat.divInt nu de)),[]⟩]},0):=hx;have da:GrSt out ((nm,Rat.divInt nu de)::zan (d.to.drop (k+1))):=ao;simp only at bQ;have i0:wr.cell? ⟨b,off+k*3,none⟩=some (.string nm):=ah 0 _ rfl;have i1:wr.cell? ⟨b,off+k*3+1,none⟩=some (.int .i64 nu):=ah 1 _ rfl;have i2:wr.cell? ⟨b,off+k*3+2,none⟩=some (.int .i64 de):=ah 2 _ rfl;have ar:(k:Int)<(d.to.length:Int):=Mcu;have aT:(0:Int)<=(k:Int):=Mcu;obtain⟨r1,r2,r3,r4⟩:=zbp bQ;have ez:=zHi (fun W (hW:Below wr.heap.size wr W)=>zcZ out nm (Rat.divInt nu de) VA vc W Mcu da.parts da.small (ziT zam (HO.o.keep hW)).1);unfold zaA at ez;rw[r1,r2]at ez;obtain⟨jV,av⟩:=yH2 da.next eJ;have cq:=zc1 nm (Rat.divInt nu de) out;rw[hA]at d4
     have aA:=zHi (fun(W:World) (h:Below wr.heap.size wr W)=>(show W.cell? ⟨w.heap.size+1,4,none⟩=some (.slice (some ⟨b,off,none⟩) d.to.length c)/\W.cell? ⟨GB,3,none⟩=some (.slice VA out.length vc)/\W.cell? ⟨b,off+k*3,none⟩=some (.string nm)/\W.cell? ⟨b,off+k*3+1,none⟩=some (.int .i64 nu)/\W.cell? ⟨b,off+k*3+2,none⟩=some (.int .i64 de) from⟨(zah h ld).trans d4,(zah h gl).trans g3,(zah h hb).trans i0,(zah h hb).trans i1,(zah h hb).trans i2⟩));clear ah hx ao eJ da bQ ae r1 r2 r3 r4 aa iu hA;generalize za3 out nm (Rat.divInt nu de)=out1 at*;go_upto_region 13 with fail
     refine za7 14 (fun bb w'=>bb=true\/(w'.cell? ⟨w.heap.size+1,4,none⟩=some (.slice (some ⟨b,off,none⟩) d.to.length c)/\w'.cell? ⟨GB,3,none⟩=some (.slice VA out.length vc)/\w'.cell? ⟨b,off+k*3,none⟩=some (.string nm)/\w'.cell? ⟨b,off+k*3+1,none⟩=some (.int .i64 nu)/\w'.cell? ⟨b,off+k*3+2,none⟩=some (.int .i64 de))) Mcv (.inr (aA.o _ (zaE (Below.refl _ _)))) ?hrest
     case hrest=>
      intro hHeld;clear g0 g1 g2 g3 g4 i0 i1 i2;clear xs0 xd0 xr0 s0 s1 s2 s3 s4 s5 s6 d0 d1 d2 d3 d4 d5 d6 r0 r1 r2 r3 r4 r5 r6 rf ls ld lr;refine TkM 0 ?_;refine TkM 1 ?_;refine TkM 2 ?_;refine TkM 3 ?_;refine TkM 4 ?_;refine TkM 5 ?_;refine TkM 6 ?_;refine TkM 7 ?_;refine TkM 8 ?_;refine TkM 9 ?_;refine TkM 10 ?_;refine TkM 11 ?_;refine TkM 12 ?_;refine TkM 13 ?_;refine OnM 14 true fun K hK=>?_
      go_simp
      refine(ez.o _ (zaE (Below.refl _ _))).mono ?_;rintro e w5 ⟨v5,rfl,o5,b5⟩;obtain⟨YA,yc,rfl,_,_⟩:=o5.sl zam;have aq:Below wr.heap.size wr w5:=(zaE (Below.refl _ _)).trans b5;have g5:=(aq.block GB gl).trans eh.o;refine NxM hK fun hHeld=>?_
      clear hK K;refine OnM 15 true fun K hK=>?_
      go_simp
      refine NxM hK fun hHeld=>?_
      clear hK K;obtain⟨g0,g1,g2,g3,g4⟩:=zei g5;have gf:=frz g5;have gl5:=zab g5;refine OnM 16 true fun K hK=>?_
      go_simp
      refine NxM hK fun hHeld=>?_
      clear hK K;refine zaG Mcv ?_ _;obtain⟨O5,G5,bo⟩:=yH3 (o5.base_le (show W0.heap.size<=wr.drew.heap.size by show W0.heap.size<=wr.heap.size;omega)) g5 (bA.o.trans (aq.mono uA));clear hHeld g0 g1 g2 g3 g4 gf gl5 g5 o5 b5 aq;go_wp2_with fail
      go_round
      case rel=>
       refine⟨k+1,out1,YA,yc,am.o,by go_num,av,jV,by omega,O5.o.kept (zav _ _ _ _) G5.o Mcw,?_,zaM bo.o iL _⟩;have:=Joins.block_setCell (i:=3) G5.o (.slice YA out1.length yc);simpa using this
      case measure=>have:=am.o;simp only[intOf];omega
    ·have ar:¬(k:Int)<(d.to.length:Int):=Mcu;have hx:=HX.o;rw[List.drop_of_length_le Mcu]at hx;have uY:Hid (R=({s with graves:=s.graves++[⟨d.place,d.cls,fin,out,[]⟩]},0)):=Md6;have KC:=HF.o.graves;clear hx ae aa iu;go_upto_region 14 with fail
     clear ar;obtain⟨WX,kg⟩:∃WX,WX=wr:=⟨_,rfl⟩
     subst kg;have f9:=bA.o.size;have br:Hid (s.graves.length=(gxs).length):=zHi (by rw[<-HM.o,List.length_map]);have tP:Hid ((gxs).length<=1000):=zHi (by rw[<-br.o];exact HF.o.graves);have bL:=zHi (fun W (hB:Below WX.heap.size WX W)=>Bg.o.keep (aj.o.trans ((bA.o.trans (hB.mono f9)).mono au)));have aA:=zHi (fun(W:World) (h:Below WX.heap.size WX W)=>(show W.cell? ⟨w.heap.size,6,none⟩=some (.slice GA s.graves.length c6)/\W.cell? ⟨GB,0,none⟩=some (.string d.place)/\W.cell? ⟨GB,1,none⟩=some (.int .i64 d.cls)/\W.cell? ⟨GB,2,none⟩=some (.int .i64 fin)/\W.cell? ⟨GB,3,none⟩=some (.slice VA out.length vc)/\W.cell? ⟨GB,4,none⟩=some (.slice none 0 0) from⟨(zah h ls).trans s6,(zah h gl).trans g0,(zah h gl).trans g1,(zah h gl).trans g2,(zah h gl).trans g3,(zah h gl).trans g4⟩));clear g0 g1 g2 g3 g4;go_cut [5]from 62 to 70 (fun v wc=>(v=v/\∃V c',wc.heap[w.heap.size]?=some (.cells #[.slice LA laws.length c0,.slice CA s.children.length c1,.slice MA s.marriages.length c2,.slice DA s.dead.length c3,.slice WA wd.length c4,.slice RA rd.length c5,.slice V (s.graves.length+1) c'] 44)/\wc.heap[w.heap.size+2]?=some (.cells #[.slice none 0 0,.slice none 0 0,.slice none 0 0,.slice none 0 0,.slice none 0 0,.slice none 0 0,.slice none 0 0] 44)/\Ro wc 94 GX.cells V (gxs++[(⟨⟨d.place,d.cls,fin,out,[]⟩,VA,vc,none,0⟩:GX)])/\Below w.heap.size w wc)/\Ro wc 64 zaa VA out)
     case first=>
      refine za7 6 (fun bb w'=>bb=true\/(w'.cell? ⟨w.heap.size,6,none⟩=some (.slice GA s.graves.length c6)/\w'.cell? ⟨GB,0,none⟩=some (.string d.place)/\w'.cell? ⟨GB,1,none⟩=some (.int .i64 d.cls)/\w'.cell? ⟨GB,2,none⟩=some (.int .i64 fin)/\w'.cell? ⟨GB,3,none⟩=some (.slice VA out.length vc)/\w'.cell? ⟨GB,4,none⟩=some (.slice none 0 0))) Mcv (.inr (aA.o _ (zaE (Below.refl _ _)))) ?hrest
      case hrest=>
       intro hHeld;clear xs0 xd0 xr0 s0 s1 s2 s3 s4 s5 s6 d0 d1 d2 d3 d4 d5 d6 r0 r1 r2 r3 r4 r5 r6 rf ls ld lr;refine TkM 1 ?_;refine TkM 2 ?_;refine TkM 4 ?_;refine TwM 0 5 (fun K hK=>?_) fun K hK=>?_
       ·go_simp
        have e0:Below WX.heap.size WX (WX.drew.alloc (.cells #[] 94)):=zac (zaE (Below.refl _ _)) _;have m0:OwnS (WX.drew.alloc (.cells #[] 94)) WX.heap.size 94 5 GX.cells (.slice (some ⟨WX.heap.size,0,none⟩) 0 0) []:=zec zda WX.drew WX.heap.size (Nat.le_refl _);refine NxM hK (fun hHeld=>?_) (.inr (aA.o _ e0));clear hK K;refine TwM 3 5 (fun K hK=>?_) fun K hK=>?_
        ·refine zak (v:=.slice (some ⟨WX.heap.size,0,none⟩) 0 0) (n:=0) (m:=s.graves.length) rfl _ _ rfl zhn zda zkd rfl (xs:=[]) (ys:=gxs) (m0) rfl rfl br.o (bL.o _ e0) McC McO McF ?_;intro v4 w4 h1 h2 h3;rw[List.nil_append]at h1;obtain⟨V4,c4',aZ,_,_⟩:=h1.sl zda;rw[<-br.o]at aZ;subst aZ;have aB:Below WX.heap.size WX w4:=Below.grown e0 h2 Mdt (fun j hj=>by simp[za5]at hj;omega);refine NxM hK (fun hHeld=>?_) (.inr (aA.o _ aB));clear hK K;refine OnM 5 false fun K hK=>?_
         go_simp
         have e1:Below WX.heap.size WX (w4.alloc (.cells #[.string d.place,.int .i64 d.cls,.int .i64 fin,.slice VA out.length vc,.slice none 0 0] 94)):=zac aB _;have n1:(w4.alloc (.cells #[.string d.place,.int .i64 d.cls,.int .i64 fin,.slice VA out.length vc,.slice none 0 0] 94)).heap[w4.heap.size]?=some (.cells #[.string d.place,.int .i64 d.cls,.int .i64 fin,.slice VA out.length vc,.slice none 0 0] 94):=zaq _ _ _ rfl;have o1:OwnS (w4.alloc (.cells #[.string d.place,.int .i64 d.cls,.int .i64 fin,.slice VA out.length vc,.slice none 0 0] 94)) WX.heap.size 94 5 GX.cells (.slice V4 s.graves.length c4') gxs:=h1.keep (n:=w4.heap.size) (zac (Below.refl _ _) _);refine NxM hK (fun hHeld=>?_) (.inr (aA.o _ e1));clear hK K;have o9:=o1;have n9:=n1;have e9:=e1;exact Mk
        ·go_simp
         have e1:Below WX.heap.size WX ((WX.drew.alloc (.cells #[] 94)).alloc (.cells #[.string d.place,.int .i64 d.cls,.int .i64 fin,.slice VA out.length vc,.slice none 0 0] 94)):=zac e0 _;have n1:((WX.drew.alloc (.cells #[] 94)).alloc (.cells #[.string d.place,.int .i64 d.cls,.int .i64 fin,.slice VA out.length vc,.slice none 0 0] 94)).heap[WX.heap.size+1]?=some (.cells #[.string d.place,.int .i64 d.cls,.int .i64 fin,.slice VA out.length vc,.slice none 0 0] 94):=zaq _ _ _ Mcx;have m1:OwnS ((WX.drew.alloc (.cells #[] 94)).alloc (.cells #[.string d.place,.int .i64 d.cls,.int .i64 fin,.slice VA out.length vc,.slice none 0 0] 94)) WX.heap.size 94 5 GX.cells (.slice (some ⟨WX.heap.size,0,none⟩) 0 0) []:=m0.keep (n:=(WX.drew.alloc (.cells #[] 94)).heap.size) (zac (Below.refl _ _) _);refine NxM hK (fun hHeld=>?_) (.inr (aA.o _ e1));clear hK K;refine OnM 3 false fun K hK=>?_
         refine zak (v:=.slice (some ⟨WX.heap.size,0,none⟩) 0 0) (n:=0) (m:=s.graves.length) rfl _ _ rfl zhn zda zkd rfl (xs:=[]) (ys:=gxs) (m1) rfl rfl br.o (bL.o _ e1) McC McO McB ?_;intro v4 w4 h1 h2 h3;rw[List.nil_append]at h1;obtain⟨V4,c4',aZ,_,_⟩:=h1.sl zda;rw[<-br.o]at aZ;subst aZ;have aB:Below WX.heap.size WX w4:=Below.grown e1 h2 McR (fun j hj=>by simp[za5]at hj;omega);have n2:w4.heap[WX.heap.size+1]?=some (.cells #[.string d.place,.int .i64 d.cls,.int .i64 fin,.slice VA out.length vc,.slice none 0 0] 94):=(h2.block _ McM Mdj).trans n1;exact Mcc
       ·go_simp
        have e0:Below WX.heap.size WX (WX.drew.alloc (.cells #[.string d.place,.int .i64 d.cls,.int .i64 fin,.slice VA out.length vc,.slice none 0 0] 94)):=zac (zaE (Below.refl _ _)) _;have n0:(WX.drew.alloc (.cells #[.string d.place,.int .i64 d.cls,.int .i64 fin,.slice VA out.length vc,.slice none 0 0] 94)).heap[WX.heap.size]?=some (.cells #[.string d.place,.int .i64 d.cls,.int .i64 fin,.slice VA out.length vc,.slice none 0 0] 94):=zaq _ _ _ rfl;refine NxM hK (fun hHeld=>?_) (.inr (aA.o _ e0));clear hK K;refine OnM 0 false fun K hK=>?_
        go_simp
        have e1:Below WX.heap.size WX ((WX.drew.alloc (.cells #[.string d.place,.int .i64 d.cls,.int .i64 fin,.slice VA out.length vc,.slice none 0 0] 94)).alloc (.cells #[] 94)):=zac e0 _;have n1:((WX.drew.alloc (.cells #[.string d.place,.int .i64 d.cls,.int .i64 fin,.slice VA out.length vc,.slice none 0 0] 94)).alloc (.cells #[] 94)).heap[WX.heap.size]?=some (.cells #[.string d.place,.int .i64 d.cls,.int .i64 fin,.slice VA out.length vc,.slice none 0 0] 94):=zal n0;have m1:OwnS ((WX.drew.alloc (.cells #[.string d.place,.int .i64 d.cls,.int .i64 fin,.slice VA out.length vc,.slice none 0 0] 94)).alloc (.cells #[] 94)) WX.heap.size 94 5 GX.cells (.slice (some ⟨WX.heap.size+1,0,none⟩) 0 0) []:=by
         have:=zec (t:=94) zda (WX.drew.alloc (.cells #[.string d.place,.int .i64 d.cls,.int .i64 fin,.slice VA out.length vc,.slice none 0 0] 94)) WX.heap.size Mcx;simpa using this
        refine NxM hK (fun hHeld=>?_) (.inr (aA.o _ e1));clear hK K;refine OnM 3 false fun K hK=>?_
        refine zak (v:=.slice (some ⟨WX.heap.size+1,0,none⟩) 0 0) (n:=0) (m:=s.graves.length) rfl _ _ rfl zhn zda zkd rfl (xs:=[]) (ys:=gxs) (m1) rfl rfl br.o (bL.o _ e1) McC McO McB ?_;intro v4 w4 h1 h2 h3;rw[List.nil_append]at h1;obtain⟨V4,c4',aZ,_,_⟩:=h1.sl zda;rw[<-br.o]at aZ;subst aZ;have aB:Below WX.heap.size WX w4:=Below.grown e1 h2 McR (fun j hj=>by simp[za5]at hj;omega);have n2:w4.heap[WX.heap.size]?=some (.cells #[.string d.place,.int .i64 d.cls,.int .i64 fin,.slice VA out.length vc,.slice none 0 0] 94):=(h2.block _ McM Mdj).trans n1;exact Mcc
     case rest=>
      obtain⟨⟨_,V,c',eI,cy,dZ,ov⟩,oX⟩:=hcut;clear xs0 xd0 xr0 s0 s1 s2 s3 s4 s5 s6 d0 d1 d2 d3 d4 d5 d6 r0 r1 r2 r3 r4 r5 r6 rf ls ld lr;obtain⟨s0,s1,s2,s3,s4,s5,s6⟩:=zaH eI;obtain⟨r0,r1,r2,r3,r4,r5,r6⟩:=zaH cy;have rf:=frz cy;have ls:=zab eI;have lr:=zab cy;go_wp2_with fail
      rw[uY.o];have du:=zcD (a0:=.slice LA laws.length c0) (a1:=.slice CA s.children.length c1) (a2:=.slice MA s.marriages.length c2) (a3:=.slice DA s.dead.length c3) (a4:=.slice WA wd.length c4) (a5:=.slice RA rd.length c5) (a6:=.slice V (s.graves.length+1) c') ov (show w.heap.size<=w.heap.size+2 by omega);refine bodyPost_ret (zbG rfl _ rfl rfl (zc2 cy)) rfl ?_;have h':=H.o _ du;refine⟨_,_,_,_,_,_,_,rfl,rfl,du,fun _=>⟨wd,rd,LA,CA,MA,DA,WA,RA,V,c0,c1,c2,c3,c4,c5,c',rfl,rfl,rfl,rfl,rfl,rfl,by rw[List.length_append];rfl,⟨h'.laws,h'.kids,h'.marr,h'.dead,h'.wills,h'.ren,?_,h'.deadc⟩,⟨HK.o.wills,HK.o.shares,HK.o.ren,HK.o.tos⟩⟩⟩;refine slw_gx ((zji dZ cy Mcw).sl zda) (by rw[List.map_append,HM.o];rfl) fun x hx=>?_
      rcases List.mem_append.1 hx with hx|hx
      ·exact(dr.o x hx).keep du
      ·rw[List.mem_singleton.1 hx];exact⟨(zji oX cy Mcw).sl zam,Sl.nil⟩
structure OffS (b:Nat) (W W':World):Prop where
 blk:∃cs t fr,W.heap[b]?=some (.cells cs t fr)/\∀(j:Nat) (u:Value),cs[j]?=some u->zcH u=true
 same:∀g,g≠b->W'.heap[g]?=W.heap[g]?
section
variable {b:Nat} {W W':World}
theorem OffS.ne(h:OffS b W W'){g i:Nat}{u:Value}(hc:W.cell? ⟨g,i,none⟩=some u)(hu:zcH u=false):g≠b:=by
 rintro rfl;obtain⟨cs,t,fr,h1,h2⟩:=h.blk;simp only[World.cell?,h1]at hc;have:=h2 i u MdY;rw[hu]at this;cases this
theorem OffS.cell(h:OffS b W W'){g i:Nat}(hg:g≠b):W'.cell? ⟨g,i,none⟩=W.cell? ⟨g,i,none⟩:=by simp only[World.cell?,h.same g hg]
theorem OffS.lt(h:OffS b W W'){g:Nat}(hg:g≠b)(hl:g<W.heap.size):g<W'.heap.size:=by
 have:=h.same g hg;rw[Array.getElem?_eq_getElem hl]at this;exact(Array.getElem?_eq_some_iff.1 this).1
theorem OffS.sl(h:OffS b W W'){α:Type}{size:Nat}{f:α->List Value}{A:Option Addr}{xs:List α}(h0:∀x,∃u,(f x)[0]?=some u/\zcH u=false)(hS:Sl W size f A xs):Sl W' size f A xs:=fun hl=>by
 obtain⟨g,off,hA,hg,hc⟩:=hS hl;obtain⟨u,hu,hs⟩:=h0 xs[0];have dj:=h.ne (hc 0 _ (List.getElem?_eq_getElem hl) 0 u hu) hs;exact⟨g,off,hA,h.lt dj hg,fun k x hk j v hv=>(h.cell dj).trans (hc k x hk j v hv)⟩
theorem OffS.slw(h:OffS b W W'){α:Type}{size:Nat}{R:World->α->List Value->Prop}{A:Option Addr}{xs:List α}(h0:∀x cs,R W x cs->R W' x cs/\∃u,cs[0]?=some u/\zcH u=false)(hS:SlW W size R A xs):SlW W' size R A xs:=fun hl=>by
 obtain⟨g,off,hA,hg,hc⟩:=hS hl;obtain⟨cs,hr,ah⟩:=hc 0 _ (List.getElem?_eq_getElem hl);obtain⟨_,u,hu,hs⟩:=h0 _ _ hr;have dj:=h.ne (ah 0 u hu) hs;refine⟨g,off,hA,h.lt dj hg,fun k x hk=>?_⟩;obtain⟨cs,hr,ah⟩:=hc k x hk;exact⟨cs,(h0 _ _ hr).1,fun j v hv=>(h.cell dj).trans (ah j v hv)⟩
theorem OffS.st(h:OffS b W W'){laws:List Law}{s:St}{a0 a1 a2 a3 a4 a5 a6:Value}(hS:StAt W laws s a0 a1 a2 a3 a4 a5 a6):StAt W' laws s a0 a1 a2 a3 a4 a5 a6:=by
 obtain⟨wd,rd,LA,CA,MA,DA,WA,RA,GA,c0,c1,c2,c3,c4,c5,c6,e0,e1,e2,e3,e4,e5,e6,hI,hL⟩:=hS;have hd:∀x cs,zfE W x cs->zfE W' x cs/\∃u,cs[0]?=some u/\zcH u=false:=by
  rintro x cs ⟨B,c,h1,rfl,h3⟩;exact⟨⟨B,c,h1,rfl,h.sl (fun p=>⟨_,rfl,rfl⟩) h3⟩,_,rfl,rfl⟩
 have hg:∀x cs,zhZ W x cs->zhZ W' x cs/\∃u,cs[0]?=some u/\zcH u=false:=by
  rintro x cs ⟨H,hc,D,dc,rfl,h1,h2⟩;exact⟨⟨H,hc,D,dc,rfl,h.sl (fun p=>⟨_,rfl,rfl⟩) h1,h.sl (fun p=>⟨_,rfl,rfl⟩) h2⟩,_,rfl,rfl⟩
 exact⟨wd,rd,LA,CA,MA,DA,WA,RA,GA,c0,c1,c2,c3,c4,c5,c6,e0,e1,e2,e3,e4,e5,e6,
  ⟨h.sl (fun p=>⟨_,rfl,rfl⟩) hI.laws,h.sl (fun p=>⟨_,rfl,rfl⟩) hI.kids,h.sl (fun p=>⟨_,rfl,rfl⟩) hI.marr,h.sl (fun p=>⟨_,rfl,rfl⟩) hI.dead,h.slw hd hI.wills,h.slw hd hI.ren,h.slw hg hI.graves,hI.deadc⟩,hL⟩
theorem zc6{x0 x1 x2 x3 x4 x5 x6 a0 a1 a2 a3 a4 a5 a6:Value}{t:TypeId}{fr:Nat×Nat}(hb:W.heap[b]?=some (.cells #[x0,x1,x2,x3,x4,x5,x6] t fr))(hx:([x0,x1,x2,x3,x4,x5,x6].all zcH)=true):
 OffS b W (((((((W.setCell ⟨b,0,none⟩ a0).setCell ⟨b,1,none⟩ a1).setCell ⟨b,2,none⟩ a2).setCell ⟨b,3,none⟩ a3).setCell ⟨b,4,none⟩ a4).setCell ⟨b,5,none⟩ a5).setCell ⟨b,6,none⟩ a6):=by
 refine⟨⟨_,t,fr,hb,fun j u hu=>?_⟩,fun g hg=>?_⟩
 ·rw[List.all_eq_true]at hx;refine hx u ?_;have:=Array.mem_of_getElem? hu;simpa using this
 ·cases hc:W.heap[g]? with
  |some o=>exact J_ne hg (J_ne hg (J_ne hg (J_ne hg (J_ne hg (J_ne hg (J_ne hg hc))))))
  |none=>
   have hs:W.heap.size<=g:=MdY;rw[Array.getElem?_eq_none];simp;exact hs
end
theorem StAt.keep{W W':World}{laws:List Law}{s:St}{a0 a1 a2 a3 a4 a5 a6:Value}(h:StAt W laws s a0 a1 a2 a3 a4 a5 a6)(hB:Below W.heap.size W W'):StAt W' laws s a0 a1 a2 a3 a4 a5 a6:=by
 obtain⟨wd,rd,LA,CA,MA,DA,WA,RA,GA,c0,c1,c2,c3,c4,c5,c6,e0,e1,e2,e3,e4,e5,e6,hI,hL⟩:=h;exact⟨wd,rd,LA,CA,MA,DA,WA,RA,GA,c0,c1,c2,c3,c4,c5,c6,e0,e1,e2,e3,e4,e5,e6,hI.keep hB,hL⟩
def zkX(w:World)(laws:List Law)(R:St×Int)(e:Ending)(w':World):Prop:=
 ∃a0 a1 a2 a3 a4 a5 a6 b,e=.returned (.tuple #[.agg #[a0,a1,a2,a3,a4,a5,a6],.bool b])/\([a0,a1,a2,a3,a4,a5,a6].all zcH)=true/\Below w.heap.size w w'/\((b=true/\R.2=0/\StAt w' laws R.1 a0 a1 a2 a3 a4 a5 a6)\/(b=false/\R.2=8))
def zp2(laws:List Law)(s:St)(n:ByteArray)(day:Int):St×Int:=match zb2 s n day (zcP s (zbc laws day) n) 0 s.graves with
 |none=>(s,8)
 |some gs=>({s with graves:=gs,dead:=s.dead++[n]},0)
theorem rTake_of(laws:List Law)(s:St)(wd rd:List Deed)(LA CA MA DA WA RA GA:Option Addr)(c0 c1 c2 c3 c4 c5 c6:Nat)(d:Deed)(B:Option Addr)(c:Nat)(w:World)(h:StIn w laws s wd rd LA CA MA DA WA RA GA c0 c1 c2 c3 c4 c5 c6)(hk:StLink s wd rd)(hf:StFew s wd rd)(hd:OkD d)(hS:Sl w 3 RPart.cells B d.to)(ax:d.to.length<=c)(aW:∀g∈s.graves,GoodG g/\g.holders.length<=50000)(bN:∀g∈s.graves,g.fin<=200000)
 (iq:∀W,Below w.heap.size w W->Calls Tryz.prog 136 #[.agg #[.slice LA laws.length c0,.slice CA s.children.length c1,.slice MA s.marriages.length c2,.slice DA s.dead.length c3,.slice WA wd.length c4,.slice RA rd.length c5,.slice GA s.graves.length c6],.string d.frm,.int .i64 d.day] W (zkX W laws (zp2 laws s d.frm d.day))):Calls Tryz.prog 97 #[.agg #[.slice LA laws.length c0,.slice CA s.children.length c1,.slice MA s.marriages.length c2,.slice DA s.dead.length c3,.slice WA wd.length c4,.slice RA rd.length c5,.slice GA s.graves.length c6],d.v B c] w (zfJ w laws (zbr laws s d)):=by
 obtain⟨R,hR⟩:∃R,R=zbr laws s d:=⟨_,rfl⟩
 rw[<-hR];unfold zbr at hR;obtain⟨eh,qz,zE,lF⟩:=yH4 aW bN iq ax;obtain⟨dvs,xt,xu,sk⟩:=dv_of h.wills;obtain⟨zG,tC,qt⟩:=yH3 xt xu sk;clear aW bN iq ax xt xu sk;obtain⟨H,HK,HF,HD,HS,HR⟩:=yH6 (fun W (hB:Below w.heap.size w W)=>h.keep hB) hk hf hd (fun W (hB:Below w.heap.size w W)=>hS.keep hB) hR;unfold Deed.v;clear h hk hf hd hS hR;go_enter Tryz.func97,Tryz.ntmps97
 go_upto_region 1 with fail
 generalize ak:World.alloc (World.alloc (World.alloc w _) _) _=W0;obtain⟨aj,aw⟩:=zeR ak;clear ak;have au:=aj.o.size;obtain⟨⟨xs0,xd0,xr0⟩,⟨s0,s1,s2,s3,s4,s5,s6⟩,⟨d0,d1,d2,d3,d4,d5,d6⟩,⟨r0,r1,r2,r3,r4,r5,r6⟩,rf,ls,ld,lr⟩:=ddF (aw.o W0 (Below.refl _ _));have hr:=HR.o;have hH:=H.o W0 aj.o;have pI:=HS.o W0 aj.o;go_upto_region 1 with fail
 by_cases h0:d.kind=0
 ·have k0:(d.kind==0)=true:=by simp[h0]
  have HT:=zHi (zp1 laws s wd rd LA CA MA DA WA RA GA c0 c1 c2 c3 c4 c5 c6 d B c W0 hH HK.o HF.o HD.o pI h0);have cW:R=zcT s d:=by rw[hr];simp[h0]
  rw[<-cW]at HT;unfold Deed.v at HT;clear hr h0 cW
  go_wp2_with (go_at_call 128
               go_must(refine(HT.o).mono ?_)
               rintro e w5 ⟨a0,a1,a2,a3,a4,a5,a6,rfl,aQ,aq,ao⟩;obtain⟨⟨_,_,_,rfl⟩,⟨_,_,_,rfl⟩,⟨_,_,_,rfl⟩,⟨_,_,_,rfl⟩,⟨_,_,_,rfl⟩,⟨_,_,_,rfl⟩,⟨_,_,_,rfl⟩⟩:=zct aQ;obtain⟨bo,aK⟩:=yH2 aq ao;obtain⟨_,_,xr5⟩:=aw.o w5 aq;obtain⟨t0,t1,t2,t3,t4,t5,t6⟩:=zaH xr5;have tf:=frz xr5
               clear aq ao aQ)
  exact Mv
 have k0:(d.kind==0)=false:=by simp[h0]
 by_cases h1:d.kind=1
 ·have k1:(d.kind==1)=true:=by simp[h1]
  have HT:=zHi (zkV laws s wd rd LA CA MA DA WA RA GA c0 c1 c2 c3 c4 c5 c6 d B c W0 hH HK.o HF.o HD.o pI h1 eh.o);have cW:R=zbs s d:=by rw[hr];simp[h1]
  rw[<-cW]at HT;unfold Deed.v at HT;clear hr h1 cW
  go_wp2_with (go_at_call 129
               go_must(refine(HT.o).mono ?_)
               rintro e w5 ⟨a0,a1,a2,a3,a4,a5,a6,rfl,aQ,aq,ao⟩;obtain⟨⟨_,_,_,rfl⟩,⟨_,_,_,rfl⟩,⟨_,_,_,rfl⟩,⟨_,_,_,rfl⟩,⟨_,_,_,rfl⟩,⟨_,_,_,rfl⟩,⟨_,_,_,rfl⟩⟩:=zct aQ;obtain⟨bo,aK⟩:=yH2 aq ao;obtain⟨_,_,xr5⟩:=aw.o w5 aq;obtain⟨t0,t1,t2,t3,t4,t5,t6⟩:=zaH xr5;have tf:=frz xr5
               clear aq ao aQ)
  exact Mv
 have k1:(d.kind==1)=false:=by simp[h1]
 by_cases h2:d.kind=2
 ·have k2:(d.kind==2)=true:=by simp[h2]
  have HT:=zHi (zj1 laws s wd rd LA CA MA DA WA RA GA c0 c1 c2 c3 c4 c5 c6 d B c W0 hH HK.o HF.o HD.o pI eh.o);have cW:R=zba s d:=by rw[hr];simp[h2]
  rw[<-cW]at HT;unfold Deed.v at HT;clear hr h2 cW
  go_wp2_with (go_at_call 130
               go_must(refine(HT.o).mono ?_)
               rintro e w5 ⟨a0,a1,a2,a3,a4,a5,a6,rfl,aQ,aq,ao⟩;obtain⟨⟨_,_,_,rfl⟩,⟨_,_,_,rfl⟩,⟨_,_,_,rfl⟩,⟨_,_,_,rfl⟩,⟨_,_,_,rfl⟩,⟨_,_,_,rfl⟩,⟨_,_,_,rfl⟩⟩:=zct aQ;obtain⟨bo,aK⟩:=yH2 aq ao;obtain⟨_,_,xr5⟩:=aw.o w5 aq;obtain⟨t0,t1,t2,t3,t4,t5,t6⟩:=zaH xr5;have tf:=frz xr5
               clear aq ao aQ)
  exact Mv
 have k2:(d.kind==2)=false:=by simp[h2]
 by_cases h3:d.kind=3
 ·have k3:(d.kind==3)=true:=by simp[h3]
  have HT:=zHi (zpw laws s wd rd LA CA MA DA WA RA GA c0 c1 c2 c3 c4 c5 c6 d B c W0 hH HK.o HF.o HD.o pI qz.o);have cW:R=zdf s d:=by rw[hr];simp[h3]
  rw[<-cW]at HT;unfold Deed.v at HT;clear hr h3 cW
  go_wp2_with (go_at_call 131
               go_must(refine(HT.o).mono ?_)
               rintro e w5 ⟨a0,a1,a2,a3,a4,a5,a6,rfl,aQ,aq,ao⟩;obtain⟨⟨_,_,_,rfl⟩,⟨_,_,_,rfl⟩,⟨_,_,_,rfl⟩,⟨_,_,_,rfl⟩,⟨_,_,_,rfl⟩,⟨_,_,_,rfl⟩,⟨_,_,_,rfl⟩⟩:=zct aQ;obtain⟨bo,aK⟩:=yH2 aq ao;obtain⟨_,_,xr5⟩:=aw.o w5 aq;obtain⟨t0,t1,t2,t3,t4,t5,t6⟩:=zaH xr5;have tf:=frz xr5
               clear aq ao aQ)
  exact Mv
 have k3:(d.kind==3)=false:=by simp[h3]
 by_cases h5:d.kind=5
 ·have k5:(d.kind==5)=true:=by simp[h5]
  have HT:=zHi (zkW laws s wd rd LA CA MA DA WA RA GA c0 c1 c2 c3 c4 c5 c6 d B c W0 hH HK.o HF.o HD.o pI h5 lF.o);have cW:R=zbD s d:=by rw[hr];simp[h5]
  rw[<-cW]at HT;unfold Deed.v at HT;clear hr h5 cW
  go_wp2_with (go_at_call 132
               go_must(refine(HT.o).mono ?_)
               rintro e w5 ⟨a0,a1,a2,a3,a4,a5,a6,rfl,aQ,aq,ao⟩;obtain⟨⟨_,_,_,rfl⟩,⟨_,_,_,rfl⟩,⟨_,_,_,rfl⟩,⟨_,_,_,rfl⟩,⟨_,_,_,rfl⟩,⟨_,_,_,rfl⟩,⟨_,_,_,rfl⟩⟩:=zct aQ;obtain⟨bo,aK⟩:=yH2 aq ao;obtain⟨_,_,xr5⟩:=aw.o w5 aq;obtain⟨t0,t1,t2,t3,t4,t5,t6⟩:=zaH xr5;have tf:=frz xr5
               clear aq ao aQ)
  exact Mv
 have k5:(d.kind==5)=false:=by simp[h5]
 by_cases h6:d.kind=6
 ·have k6:(d.kind==6)=true:=by simp[h6]
  have HT:=zHi (zp0 laws s wd rd LA CA MA DA WA RA GA c0 c1 c2 c3 c4 c5 c6 d B c W0 hH HK.o HF.o HD.o pI h6);have cW:R=zcI s d:=by rw[hr];simp[h6]
  rw[<-cW]at HT;unfold Deed.v at HT;clear hr h6 cW
  go_wp2_with (go_at_call 133
               go_must(refine(HT.o).mono ?_)
               rintro e w5 ⟨a0,a1,a2,a3,a4,a5,a6,rfl,aQ,aq,ao⟩;obtain⟨⟨_,_,_,rfl⟩,⟨_,_,_,rfl⟩,⟨_,_,_,rfl⟩,⟨_,_,_,rfl⟩,⟨_,_,_,rfl⟩,⟨_,_,_,rfl⟩,⟨_,_,_,rfl⟩⟩:=zct aQ;obtain⟨bo,aK⟩:=yH2 aq ao;obtain⟨_,_,xr5⟩:=aw.o w5 aq;obtain⟨t0,t1,t2,t3,t4,t5,t6⟩:=zaH xr5;have tf:=frz xr5
               clear aq ao aQ)
  exact Mv
 have k6:(d.kind==6)=false:=by simp[h6]
 by_cases h7:d.kind=7
 ·have k7:(d.kind==7)=true:=by simp[h7]
  have HT:=zHi (zpy laws s wd rd LA CA MA DA WA RA GA c0 c1 c2 c3 c4 c5 c6 d B c W0 hH HK.o HF.o HD.o pI h7);have cW:R=zdv s d:=by rw[hr];simp[h7]
  rw[<-cW]at HT;unfold Deed.v at HT;clear hr h7 cW
  go_wp2_with (go_at_call 134
               go_must(refine(HT.o).mono ?_)
               rintro e w5 ⟨a0,a1,a2,a3,a4,a5,a6,rfl,aQ,aq,ao⟩;obtain⟨⟨_,_,_,rfl⟩,⟨_,_,_,rfl⟩,⟨_,_,_,rfl⟩,⟨_,_,_,rfl⟩,⟨_,_,_,rfl⟩,⟨_,_,_,rfl⟩,⟨_,_,_,rfl⟩⟩:=zct aQ;obtain⟨bo,aK⟩:=yH2 aq ao;obtain⟨_,_,xr5⟩:=aw.o w5 aq;obtain⟨t0,t1,t2,t3,t4,t5,t6⟩:=zaH xr5;have tf:=frz xr5
               clear aq ao aQ)
  exact Mv
 have k7:(d.kind==7)=false:=by simp[h7]
 rw[k0,k1,k2,k3,k5,k6,k7]at hr;simp only[Bool.false_eq_true,if_false]at hr;have ic:=zHi (sDead d.frm W0 hH HF.o);clear pI hH;by_cases h4:d.kind=4
 ·have k4:(d.kind==4)=true:=by simp[h4]
  have IR:=zHi (zef (HD.o.parts (.inr (.inr h4))).2).1;rw[k4,if_pos rfl]at hr;unfold zgP at hr;clear h0 h1 h2 h3 h4 h5 h6 h7;cases cg:zaN s d.frm;rotate_left 1
  ·exact Mcs
  rw[cg,if_neg Mcx]at hr;rw[cg]at ic;have HE:=zHi hr;clear hr cg;go_upto_region 19 with(go_at_call 135;go_must(refine(ic.o).mono ?_);rintro e wq ⟨rfl,z,rfl⟩)
  obtain⟨WX,kg⟩:∃WX,WX=W0.ext z:=⟨_,rfl⟩
  have hJ:Below W0.heap.size W0 WX:=by rw[kg];exact zao _ _
  rw[<-kg];have bA:=zHi hJ;have f9:=hJ.size;clear kg hJ ic;clear xs0 xd0 xr0 s0 s1 s2 s3 s4 s5 s6 d0 d1 d2 d3 d4 d5 d6 r0 r1 r2 r3 r4 r5 r6 rf ls ld lr;obtain⟨⟨xs0,xd0,xr0⟩,⟨s0,s1,s2,s3,s4,s5,s6⟩,⟨d0,d1,d2,d3,d4,d5,d6⟩,⟨r0,r1,r2,r3,r4,r5,r6⟩,rf,ls,ld,lr⟩:=ddF (aw.o WX (bA.o));have LF:=HF.o.wills;have br:Hid (wd.length=(dvs).length):=zHi (by rw[<-zG.o,List.length_map]);have tP:Hid ((dvs).length<=1000):=zHi (by rw[<-br.o];exact HF.o.wills);have bL:=zHi (fun W (hB:Below WX.heap.size WX W)=>qt.o.keep (aj.o.trans ((bA.o.trans (hB.mono f9)).mono au)));have aA:=zHi (fun(W:World) (h:Below WX.heap.size WX W)=>(show W.cell? ⟨w.heap.size,4,none⟩=some (.slice WA wd.length c4)/\W.cell? ⟨w.heap.size+1,0,none⟩=some (.int .i64 d.kind)/\W.cell? ⟨w.heap.size+1,1,none⟩=some (.int .i64 d.day)/\W.cell? ⟨w.heap.size+1,2,none⟩=some (.string d.place)/\W.cell? ⟨w.heap.size+1,3,none⟩=some (.string d.frm)/\W.cell? ⟨w.heap.size+1,4,none⟩=some (.slice B d.to.length c)/\W.cell? ⟨w.heap.size+1,5,none⟩=some (.int .i64 d.cls)/\W.cell? ⟨w.heap.size+1,6,none⟩=some (.int .i64 d.years) from⟨(zah h ls).trans s4,(zah h ld).trans d0,(zah h ld).trans d1,(zah h ld).trans d2,(zah h ld).trans d3,(zah h ld).trans d4,(zah h ld).trans d5,(zah h ld).trans d6⟩))
  go_cut [5]from 67 to 75 (fun v wc=>v=v/\∃V c',wc.heap[w.heap.size]?=some (.cells #[.slice LA laws.length c0,.slice CA s.children.length c1,.slice MA s.marriages.length c2,.slice DA s.dead.length c3,.slice V (wd.length+1) c',.slice RA rd.length c5,.slice GA s.graves.length c6] 44)/\wc.heap[w.heap.size+2]?=some (.cells #[.slice none 0 0,.slice none 0 0,.slice none 0 0,.slice none 0 0,.slice none 0 0,.slice none 0 0,.slice none 0 0] 44)/\Ro wc 69 DV.cells V (dvs++[(⟨d,B,c⟩:DV)])/\Below w.heap.size w wc)
  case first=>
   refine za7 6 (fun bb w'=>bb=true\/(w'.cell? ⟨w.heap.size,4,none⟩=some (.slice WA wd.length c4)/\w'.cell? ⟨w.heap.size+1,0,none⟩=some (.int .i64 d.kind)/\w'.cell? ⟨w.heap.size+1,1,none⟩=some (.int .i64 d.day)/\w'.cell? ⟨w.heap.size+1,2,none⟩=some (.string d.place)/\w'.cell? ⟨w.heap.size+1,3,none⟩=some (.string d.frm)/\w'.cell? ⟨w.heap.size+1,4,none⟩=some (.slice B d.to.length c)/\w'.cell? ⟨w.heap.size+1,5,none⟩=some (.int .i64 d.cls)/\w'.cell? ⟨w.heap.size+1,6,none⟩=some (.int .i64 d.years))) Mcv (.inr (aA.o _ (zaE (Below.refl _ _)))) ?hrest
   case hrest=>
    intro hHeld;clear xs0 xd0 xr0 s0 s1 s2 s3 s4 s5 s6 d0 d1 d2 d3 d4 d5 d6 r0 r1 r2 r3 r4 r5 r6 rf ls ld lr;refine TkM 1 ?_;refine TkM 2 ?_;refine TkM 4 ?_;refine TwM 0 5 (fun K hK=>?_) fun K hK=>?_
    ·go_simp
     have e0:Below WX.heap.size WX (WX.drew.alloc (.cells #[] 69)):=zac (zaE (Below.refl _ _)) _;have m0:OwnS (WX.drew.alloc (.cells #[] 69)) WX.heap.size 69 7 DV.cells (.slice (some ⟨WX.heap.size,0,none⟩) 0 0) []:=zec zck WX.drew WX.heap.size (Nat.le_refl _);refine NxM hK (fun hHeld=>?_) (.inr (aA.o _ e0));clear hK K;refine TwM 3 5 (fun K hK=>?_) fun K hK=>?_
     ·refine zak (v:=.slice (some ⟨WX.heap.size,0,none⟩) 0 0) (n:=0) (m:=wd.length) rfl _ _ rfl zgw zck zgv rfl (xs:=[]) (ys:=dvs) (m0) rfl rfl br.o (bL.o _ e0) McC McO McF ?_;intro v4 w4 h1 h2 h3;rw[List.nil_append]at h1;obtain⟨V4,c4',aZ,_,_⟩:=h1.sl zck;rw[<-br.o]at aZ;subst aZ;have aB:Below WX.heap.size WX w4:=Below.grown e0 h2 Mdt (fun j hj=>by simp[za5]at hj;omega);refine NxM hK (fun hHeld=>?_) (.inr (aA.o _ aB));clear hK K;refine OnM 5 false fun K hK=>?_
      go_simp
      have e1:Below WX.heap.size WX (w4.alloc (.cells #[.int .i64 d.kind,.int .i64 d.day,.string d.place,.string d.frm,.slice B d.to.length c,.int .i64 d.cls,.int .i64 d.years] 69)):=zac aB _;have n1:(w4.alloc (.cells #[.int .i64 d.kind,.int .i64 d.day,.string d.place,.string d.frm,.slice B d.to.length c,.int .i64 d.cls,.int .i64 d.years] 69)).heap[w4.heap.size]?=some (.cells #[.int .i64 d.kind,.int .i64 d.day,.string d.place,.string d.frm,.slice B d.to.length c,.int .i64 d.cls,.int .i64 d.years] 69):=zaq _ _ _ rfl;have o1:OwnS (w4.alloc (.cells #[.int .i64 d.kind,.int .i64 d.day,.string d.place,.string d.frm,.slice B d.to.length c,.int .i64 d.cls,.int .i64 d.years] 69)) WX.heap.size 69 7 DV.cells (.slice V4 wd.length c4') dvs:=h1.keep (n:=w4.heap.size) (zac (Below.refl _ _) _);refine NxM hK (fun hHeld=>?_) (.inr (aA.o _ e1));clear hK K;have o9:=o1;have n9:=n1;have e9:=e1;exact Mp
     ·go_simp
      have e1:Below WX.heap.size WX ((WX.drew.alloc (.cells #[] 69)).alloc (.cells #[.int .i64 d.kind,.int .i64 d.day,.string d.place,.string d.frm,.slice B d.to.length c,.int .i64 d.cls,.int .i64 d.years] 69)):=zac e0 _;have n1:((WX.drew.alloc (.cells #[] 69)).alloc (.cells #[.int .i64 d.kind,.int .i64 d.day,.string d.place,.string d.frm,.slice B d.to.length c,.int .i64 d.cls,.int .i64 d.years] 69)).heap[WX.heap.size+1]?=some (.cells #[.int .i64 d.kind,.int .i64 d.day,.string d.place,.string d.frm,.slice B d.to.length c,.int .i64 d.cls,.int .i64 d.years] 69):=zaq _ _ _ Mcx;have m1:OwnS ((WX.drew.alloc (.cells #[] 69)).alloc (.cells #[.int .i64 d.kind,.int .i64 d.day,.string d.place,.string d.frm,.slice B d.to.length c,.int .i64 d.cls,.int .i64 d.years] 69)) WX.heap.size 69 7 DV.cells (.slice (some ⟨WX.heap.size,0,none⟩) 0 0) []:=m0.keep (n:=(WX.drew.alloc (.cells #[] 69)).heap.size) (zac (Below.refl _ _) _);refine NxM hK (fun hHeld=>?_) (.inr (aA.o _ e1));clear hK K;refine OnM 3 false fun K hK=>?_
      refine zak (v:=.slice (some ⟨WX.heap.size,0,none⟩) 0 0) (n:=0) (m:=wd.length) rfl _ _ rfl zgw zck zgv rfl (xs:=[]) (ys:=dvs) (m1) rfl rfl br.o (bL.o _ e1) McC McO McB ?_;intro v4 w4 h1 h2 h3;rw[List.nil_append]at h1;obtain⟨V4,c4',aZ,_,_⟩:=h1.sl zck;rw[<-br.o]at aZ;subst aZ;have aB:Below WX.heap.size WX w4:=Below.grown e1 h2 McR (fun j hj=>by simp[za5]at hj;omega);have n2:w4.heap[WX.heap.size+1]?=some (.cells #[.int .i64 d.kind,.int .i64 d.day,.string d.place,.string d.frm,.slice B d.to.length c,.int .i64 d.cls,.int .i64 d.years] 69):=(h2.block _ McM Mdj).trans n1;exact Mcf
    ·go_simp
     have e0:Below WX.heap.size WX (WX.drew.alloc (.cells #[.int .i64 d.kind,.int .i64 d.day,.string d.place,.string d.frm,.slice B d.to.length c,.int .i64 d.cls,.int .i64 d.years] 69)):=zac (zaE (Below.refl _ _)) _;have n0:(WX.drew.alloc (.cells #[.int .i64 d.kind,.int .i64 d.day,.string d.place,.string d.frm,.slice B d.to.length c,.int .i64 d.cls,.int .i64 d.years] 69)).heap[WX.heap.size]?=some (.cells #[.int .i64 d.kind,.int .i64 d.day,.string d.place,.string d.frm,.slice B d.to.length c,.int .i64 d.cls,.int .i64 d.years] 69):=zaq _ _ _ rfl;refine NxM hK (fun hHeld=>?_) (.inr (aA.o _ e0));clear hK K;refine OnM 0 false fun K hK=>?_
     go_simp
     have e1:Below WX.heap.size WX ((WX.drew.alloc (.cells #[.int .i64 d.kind,.int .i64 d.day,.string d.place,.string d.frm,.slice B d.to.length c,.int .i64 d.cls,.int .i64 d.years] 69)).alloc (.cells #[] 69)):=zac e0 _;have n1:((WX.drew.alloc (.cells #[.int .i64 d.kind,.int .i64 d.day,.string d.place,.string d.frm,.slice B d.to.length c,.int .i64 d.cls,.int .i64 d.years] 69)).alloc (.cells #[] 69)).heap[WX.heap.size]?=some (.cells #[.int .i64 d.kind,.int .i64 d.day,.string d.place,.string d.frm,.slice B d.to.length c,.int .i64 d.cls,.int .i64 d.years] 69):=zal n0;have m1:OwnS ((WX.drew.alloc (.cells #[.int .i64 d.kind,.int .i64 d.day,.string d.place,.string d.frm,.slice B d.to.length c,.int .i64 d.cls,.int .i64 d.years] 69)).alloc (.cells #[] 69)) WX.heap.size 69 7 DV.cells (.slice (some ⟨WX.heap.size+1,0,none⟩) 0 0) []:=by
      exact Maq
     refine NxM hK (fun hHeld=>?_) (.inr (aA.o _ e1));clear hK K;refine OnM 3 false fun K hK=>?_
     refine zak (v:=.slice (some ⟨WX.heap.size+1,0,none⟩) 0 0) (n:=0) (m:=wd.length) rfl _ _ rfl zgw zck zgv rfl (xs:=[]) (ys:=dvs) (m1) rfl rfl br.o (bL.o _ e1) McC McO McB ?_;intro v4 w4 h1 h2 h3;rw[List.nil_append]at h1;obtain⟨V4,c4',aZ,_,_⟩:=h1.sl zck;rw[<-br.o]at aZ;subst aZ;have aB:Below WX.heap.size WX w4:=Below.grown e1 h2 McR (fun j hj=>by simp[za5]at hj;omega);have n2:w4.heap[WX.heap.size]?=some (.cells #[.int .i64 d.kind,.int .i64 d.day,.string d.place,.string d.frm,.slice B d.to.length c,.int .i64 d.cls,.int .i64 d.years] 69):=(h2.block _ McM Mdj).trans n1;exact Mcf
  case rest=>
   obtain⟨_,V,c',eI,cy,dZ,ov⟩:=hcut;clear xs0 xd0 xr0 s0 s1 s2 s3 s4 s5 s6 d0 d1 d2 d3 d4 d5 d6 r0 r1 r2 r3 r4 r5 r6 rf ls ld lr;obtain⟨s0,s1,s2,s3,s4,s5,s6⟩:=zaH eI;obtain⟨r0,r1,r2,r3,r4,r5,r6⟩:=zaH cy;have rf:=frz cy;have ls:=zab eI;have lr:=zab cy;go_wp2_with fail
   rw[HE.o];have du:=zcD (a0:=.slice LA laws.length c0) (a1:=.slice CA s.children.length c1) (a2:=.slice MA s.marriages.length c2) (a3:=.slice DA s.dead.length c3) (a4:=.slice V (wd.length+1) c') (a5:=.slice RA rd.length c5) (a6:=.slice GA s.graves.length c6) ov (show w.heap.size<=w.heap.size+2 by omega);refine bodyPost_ret (zbG rfl _ rfl rfl (zc2 cy)) rfl ?_;have h':=H.o _ du;refine⟨_,_,_,_,_,_,_,rfl,rfl,du,fun _=>⟨wd++[d],rd,LA,CA,MA,DA,V,RA,GA,c0,c1,c2,c3,c',c5,c6,rfl,rfl,rfl,rfl,by rw[List.length_append];rfl,rfl,rfl,⟨h'.laws,h'.kids,h'.marr,h'.dead,?_,h'.ren,h'.graves,h'.deadc⟩,⟨?_,?_,HK.o.ren,HK.o.tos⟩⟩⟩
   ·exact Mac
   ·rw[List.map_append,<-HK.o.wills];rfl
   ·intro x hx;rcases List.mem_append.1 hx with hx|hx
    ·exact HK.o.shares x hx
    ·rw[List.mem_singleton.1 hx];exact fun p hp=>(IR.o p hp).2.2
 ·have k4:(d.kind==4)=false:=by simp[h4]
  rw[k4]at hr;simp only[Bool.false_eq_true,if_false]at hr;unfold zdQ at hr;clear h0 h1 h2 h3 h4 h5 h6 h7;cases cg:zaN s d.frm;rotate_left 1
  ·exact Mcs
  rw[cg,if_neg Mcx]at hr;rw[cg]at ic;have cW:R=zp2 laws s d.frm d.day:=hr;have uT:=zHi (fun W (hB:Below W0.heap.size W0 W)=>zE.o W (aj.o.trans (hB.mono au)));rw[<-cW]at uT;clear hr cg cW zE;go_upto_region 21 with(go_at_call 135;go_must(refine(ic.o).mono ?_);rintro e wq ⟨rfl,z,rfl⟩)
  obtain⟨W1,aV⟩:∃W1,W1=W0.ext z:=⟨_,rfl⟩
  have aR:Below W0.heap.size W0 W1:=Mdp;rw[<-aV];have ii:=aR.size;have aC:=zHi aR;clear aV aR ic;clear xs0 xd0 xr0 s0 s1 s2 s3 s4 s5 s6 d0 d1 d2 d3 d4 d5 d6 r0 r1 r2 r3 r4 r5 r6 rf ls ld lr;obtain⟨⟨xs0,xd0,xr0⟩,⟨s0,s1,s2,s3,s4,s5,s6⟩,⟨d0,d1,d2,d3,d4,d5,d6⟩,⟨r0,r1,r2,r3,r4,r5,r6⟩,rf,ls,ld,lr⟩:=ddF (aw.o W1 (aC.o))
  go_upto_region 22 with(go_at_call 136
                         go_must(refine(uT.o _ aC.o).mono ?_)
                         rintro e w5 ⟨a0,a1,a2,a3,a4,a5,a6,bb,rfl,aQ,aq,ao⟩;obtain⟨⟨X0,n0,m0,rfl⟩,⟨X1,n1,m1,rfl⟩,⟨X2,n2,m2,rfl⟩,⟨X3,n3,m3,rfl⟩,⟨X4,n4,m4,rfl⟩,⟨X5,n5,m5,rfl⟩,⟨X6,n6,m6,rfl⟩⟩:=zct aQ;obtain⟨bo,aK⟩:=yH2 (aC.o.trans (aq.mono ii)) ao
                         clear aq ao aQ)
  obtain⟨W6,fC⟩:∃W6,W6=w5.alloc (.cells #[.slice X0 n0 m0,.slice X1 n1 m1,.slice X2 n2 m2,.slice X3 n3 m3,.slice X4 n4 m4,.slice X5 n5 m5,.slice X6 n6 m6] 44):=⟨_,rfl⟩
  have gY:W6.heap[w5.heap.size]?=some (.cells #[.slice X0 n0 m0,.slice X1 n1 m1,.slice X2 n2 m2,.slice X3 n3 m3,.slice X4 n4 m4,.slice X5 n5 m5,.slice X6 n6 m6] 44):=by rw[fC];exact zaq _ _ _ rfl
  have aS:Below w5.heap.size w5 W6:=by rw[fC];exact zac (Below.refl _ _) _
  obtain⟨bW,lB⟩:=yH2 (bo.o.trans (aS.mono bo.o.size)) aS;obtain⟨YB,rP⟩:∃YB,YB=w5.heap.size:=⟨_,rfl⟩
  rw[<-fC,<-rP];rw[<-rP]at gY;clear fC rP aS;clear xs0 xd0 xr0 s0 s1 s2 s3 s4 s5 s6 d0 d1 d2 d3 d4 d5 d6 r0 r1 r2 r3 r4 r5 r6 rf ls ld lr;obtain⟨⟨xs0,xd0,xr0⟩,⟨s0,s1,s2,s3,s4,s5,s6⟩,⟨d0,d1,d2,d3,d4,d5,d6⟩,⟨r0,r1,r2,r3,r4,r5,r6⟩,rf,ls,ld,lr⟩:=ddF (aw.o W6 (bW.o));obtain⟨y0,y1,y2,y3,y4,y5,y6⟩:=zaH gY;have tp:=zab gY;obtain⟨R1,R2⟩:=R;rcases aK.o with⟨rfl,hz,ao⟩|⟨rfl,hz⟩
  ·simp only at hz;subst hz;have eO:=zHi ao;clear ao;go_wp2_with fail
   refine bodyPost_ret (zbG rfl _ rfl rfl (zc2 xr0)) rfl ?_;exact⟨_,_,_,_,_,_,_,rfl,rfl,zcD (aj.o.trans (bW.o.mono au)) (show w.heap.size<=w.heap.size+2 by omega),fun _=>(zc6 xr0 rfl).st (eO.o.keep lB.o)⟩
  ·simp only at hz;subst hz;go_wp2_with fail
   refine bodyPost_ret (zbG rfl _ rfl rfl (zc2 xr0)) rfl ?_;exact⟨_,_,_,_,_,_,_,rfl,rfl,zcD (aj.o.trans (bW.o.mono au)) (show w.heap.size<=w.heap.size+2 by omega),fun e=>by cases e⟩
noncomputable def nxP (laws:List Law) (s:St) (ds:List Deed) (d:Deed):St×Int:=
 if decide (60<=ds.length)then(s,8)else if(ds.getLast?.map fun e=>decide (d.day<e.day)).getD false then(s,9)else zbr laws s d
theorem rNext_of(laws:List Law)(s:St)(wd rd:List Deed)(LA CA MA DA WA RA GA:Option Addr)(c0 c1 c2 c3 c4 c5 c6:Nat)(d:Deed)(B:Option Addr)(c:Nat)(w:World)(h:StIn w laws s wd rd LA CA MA DA WA RA GA c0 c1 c2 c3 c4 c5 c6)(hk:StLink s wd rd)(hf:StFew s wd rd)(hd:OkD d)(hS:Sl w 3 RPart.cells B d.to)(ds:List Deed)(DB:Option Addr)(dc:Nat)(ke:SlW w 7 zfE DB ds)(ax:d.to.length<=c)(aW:∀g∈s.graves,GoodG g/\g.holders.length<=50000)(bN:∀g∈s.graves,g.fin<=200000)
 (iq:∀W,Below w.heap.size w W->Calls Tryz.prog 136 #[.agg #[.slice LA laws.length c0,.slice CA s.children.length c1,.slice MA s.marriages.length c2,.slice DA s.dead.length c3,.slice WA wd.length c4,.slice RA rd.length c5,.slice GA s.graves.length c6],.string d.frm,.int .i64 d.day] W (zkX W laws (zp2 laws s d.frm d.day))):Calls Tryz.prog 58 #[.agg #[.slice LA laws.length c0,.slice CA s.children.length c1,.slice MA s.marriages.length c2,.slice DA s.dead.length c3,.slice WA wd.length c4,.slice RA rd.length c5,.slice GA s.graves.length c6],.slice DB ds.length dc,d.v B c] w (zfJ w laws (nxP laws s ds d)):=by
 obtain⟨R,hR⟩:∃R,R=nxP laws s ds d:=⟨_,rfl⟩
 rw[<-hR];unfold nxP at hR;obtain⟨eh,qz,zE,lF,gn⟩:=yH5 aW bN iq ax ke;clear aW bN iq ax ke;obtain⟨H,HK,HF,HD,HS,HR⟩:=yH6 (fun W (hB:Below w.heap.size w W)=>h.keep hB) hk hf hd (fun W (hB:Below w.heap.size w W)=>hS.keep hB) hR;unfold Deed.v;clear h hk hf hd hS hR;go_enter Tryz.func58,Tryz.ntmps58
 go_upto_region 1 with fail
 generalize ak:World.alloc (World.alloc (World.alloc w _) _) _=W0;obtain⟨aj,aw⟩:=zeR ak;clear ak;have au:=aj.o.size;obtain⟨⟨xs0,xd0,xr0⟩,⟨s0,s1,s2,s3,s4,s5,s6⟩,⟨d0,d1,d2,d3,d4,d5,d6⟩,⟨r0,r1,r2,r3,r4,r5,r6⟩,rf,ls,ld,lr⟩:=ddF (aw.o W0 (Below.refl _ _));have hr:=HR.o
 have kT:=zHi (fun W (hB:Below W0.heap.size W0 W)=>rTake_of laws s wd rd LA CA MA DA WA RA GA c0 c1 c2 c3 c4 c5 c6 d B c W (H.o W (aj.o.trans (hB.mono au))) HK.o HF.o HD.o (HS.o W (aj.o.trans (hB.mono au))) lF.o eh.o qz.o
  fun W' eC=>zE.o W' ((aj.o.trans (hB.mono au)).trans (eC.mono (by have:=aj.o.size;have:=hB.size;omega))))
 unfold Deed.v at kT;by_cases h60:60<=ds.length
 ·have HE:Hid (R=(s,8)):=by show _=_;rw[hr,if_pos (by simpa using h60)]
  have hk:(60:Int)<=(ds.length:Int):=Mcu;clear hr;go_upto_region 2 with fail
  have bk:=Below.refl W0.heap.size W0;exact Mg
 have hk:¬(60:Int)<=(ds.length:Int):=Mcu;rw[if_neg (by simpa using h60)]at hr;go_upto_region 3 with fail
 by_cases h0:0<ds.length
 ·have ae:ds.length-1<ds.length:=Mcu;obtain⟨gb,go,cs,j8,dj,dB,ah⟩:=(gn.o.keep zch aj.o).at ae;have cq:ds.getLast?=some ds[ds.length-1]:=by rw[List.getLast?_eq_getElem?,List.getElem?_eq_getElem ae]
  rw[cq]at hr;generalize ds[ds.length-1]=e at*;obtain⟨EB,ec,uh,rfl,hP⟩:=dB;have i1:W0.cell? ⟨gb,go+(ds.length-1)*7+1,none⟩=some (.int .i64 e.day):=ah 1 _ rfl;have uw:R=if decide (d.day<e.day)=true then(s,9)else zbr laws s d:=hr;have bI:=zHi uw;subst j8;generalize hn:ds.length=n at*;have hz:(0:Int)<(n:Int):=Mcu;have jy:wrap64 ((n:Int)-1)=(n:Int)-1:=wrap_m Mcu;have zh:(0:Int)<=(n:Int)-1:=Mcu;have zi:(n:Int)-1<(n:Int):=Mcu;have zj:((n:Int)-1).toNat=n-1:=Mcu;clear hr uw cq ah hP uh hn h60;by_cases ip:d.day<e.day
  ·have HE:Hid (R=(s,9)):=by show _=_;rw[bI.o,if_pos (by simpa using ip)]
   (refine zaj Mcv Mcv ?_
    repeat(first|go_big_quiet_skip|(go_big_quiet_want;go_big_quiet_op;first|go_big_quiet_on|(apply Exists.intro;refine⟨fun _=>?_,?_⟩;(fail);go_big_quiet_on)))
    refine wpQuiet_nil ?_
    rintro _ ⟨zq,rfl⟩)
   clear xs0 xd0 xr0 s0 s1 s2 s3 s4 s5 s6 d0 d1 d2 d3 d4 d5 d6 r0 r1 r2 r3 r4 r5 r6 rf ls ld lr;obtain⟨⟨xs0,xd0,xr0⟩,⟨s0,s1,s2,s3,s4,s5,s6⟩,⟨d0,d1,d2,d3,d4,d5,d6⟩,⟨r0,r1,r2,r3,r4,r5,r6⟩,rf,ls,ld,lr⟩:=ddF (aw.o (W0.ext zq) (zao _ _));clear i1;have bk:=zao W0 zq;exact Mg
  ·have cW:R=zbr laws s d:=by rw[bI.o,if_neg (by simpa using ip)]
   rw[<-cW]at kT;clear cW
   (refine zaj Mcv Mcv ?_
    repeat(first|go_big_quiet_skip|(go_big_quiet_want;go_big_quiet_op;first|go_big_quiet_on|(apply Exists.intro;refine⟨fun _=>?_,?_⟩;(fail);go_big_quiet_on)))
    refine wpQuiet_nil ?_
    rintro _ ⟨zq,rfl⟩)
   clear xs0 xd0 xr0 s0 s1 s2 s3 s4 s5 s6 d0 d1 d2 d3 d4 d5 d6 r0 r1 r2 r3 r4 r5 r6 rf ls ld lr;obtain⟨⟨xs0,xd0,xr0⟩,⟨s0,s1,s2,s3,s4,s5,s6⟩,⟨d0,d1,d2,d3,d4,d5,d6⟩,⟨r0,r1,r2,r3,r4,r5,r6⟩,rf,ls,ld,lr⟩:=ddF (aw.o (W0.ext zq) (zao _ _));clear i1;exact Mb5
 ·have mP:ds=[]:=List.eq_nil_of_length_eq_zero Mcu;have cW:R=zbr laws s d:=by rw[hr,mP];rfl
  rw[<-cW]at kT;generalize hn:ds.length=n at*;have hz:decide ((0:Int)<(n:Int))=false:=Mcz;have iH:decide (0<n)=false:=Mcz;have hz3:¬0<n:=Mcu;clear hr cW mP hn h60 h0
  (refine zaj Mcv Mcv ?_
   repeat(first|go_big_quiet_skip|(go_big_quiet_want;go_big_quiet_op;first|go_big_quiet_on|(apply Exists.intro;refine⟨fun _=>?_,?_⟩;(fail);go_big_quiet_on)))
   refine wpQuiet_nil ?_
   rintro _ ⟨zq,rfl⟩)
  clear xs0 xd0 xr0 s0 s1 s2 s3 s4 s5 s6 d0 d1 d2 d3 d4 d5 d6 r0 r1 r2 r3 r4 r5 r6 rf ls ld lr;obtain⟨⟨xs0,xd0,xr0⟩,⟨s0,s1,s2,s3,s4,s5,s6⟩,⟨d0,d1,d2,d3,d4,d5,d6⟩,⟨r0,r1,r2,r3,r4,r5,r6⟩,rf,ls,ld,lr⟩:=ddF (aw.o (W0.ext zq) (zao _ _));exact Mb5

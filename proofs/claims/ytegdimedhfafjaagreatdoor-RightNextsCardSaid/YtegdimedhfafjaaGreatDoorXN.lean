import Derived.Test.YtegdimedhfafjaaGreatDoorXL
set_option linter.all false
set_option maxRecDepth 100000
set_option maxHeartbeats 4000000
namespace Go.Proofs.YtegdimedhfafjaaGreatDoor
open Go.RowKit Go.Shelf
attribute [local go_sem] World.cell?_alloc_mark zaf za5 zao za8 zav zaw zax zay zaz za0 za1
attribute [local go_sem] zaq zad
theorem sl_deed{W:World}{b:Nat}{t:TypeId}{fr:Nat×Nat}(d:Deed)(B:Option Addr)(c:Nat)(h:W.heap[b]?=some (.cells #[.int .i64 d.kind,.int .i64 d.day,.string d.place,.string d.frm,.slice B d.to.length c,.int .i64 d.cls,.int .i64 d.years] t fr)):Sl W 7 DV.cells (some ⟨b,0,none⟩) [⟨d,B,c⟩]:=
 zey zbn h Mew
theorem zkR(laws:List Law)(s:St)(wd rd:List Deed)(LA CA MA DA WA RA GA:Option Addr)(c0 c1 c2 c3 c4 c5 c6:Nat)(d:Deed)(B:Option Addr)(c:Nat)(w:World)(h:StIn w laws s wd rd LA CA MA DA WA RA GA c0 c1 c2 c3 c4 c5 c6)(hk:StLink s wd rd)(hf:StFew s wd rd)(hd:OkD d)(hS:Sl w 3 RPart.cells B d.to)(bQ:d.kind=5)(ar:d.to.length<=c):Calls Tryz.prog 108 #[.agg #[.slice LA laws.length c0,.slice CA s.children.length c1,.slice MA s.marriages.length c2,.slice DA s.dead.length c3,.slice WA wd.length c4,.slice RA rd.length c5,.slice GA s.graves.length c6],d.v B c] w (zeT w laws (zbA s d)):=by
 obtain⟨R,hR⟩:∃R,R=zbA s d:=⟨_,rfl⟩
 rw[<-hR];have aN:=(hd.one (.inl bQ)).1;obtain⟨BD,tE⟩:=yH2 aN (fun W (hS:Sl W 3 RPart.cells B d.to)=>zn2 aN hS);have nM:(0:Int)<(d.to.length:Int):=Mcm;have Lw:0<d.to.length:=Mcm;unfold zbA at hR;rw[hk.ren,List.any_map]at hR;change R=(if(zaM s d.frm||zaM s (zbg d))=true then(s,28)else if rd.any (renT d.frm (zbg d))=true then(s,5)else({s with renounce:=rd.map (fun d=>(d.frm,zbg d))++[(d.frm,zbg d)]},0))at hR;obtain⟨tn,fK⟩:∃tn,tn=zbg d:=⟨_,rfl⟩
 rw[<-fK]at hR tE;obtain⟨IZ,lz⟩:=yH2 fK ar;obtain⟨dvs,xe,xf,sk⟩:=dv_of h.ren;obtain⟨zg,tt,qx⟩:=yH3 xe xf sk;clear bQ aN fK xe xf sk ar;obtain⟨H,HK,HF,HD,HS,HR⟩:=yH6 (fun W (hB:Below w.heap.size w W)=>h.keep hB) hk hf hd (fun W (hB:Below w.heap.size w W)=>hS.keep hB) hR;unfold Deed.v;clear h hk hf hd hS hR;go_enter Tryz.func108,Tryz.ntmps108
 go_upto_region 1 with fail
 generalize ao:World.alloc (World.alloc (World.alloc w _) _) _=W0;obtain⟨ak,aw⟩:=zeN ao;clear ao;have ay:=ak.o.size;obtain⟨⟨xs0,xd0,xr0⟩,⟨s0,s1,s2,s3,s4,s5,s6⟩,⟨d0,d1,d2,d3,d4,d5,d6⟩,⟨r0,r1,r2,r3,r4,r5,r6⟩,rf,ls,ld,lr⟩:=ddF (aw.o W0 (Below.refl _ _));have tq:=zHi (fun x W (hB:Below W0.heap.size W0 W)=>sDead x W (H.o W (ak.o.trans (hB.mono ay))) HF.o);obtain⟨b,off,hA,hb,kR⟩:=tE.o W0 (HS.o W0 ak.o);have hr:=HR.o;rw[hA]at d4;go_upto_region 1 with fail
 have fV:=zHi (fun x b (hx:zaM s x=b) W (hB:Below W0.heap.size W0 W)=>(hx▸tq.o x W hB:Calls Tryz.prog 111 #[.agg #[.slice LA laws.length c0,.slice CA s.children.length c1,.slice MA s.marriages.length c2,.slice DA s.dead.length c3,.slice WA wd.length c4,.slice RA rd.length c5,.slice GA s.graves.length c6],.string x] W (Ret W (.bool b))));clear tq;cases bY:zaM s d.frm;rotate_left 1
 ·have HE:Hid (R=(s,28)):=Mec;clear hr
  (refine zaj Mcn Mcn ?_
   repeat(first|go_big_quiet_skip|(go_big_quiet_want;go_big_quiet_op;first|go_big_quiet_on|(apply Exists.intro;refine⟨fun _=>?_,?_⟩;((go_at_call 111;exact quietx (fV.o _ _ bY _ Bw)));go_big_quiet_on)))
   refine wpQuiet_nil ?_
   rintro _ ⟨zq,rfl⟩)
  have be:=zap W0 zq;exact MbR
 cases dV:zaM s tn;rotate_left 1
 ·have HE:Hid (R=(s,28)):=by show _=_;rw[hr,bY,dV];rfl
  clear hr
  (refine zaj Mcn Mcn ?_
   repeat(first|go_big_quiet_skip|(go_big_quiet_want;go_big_quiet_op;first|go_big_quiet_on|(apply Exists.intro;refine⟨fun _=>?_,?_⟩;((go_at_call 111;exact quietx (fV.o _ _ (by first|exact bY|exact dV) _ Bw)));go_big_quiet_on)))
   refine wpQuiet_nil ?_
   rintro _ ⟨zq,rfl⟩)
  have be:=zap W0 zq;exact MbR
 rw[bY,dV,Bool.or_false,if_neg Mcp]at hr;have bD:Hid (R=if(rd.drop 0).any (renT d.frm tn)=true then(s,5)else({s with renounce:=rd.map (fun d=>(d.frm,zbg d))++[(d.frm,tn)]},0)):=zHi hr;clear hr
 (refine zaj Mcn Mcn ?_
  repeat(first|go_big_quiet_skip|(go_big_quiet_want;go_big_quiet_op;first|go_big_quiet_on|(apply Exists.intro;refine⟨fun _=>?_,?_⟩;((go_at_call 111;exact quietx (fV.o _ _ (by first|exact bY|exact dV) _ Bw)));go_big_quiet_on)))
  refine wpQuiet_nil ?_
  rintro _ ⟨zq,rfl⟩)
 obtain⟨W1,aI⟩:∃W1,W1=W0.ext zq:=⟨_,rfl⟩
 have aU:Below W0.heap.size W0 W1:=Mdb;rw[<-aI];have gw:=aU.size;obtain⟨aB,tp,AI⟩:=yH3 aU (show b<W0.heap.size/\W0.cell? ⟨b,off,none⟩=some (.string tn) from⟨hb,kR⟩) hA;clear aI aU hb kR bY dV hA;clear xs0 xd0 xr0 s0 s1 s2 s3 s4 s5 s6 d0 d1 d2 d3 d4 d5 d6 r0 r1 r2 r3 r4 r5 r6 rf ls ld lr;go_upto_region 4 with fail
 go_loopw [6] (fun i wr=>∃k:Nat,k<=rd.length/\i=.int .i64 k/\Hid (R=if(rd.drop k).any (renT d.frm tn)=true then(s,5)else({s with renounce:=rd.map (fun d=>(d.frm,zbg d))++[(d.frm,tn)]},0))/\Below W1.heap.size W1 wr) (fun i _=>rd.length-(intOf i).toNat)
 case atStart=>exact⟨0,Nat.zero_le _,rfl,bD,Below.refl _ _⟩
 case round=>
  obtain⟨k,hk,rfl,HX,hB⟩:=hrel;have aE:=hB.size;have ct:=aB.o.trans (hB.mono gw);have Lp:=HF.o.ren;obtain⟨⟨xs0,xd0,xr0⟩,⟨s0,s1,s2,s3,s4,s5,s6⟩,⟨d0,d1,d2,d3,d4,d5,d6⟩,⟨r0,r1,r2,r3,r4,r5,r6⟩,rf,ls,ld,lr⟩:=ddF (aw.o wr (ct));obtain⟨bv,HB⟩:=yH2 ct hB;have us:W0.heap.size<=wr.heap.size:=ct.size;by_cases aa:k<rd.length
  ·obtain⟨gb,go,cs,lX,dK,dj,ah⟩:=(H.o wr (ak.o.trans (ct.mono ay))).ren.at aa;have hx:=HX.o;rw[List.drop_eq_getElem_cons aa,List.any_cons]at hx;have ai:=HK.o.tos _ (List.getElem_mem aa);obtain⟨av,am⟩:=yH2 hx aa;generalize rd[k]=x at*;obtain⟨XB,xc,uv,rfl,hP⟩:=dj;obtain⟨kd,dy,pl,fr,ts,cl,yr⟩:=x;simp only at ai uv hP ah;cases ts with
   |nil=>exact absurd rfl ai
   |cons p ts=>
    obtain⟨tb,tof,Af,Hc,ur⟩:=hP.at (k:=0) (Nat.succ_pos _);obtain⟨pn,pu,pd⟩:=p;have t0:wr.cell? ⟨tb,tof,none⟩=some (.string pn):=MdK;have yH:zbg ⟨kd,dy,pl,fr,⟨pn,pu,pd⟩::ts,cl,yr⟩=pn:=rfl;have i3:=ah 3 _ rfl;have i4:=ah 4 _ rfl;have au:(k:Int)<(rd.length:Int):=Mcm;have aP:(0:Int)<=(k:Int):=Mcm;generalize eE:(⟨pn,pu,pd⟩::ts:List RPart).length=ln at*;have jD:(0:Int)<(ln:Int):=by rw[<-eE];simp
    have DG:0<ln:=Mcm;rw[AI.o]at d4;rw[lX]at s5;rw[Af]at i4;have kR:wr.cell? ⟨b,off,none⟩=some (.string tn):=(zah ct tp.o.1).trans tp.o.2;have hb:b<wr.heap.size:=by have:=tp.o.1;omega
    clear ah aa hx ai hP ur eE uv hB ct;cases dq:zae fr d.frm
    ·have bo:(fr.toList==d.frm.toList)=false:=dq;have HE:Hid (R=if(rd.drop (k+1)).any (renT d.frm tn)=true then(s,5)else({s with renounce:=rd.map (fun d=>(d.frm,zbg d))++[(d.frm,tn)]},0)):=by show _=_;rw[av.o];simp[renT,dq]
     clear dq;exact MS
    ·have bo:(fr.toList==d.frm.toList)=true:=dq;cases fT:zae pn tn
     ·have yw:(pn.toList==tn.toList)=false:=fT;have HE:Hid (R=if(rd.drop (k+1)).any (renT d.frm tn)=true then(s,5)else({s with renounce:=rd.map (fun d=>(d.frm,zbg d))++[(d.frm,tn)]},0)):=by show _=_;rw[av.o];simp[renT,yH,fT]
      clear dq fT;exact MS
     ·have yw:(pn.toList==tn.toList)=true:=fT;have HE:Hid (R=(s,5)):=by show _=_;rw[av.o];simp[renT,yH,dq,fT]
      clear dq fT;go_upto_region 6 with fail
      (refine zaj Mcn Mcn ?_
       repeat(first|go_big_quiet_skip|(go_big_quiet_want;go_big_quiet_op;first|go_big_quiet_on|(apply Exists.intro;refine⟨fun _=>?_,?_⟩;(fail);go_big_quiet_on)))
       refine wpQuiet_nil ?_
       rintro _ ⟨zq,rfl⟩)
      have be:=zbm bv.o zq;clear xs0 xd0 xr0 s0 s1 s2 s3 s4 s5 s6 d0 d1 d2 d3 d4 d5 d6 r0 r1 r2 r3 r4 r5 r6 rf ls ld lr;clear i3 i4 t0;obtain⟨⟨xs0,xd0,xr0⟩,⟨s0,s1,s2,s3,s4,s5,s6⟩,⟨d0,d1,d2,d3,d4,d5,d6⟩,⟨r0,r1,r2,r3,r4,r5,r6⟩,rf,ls,ld,lr⟩:=ddF (aw.o (wr.ext zq) (be));have be:=be;exact Mg
  ·have au:¬(k:Int)<(rd.length:Int):=Mcm;have hx:=HX.o;rw[List.drop_of_length_le Mcm]at hx;have HE:Hid (R=({s with renounce:=rd.map (fun d=>(d.frm,zbg d))++[(d.frm,tn)]},0)):=Md7;clear hx aa hB ct;go_upto_region 8 with fail
   clear au;obtain⟨WX,kj⟩:∃WX,WX=wr:=⟨_,rfl⟩
   subst kj;have fu:=bv.o.size;have bp:Hid (rd.length=(dvs).length):=zHi (by rw[<-zg.o,List.length_map]);have tH:Hid ((dvs).length<=1000):=zHi (by rw[<-bp.o];exact HF.o.ren);have ca:=zHi (fun W (hB:Below WX.heap.size WX W)=>qx.o.keep (ak.o.trans ((bv.o.trans (hB.mono fu)).mono ay)));have ax:=zHi (fun(W:World) (h:Below WX.heap.size WX W)=>(show W.cell? ⟨w.heap.size,5,none⟩=some (.slice RA rd.length c5)/\W.cell? ⟨w.heap.size+1,0,none⟩=some (.int .i64 d.kind)/\W.cell? ⟨w.heap.size+1,1,none⟩=some (.int .i64 d.day)/\W.cell? ⟨w.heap.size+1,2,none⟩=some (.string d.place)/\W.cell? ⟨w.heap.size+1,3,none⟩=some (.string d.frm)/\W.cell? ⟨w.heap.size+1,4,none⟩=some (.slice B d.to.length c)/\W.cell? ⟨w.heap.size+1,5,none⟩=some (.int .i64 d.cls)/\W.cell? ⟨w.heap.size+1,6,none⟩=some (.int .i64 d.years) from⟨(zah h ls).trans s5,(zah h ld).trans d0,(zah h ld).trans d1,(zah h ld).trans d2,(zah h ld).trans d3,(zah h ld).trans d4,(zah h ld).trans d5,(zah h ld).trans d6⟩))
   go_cut [5]from 55 to 63 (fun v wc=>v=v/\∃V c',wc.heap[w.heap.size]?=some (.cells #[.slice LA laws.length c0,.slice CA s.children.length c1,.slice MA s.marriages.length c2,.slice DA s.dead.length c3,.slice WA wd.length c4,.slice V (rd.length+1) c',.slice GA s.graves.length c6] 41)/\wc.heap[w.heap.size+2]?=some (.cells #[.slice none 0 0,.slice none 0 0,.slice none 0 0,.slice none 0 0,.slice none 0 0,.slice none 0 0,.slice none 0 0] 41)/\Ro wc 28 DV.cells V (dvs++[(⟨d,B,c⟩:DV)])/\Below w.heap.size w wc)
   case first=>
    refine zaB 6 (fun bb w'=>bb=true\/(w'.cell? ⟨w.heap.size,5,none⟩=some (.slice RA rd.length c5)/\w'.cell? ⟨w.heap.size+1,0,none⟩=some (.int .i64 d.kind)/\w'.cell? ⟨w.heap.size+1,1,none⟩=some (.int .i64 d.day)/\w'.cell? ⟨w.heap.size+1,2,none⟩=some (.string d.place)/\w'.cell? ⟨w.heap.size+1,3,none⟩=some (.string d.frm)/\w'.cell? ⟨w.heap.size+1,4,none⟩=some (.slice B d.to.length c)/\w'.cell? ⟨w.heap.size+1,5,none⟩=some (.int .i64 d.cls)/\w'.cell? ⟨w.heap.size+1,6,none⟩=some (.int .i64 d.years))) Mcn (.inr (ax.o _ (zaH (Below.refl _ _)))) ?hrest
    case hrest=>
     intro hHeld;clear xs0 xd0 xr0 s0 s1 s2 s3 s4 s5 s6 d0 d1 d2 d3 d4 d5 d6 r0 r1 r2 r3 r4 r5 r6 rf ls ld lr;refine TkM 1 ?_;refine TkM 2 ?_;refine TkM 4 ?_;refine TwM 0 5 (fun K hK=>?_) fun K hK=>?_
     ·go_simp
      have e0:Below WX.heap.size WX (WX.drew.alloc (.cells #[] 28)):=zac (zaH (Below.refl _ _)) _;have m0:OwnS (WX.drew.alloc (.cells #[] 28)) WX.heap.size 28 7 DV.cells (.slice (some ⟨WX.heap.size,0,none⟩) 0 0) []:=zdW zbn WX.drew WX.heap.size (Nat.le_refl _);refine NxM hK (fun hHeld=>?_) (.inr (ax.o _ e0));clear hK K;refine TwM 3 5 (fun K hK=>?_) fun K hK=>?_
      ·refine zal (v:=.slice (some ⟨WX.heap.size,0,none⟩) 0 0) (n:=0) (m:=rd.length) rfl _ _ rfl zex zbn zew rfl (xs:=[]) (ys:=dvs) (m0) rfl rfl bp.o (ca.o _ e0) Mcu McF Mcx ?_;intro v4 w4 h1 h2 h3;rw[List.nil_append]at h1;obtain⟨V4,c4',aZ,_,_⟩:=h1.sl zbn;rw[<-bp.o]at aZ;subst aZ;have aD:Below WX.heap.size WX w4:=Below.grown e0 h2 Mdq (fun j hj=>by simp[za7]at hj;omega);refine NxM hK (fun hHeld=>?_) (.inr (ax.o _ aD));clear hK K;refine OnM 5 false fun K hK=>?_
       go_simp
       have e1:Below WX.heap.size WX (w4.alloc (.cells #[.int .i64 d.kind,.int .i64 d.day,.string d.place,.string d.frm,.slice B d.to.length c,.int .i64 d.cls,.int .i64 d.years] 28)):=zac aD _;have n1:(w4.alloc (.cells #[.int .i64 d.kind,.int .i64 d.day,.string d.place,.string d.frm,.slice B d.to.length c,.int .i64 d.cls,.int .i64 d.years] 28)).heap[w4.heap.size]?=some (.cells #[.int .i64 d.kind,.int .i64 d.day,.string d.place,.string d.frm,.slice B d.to.length c,.int .i64 d.cls,.int .i64 d.years] 28):=zas _ _ _ rfl;have o1:OwnS (w4.alloc (.cells #[.int .i64 d.kind,.int .i64 d.day,.string d.place,.string d.frm,.slice B d.to.length c,.int .i64 d.cls,.int .i64 d.years] 28)) WX.heap.size 28 7 DV.cells (.slice V4 rd.length c4') dvs:=h1.keep (n:=w4.heap.size) (zac (Below.refl _ _) _);refine NxM hK (fun hHeld=>?_) (.inr (ax.o _ e1));clear hK K;have o9:=o1;have n9:=n1;have e9:=e1;exact Mo
      ·go_simp
       have e1:Below WX.heap.size WX ((WX.drew.alloc (.cells #[] 28)).alloc (.cells #[.int .i64 d.kind,.int .i64 d.day,.string d.place,.string d.frm,.slice B d.to.length c,.int .i64 d.cls,.int .i64 d.years] 28)):=zac e0 _;have n1:((WX.drew.alloc (.cells #[] 28)).alloc (.cells #[.int .i64 d.kind,.int .i64 d.day,.string d.place,.string d.frm,.slice B d.to.length c,.int .i64 d.cls,.int .i64 d.years] 28)).heap[WX.heap.size+1]?=some (.cells #[.int .i64 d.kind,.int .i64 d.day,.string d.place,.string d.frm,.slice B d.to.length c,.int .i64 d.cls,.int .i64 d.years] 28):=zas _ _ _ Mcp;have m1:OwnS ((WX.drew.alloc (.cells #[] 28)).alloc (.cells #[.int .i64 d.kind,.int .i64 d.day,.string d.place,.string d.frm,.slice B d.to.length c,.int .i64 d.cls,.int .i64 d.years] 28)) WX.heap.size 28 7 DV.cells (.slice (some ⟨WX.heap.size,0,none⟩) 0 0) []:=m0.keep (n:=(WX.drew.alloc (.cells #[] 28)).heap.size) (zac (Below.refl _ _) _);refine NxM hK (fun hHeld=>?_) (.inr (ax.o _ e1));clear hK K;refine OnM 3 false fun K hK=>?_
       refine zal (v:=.slice (some ⟨WX.heap.size,0,none⟩) 0 0) (n:=0) (m:=rd.length) rfl _ _ rfl zex zbn zew rfl (xs:=[]) (ys:=dvs) (m1) rfl rfl bp.o (ca.o _ e1) Mcu McF Mct ?_;intro v4 w4 h1 h2 h3;rw[List.nil_append]at h1;obtain⟨V4,c4',aZ,_,_⟩:=h1.sl zbn;rw[<-bp.o]at aZ;subst aZ;have aD:Below WX.heap.size WX w4:=Below.grown e1 h2 McI (fun j hj=>by simp[za7]at hj;omega);have n2:w4.heap[WX.heap.size+1]?=some (.cells #[.int .i64 d.kind,.int .i64 d.day,.string d.place,.string d.frm,.slice B d.to.length c,.int .i64 d.cls,.int .i64 d.years] 28):=(h2.block _ McD Mdf).trans n1;exact Mb7
     ·go_simp
      have e0:Below WX.heap.size WX (WX.drew.alloc (.cells #[.int .i64 d.kind,.int .i64 d.day,.string d.place,.string d.frm,.slice B d.to.length c,.int .i64 d.cls,.int .i64 d.years] 28)):=zac (zaH (Below.refl _ _)) _;have n0:(WX.drew.alloc (.cells #[.int .i64 d.kind,.int .i64 d.day,.string d.place,.string d.frm,.slice B d.to.length c,.int .i64 d.cls,.int .i64 d.years] 28)).heap[WX.heap.size]?=some (.cells #[.int .i64 d.kind,.int .i64 d.day,.string d.place,.string d.frm,.slice B d.to.length c,.int .i64 d.cls,.int .i64 d.years] 28):=zas _ _ _ rfl;refine NxM hK (fun hHeld=>?_) (.inr (ax.o _ e0));clear hK K;refine OnM 0 false fun K hK=>?_
      go_simp
      have e1:Below WX.heap.size WX ((WX.drew.alloc (.cells #[.int .i64 d.kind,.int .i64 d.day,.string d.place,.string d.frm,.slice B d.to.length c,.int .i64 d.cls,.int .i64 d.years] 28)).alloc (.cells #[] 28)):=zac e0 _;have n1:((WX.drew.alloc (.cells #[.int .i64 d.kind,.int .i64 d.day,.string d.place,.string d.frm,.slice B d.to.length c,.int .i64 d.cls,.int .i64 d.years] 28)).alloc (.cells #[] 28)).heap[WX.heap.size]?=some (.cells #[.int .i64 d.kind,.int .i64 d.day,.string d.place,.string d.frm,.slice B d.to.length c,.int .i64 d.cls,.int .i64 d.years] 28):=zak n0;have m1:OwnS ((WX.drew.alloc (.cells #[.int .i64 d.kind,.int .i64 d.day,.string d.place,.string d.frm,.slice B d.to.length c,.int .i64 d.cls,.int .i64 d.years] 28)).alloc (.cells #[] 28)) WX.heap.size 28 7 DV.cells (.slice (some ⟨WX.heap.size+1,0,none⟩) 0 0) []:=by
       exact Mat
      refine NxM hK (fun hHeld=>?_) (.inr (ax.o _ e1));clear hK K;refine OnM 3 false fun K hK=>?_
      refine zal (v:=.slice (some ⟨WX.heap.size+1,0,none⟩) 0 0) (n:=0) (m:=rd.length) rfl _ _ rfl zex zbn zew rfl (xs:=[]) (ys:=dvs) (m1) rfl rfl bp.o (ca.o _ e1) Mcu McF Mct ?_;intro v4 w4 h1 h2 h3;rw[List.nil_append]at h1;obtain⟨V4,c4',aZ,_,_⟩:=h1.sl zbn;rw[<-bp.o]at aZ;subst aZ;have aD:Below WX.heap.size WX w4:=Below.grown e1 h2 McI (fun j hj=>by simp[za7]at hj;omega);have n2:w4.heap[WX.heap.size]?=some (.cells #[.int .i64 d.kind,.int .i64 d.day,.string d.place,.string d.frm,.slice B d.to.length c,.int .i64 d.cls,.int .i64 d.years] 28):=(h2.block _ McD Mdf).trans n1;exact Mb7
   case rest=>
    obtain⟨_,V,c',eG,cn,dX,om⟩:=hcut;clear xs0 xd0 xr0 s0 s1 s2 s3 s4 s5 s6 d0 d1 d2 d3 d4 d5 d6 r0 r1 r2 r3 r4 r5 r6 rf ls ld lr;obtain⟨s0,s1,s2,s3,s4,s5,s6⟩:=zaG eG;obtain⟨r0,r1,r2,r3,r4,r5,r6⟩:=zaG cn;have rf:=frz cn;have ls:=zab eG;have lr:=zab cn;go_wp2_with fail
    rw[HE.o];have df:=zcA (a0:=.slice LA laws.length c0) (a1:=.slice CA s.children.length c1) (a2:=.slice MA s.marriages.length c2) (a3:=.slice DA s.dead.length c3) (a4:=.slice WA wd.length c4) (a5:=.slice V (rd.length+1) c') (a6:=.slice GA s.graves.length c6) om (show w.heap.size<=w.heap.size+2 by omega);refine bodyPost_ret (zbD rfl _ rfl rfl (zc5 cn)) rfl ?_;have h':=H.o _ df;refine⟨_,_,_,_,_,_,_,rfl,rfl,df,fun _=>⟨wd,rd++[d],LA,CA,MA,DA,WA,V,GA,c0,c1,c2,c3,c4,c',c6,rfl,rfl,rfl,rfl,rfl,by rw[List.length_append];rfl,rfl,⟨h'.laws,h'.kids,h'.marr,h'.dead,h'.wills,?_,h'.graves,h'.deadc⟩,⟨HK.o.wills,HK.o.shares,?_,?_⟩⟩⟩
    ·exact Mad
    ·rw[List.map_append,IZ.o];rfl
    ·intro x hx;rcases List.mem_append.1 hx with hx|hx
     ·exact HK.o.tos x hx
     ·rw[List.mem_singleton.1 hx];intro he;have:=BD.o;rw[he]at this;cases this
structure GrSt (out l:Parts):Prop where
 good:GoodParts out
 isN:∀p∈out,IsN 720720 p.2
 le:sumQ out+sumQ l<=1
 pos:∀p∈l,0<=p.2
 lN:∀p∈l,IsN 720720 p.2
theorem GrSt.parts{out l:Parts}(h:GrSt out l):∀p∈out,zaJ p.2:=by
 have h1:0<=sumQ l:=zbs h.pos;exact fun p hp=>(zdG (hs:=out) ⟨h.good,zc1 Mco Mco h.isN,by have:=h.le;grind⟩ hp).2.2
theorem GrSt.next{out l:Parts}{n:ByteArray}{q:Rat}(h:GrSt out ((n,q)::l)):GrSt (za4 out n q) l:=by
 have hq:=h.pos (n,q) Mcp;have bG:=h.le;rw[sumQ]at bG;exact⟨zbx hq h.good,zc9 (h.lN (n,q) Mcp) h.isN,by rw[zbY];grind,fun p hp=>h.pos p McX,fun p hp=>h.lN p McX⟩
theorem GrSt.small{out l:Parts}{n:ByteArray}{q:Rat}(h:GrSt out ((n,q)::l)):zaJ q:=by
 have hq:=h.pos (n,q) Mcp;have bG:=h.le;rw[sumQ]at bG;have h1:0<=sumQ l:=zbs fun p hp=>h.pos p McX
 have h2:0<=sumQ out:=zbs fun p hp=>by have:=h.good.pos p hp;grind
 simp only at hq bG;exact zc4 Mco Mco (h.lN (n,q) Mcp) hq McG
theorem sl_grave{W:World}{b:Nat}{t:TypeId}{fr:Nat×Nat}(x:GX)(h:W.heap[b]?=some (.cells #[.string x.g.place,.int .i64 x.g.cls,.int .i64 x.g.fin,.slice x.H x.g.holders.length x.hc,.slice x.D x.g.died.length x.dc] t fr)):Sl W 5 GX.cells (some ⟨b,0,none⟩) [x]:=
 zey zcO h (by simp[GX.cells])
theorem zpw(laws:List Law)(s:St)(wd rd:List Deed)(LA CA MA DA WA RA GA:Option Addr)(c0 c1 c2 c3 c4 c5 c6:Nat)(d:Deed)(B:Option Addr)(c:Nat)(w:World)(h:StIn w laws s wd rd LA CA MA DA WA RA GA c0 c1 c2 c3 c4 c5 c6)(hk:StLink s wd rd)(hf:StFew s wd rd)(hd:OkD d)(hS:Sl w 3 RPart.cells B d.to)(bQ:d.kind=0):Calls Tryz.prog 104 #[.agg #[.slice LA laws.length c0,.slice CA s.children.length c1,.slice MA s.marriages.length c2,.slice DA s.dead.length c3,.slice WA wd.length c4,.slice RA rd.length c5,.slice GA s.graves.length c6],d.v B c] w (zeT w laws (zcH s d)):=by
 obtain⟨R,hR⟩:∃R,R=zcH s d:=⟨_,rfl⟩
 rw[<-hR];have jN:=zHi (zea (hd.parts (.inl bQ)).2);have bA:=hd.len;obtain⟨gxs,hm,bH,bu⟩:=gx_of h.graves;obtain⟨HM,dG,qJ⟩:=yH3 hm bH bu;unfold zcH at hR;clear bQ hm bH bu;obtain⟨H,HK,HF,HD,HS,HR⟩:=yH6 (fun W (hB:Below w.heap.size w W)=>h.keep hB) hk hf hd (fun W (hB:Below w.heap.size w W)=>hS.keep hB) hR;unfold Deed.v;clear h hk hf hd hS hR;go_enter Tryz.func104,Tryz.ntmps104
 go_upto_region 1 with fail
 generalize ao:World.alloc (World.alloc (World.alloc w _) _) _=W0;obtain⟨ak,aw⟩:=zeN ao;clear ao;have ay:=ak.o.size;obtain⟨⟨xs0,xd0,xr0⟩,⟨s0,s1,s2,s3,s4,s5,s6⟩,⟨d0,d1,d2,d3,d4,d5,d6⟩,⟨r0,r1,r2,r3,r4,r5,r6⟩,rf,ls,ld,lr⟩:=ddF (aw.o W0 (Below.refl _ _));have eu:=zHi (fun W (hB:Below W0.heap.size W0 W)=>zmo d.place d.day W (H.o W (ak.o.trans (hB.mono ay))) HF.o);have ke:=zHi (fun W (hB:Below W0.heap.size W0 W)=>zmp d.to B c W (H.o W (ak.o.trans (hB.mono ay))) HF.o Mcm (HS.o W (ak.o.trans (hB.mono ay))));have hr:=HR.o;cases aT:zaP s d.place d.day with
 |some i=>
  rw[aT]at hr;rw[ze0 aT]at eu;have fk:(0:Int)<=(i:Int):=Mcm;have HE:Hid (R=(s,13)):=zHi hr;clear hr aT;go_upto_region 2 with(go_at_call 138;go_must(refine(eu.o _ (Below.refl _ _)).mono ?_);rintro e wq ⟨rfl,z,rfl⟩)
  have be:=zap W0 z;exact MbR
 |none=>
  rw[aT]at hr;rw[ziY aT]at eu;simp only[Option.isSome_none,Bool.false_eq_true,if_false]at hr;cases fO:zdZ s d.to;rotate_left 1
  ·have HE:Hid (R=(s,28)):=by show _=_;rw[hr,fO];rfl
   rw[fO]at ke;clear hr aT fO
   go_upto_region 4 with(first
    |(go_at_call 138;go_must(refine(eu.o _ (Below.refl _ _)).mono ?_);rintro e wq ⟨rfl,z,rfl⟩)
    |(go_at_call 139;go_must(refine(ke.o _ Bw).mono ?_);rintro e wq ⟨rfl,z3,rfl⟩))
   have be:Below W0.heap.size W0 ((W0.ext z).ext z3):=zbm (zap _ _) _;have be:=be;exact MbR
  rw[fO,if_neg Mcp]at hr;rw[fO]at ke;have AJ:=zHi (fun W=>zjW d.day d.years W HD.o.day.1 HD.o.day.2 HD.o.years.1 HD.o.years.2);generalize zce d.day d.years=af at*;have bD:=zHi hr;clear hr aT fO
  go_upto_region 6 with(first
   |(go_at_call 138;go_must(refine(eu.o _ (Below.refl _ _)).mono ?_);rintro e wq ⟨rfl,z,rfl⟩)
   |(go_at_call 139;go_must(refine(ke.o _ Bw).mono ?_);rintro e wq ⟨rfl,z3,rfl⟩))
  obtain⟨GB,jl⟩:∃GB,GB=W0.heap.size+z.os.size+z3.os.size:=⟨_,rfl⟩
  obtain⟨W1,aI⟩:∃W1,W1=((W0.ext z).ext z3).alloc (.cells #[.string d.place,.int .i64 d.cls,.int .i64 (-1),.slice none 0 0,.slice none 0 0] 189):=⟨_,rfl⟩
  have gG:W1.heap[GB]?=some (.cells #[.string d.place,.int .i64 d.cls,.int .i64 (-1),.slice none 0 0,.slice none 0 0] 189):=by rw[aI];exact zas _ _ _ (by rw[jl];simp[zaf])
  have aU:Below W0.heap.size W0 W1:=by rw[aI];exact zac (zbm (zap _ _) _) _
  have iU:W0.heap.size<=GB:=Mcm;rw[<-aI,<-jl];clear aI jl eu ke;clear xs0 xd0 xr0 s0 s1 s2 s3 s4 s5 s6 d0 d1 d2 d3 d4 d5 d6 r0 r1 r2 r3 r4 r5 r6 rf ls ld lr;obtain⟨g0,g1,g2,g3,g4⟩:=zed gG;have gf:=frz gG;have gl:=zab gG;obtain⟨GG,aB⟩:=yH2 gG aU;clear gG aU;obtain⟨⟨xs0,xd0,xr0⟩,⟨s0,s1,s2,s3,s4,s5,s6⟩,⟨d0,d1,d2,d3,d4,d5,d6⟩,⟨r0,r1,r2,r3,r4,r5,r6⟩,rf,ls,ld,lr⟩:=ddF (aw.o W1 (aB.o));go_upto_if 28 with fail
  go_cut [5]from 26 to 39 (fun v wc=>v=v/\∃fin:Int,Hid (R=({s with graves:=s.graves++[⟨d.place,d.cls,fin,zbd d.to [],[]⟩]},0))/\wc.heap[GB]?=some (.cells #[.string d.place,.int .i64 d.cls,.int .i64 (fin),.slice none 0 0,.slice none 0 0] 189)/\Below W0.heap.size W0 wc)
  case first=>
   by_cases hy:0<d.years
   ·have hr:=bD.o;have Dh:decide (0<d.years)=true:=by simpa using hy
    rw[Dh]at hr;simp only[Bool.true_and,if_true]at hr;go_upto_region 8 with(go_at_call 140;go_must(refine(AJ.o _).mono ?_);rintro e wq ⟨rfl,z5,rfl⟩)
    obtain⟨W2,cE⟩:∃W2,W2=(W1.setCell ⟨GB,2,none⟩ (.int .i64 af)).ext z5:=⟨_,rfl⟩
    have gG2:W2.heap[GB]?=some (.cells #[.string d.place,.int .i64 d.cls,.int .i64 (af),.slice none 0 0,.slice none 0 0] 189):=by
     rw[cE];exact Mbo
    have bx:Below W0.heap.size W0 W2:=by rw[cE];exact zbm (zaL aB.o iU _) z5
    rw[<-cE];clear cE g0 g1 g2 g3 g4 gf gl;clear xs0 xd0 xr0 s0 s1 s2 s3 s4 s5 s6 d0 d1 d2 d3 d4 d5 d6 r0 r1 r2 r3 r4 r5 r6 rf ls ld lr;obtain⟨g0,g1,g2,g3,g4⟩:=zed gG2;have gl:=zab gG2;obtain⟨aA,G2⟩:=yH2 bx gG2;clear bx gG2;obtain⟨⟨xs0,xd0,xr0⟩,⟨s0,s1,s2,s3,s4,s5,s6⟩,⟨d0,d1,d2,d3,d4,d5,d6⟩,⟨r0,r1,r2,r3,r4,r5,r6⟩,rf,ls,ld,lr⟩:=ddF (aw.o W2 (aA.o));by_cases oA:af<0
    ·have HE:Hid (R=(s,2)):=by show _=_;rw[hr,if_pos (by simpa using oA)]
     clear hr;go_upto_region 9 with fail
     have be:=aA.o;exact Mg
    ·have HE:Hid (R=({s with graves:=s.graves++[⟨d.place,d.cls,af,zbd d.to [],[]⟩]},0)):=by show _=_;rw[hr,if_neg (by simpa using oA)]
     clear hr;go_wp2_with fail
     go_meet
     exact⟨by first|rfl|trivial,af,HE,G2.o,aA.o⟩
   ·have hr:=bD.o;have Dh:decide (0<d.years)=false:=by simpa using hy
    rw[Dh]at hr;simp only[Bool.false_and,Bool.false_eq_true,if_false]at hr;have HE:=zHi hr;clear hr;go_wp2_with fail
    go_meet
    exact⟨by first|rfl|trivial,-1,HE,GG.o,aB.o⟩
  case rest=>
   obtain⟨_,fin,HE,gG2,bx⟩:=hcut;obtain⟨W2,cE⟩:∃W2,W2=wc:=⟨_,rfl⟩
   subst cE;have aA:=zHi bx;have kP:=bx.size;have fL:=zHi gG2
   have oY:GrSt [] (zam d.to):=⟨⟨List.Pairwise.nil,by simp⟩,by simp,by show(0:Rat)+_<=1;have:=jN.o.2.1;grind,fun p hp=>by
    obtain⟨q,hq,rfl⟩:=List.mem_map.1 hp;have:=(jN.o.1 q hq).1;show 0<=q.rat;grind,fun p hp=>by
    obtain⟨q,hq,rfl⟩:=List.mem_map.1 hp
    exact(jN.o.1 q hq).2.1⟩
   have BS:=zHi oY;clear g0 g1 g2 g3 g4 gf gl bx gG2 oY;clear xs0 xd0 xr0 s0 s1 s2 s3 s4 s5 s6 d0 d1 d2 d3 d4 d5 d6 r0 r1 r2 r3 r4 r5 r6 rf ls ld lr;go_upto_region 11 with fail
   go_loopw [7] (fun n wr=>∃(k:Nat) (out:Parts) (VA:Option Addr) (vc:Nat),k<=d.to.length/\n=.int .i64 k/\Hid (R=({s with graves:=s.graves++[⟨d.place,d.cls,fin,zbd (d.to.drop k) out,[]⟩]},0))/\Hid (GrSt out (zam (d.to.drop k)))/\out.length<=k/\OwnS wr W0.heap.size 62 3 zaa (.slice VA out.length vc) out/\wr.heap[GB]?=some (.cells #[.string d.place,.int .i64 d.cls,.int .i64 (fin),.slice VA out.length vc,.slice none 0 0] 189)/\Below W0.heap.size W0 wr) (fun n _=>d.to.length-(intOf n).toNat)
   case atStart=>exact⟨0,[],none,0,Nat.zero_le _,rfl,HE,BS,Nat.le_refl _,OwnS.nil,fL.o,aA.o⟩
   case round=>
    obtain⟨k,out,VA,vc,hk,rfl,HX,HG,iZ,ae,iz,ct⟩:=hrel;have us:=ct.size;obtain⟨g0,g1,g2,g3,g4⟩:=zed iz;have gl:=zab iz;obtain⟨bv,HO,eb⟩:=yH3 ct ae iz;obtain⟨⟨xs0,xd0,xr0⟩,⟨s0,s1,s2,s3,s4,s5,s6⟩,⟨d0,d1,d2,d3,d4,d5,d6⟩,⟨r0,r1,r2,r3,r4,r5,r6⟩,rf,ls,ld,lr⟩:=ddF (aw.o wr (ct));have vD:=zHi (HS.o wr (ak.o.trans (ct.mono ay)));by_cases aa:k<d.to.length
    ·obtain⟨b,off,hA,hb,ah⟩:=vD.o.at aa;have hx:=HX.o;have aj:=HG.o;have gH:d.to.drop k=d.to[k]::d.to.drop (k+1):=List.drop_eq_getElem_cons aa;rw[gH]at hx aj;have bO:=(jN.o.1 _ (List.getElem_mem aa)).2.2;have am:=zHi aa;clear gH;generalize d.to[k]=y at*;obtain⟨nm,nu,de⟩:=y;have dA:R=({s with graves:=s.graves++[⟨d.place,d.cls,fin,zbd (d.to.drop (k+1)) (za4 out nm (Rat.divInt nu de)),[]⟩]},0):=hx;have ck:GrSt out ((nm,Rat.divInt nu de)::zam (d.to.drop (k+1))):=aj;simp only at bO;have i0:wr.cell? ⟨b,off+k*3,none⟩=some (.string nm):=ah 0 _ rfl;have i1:wr.cell? ⟨b,off+k*3+1,none⟩=some (.int .i64 nu):=ah 1 _ rfl;have i2:wr.cell? ⟨b,off+k*3+2,none⟩=some (.int .i64 de):=ah 2 _ rfl;have au:(k:Int)<(d.to.length:Int):=Mcm;have aP:(0:Int)<=(k:Int):=Mcm;obtain⟨r1,r2,r3,r4⟩:=zbk bO;have ew:=zHi (fun W (hW:Below wr.heap.size wr W)=>zcN out nm (Rat.divInt nu de) VA vc W Mcm ck.parts ck.small (ziQ zan (HO.o.keep hW)).1);unfold zaC at ew;rw[r1,r2]at ew;obtain⟨dF,av⟩:=yH2 ck.next dA;have cx:=zcw nm (Rat.divInt nu de) out;rw[hA]at d4
     have ax:=zHi (fun(W:World) (h:Below wr.heap.size wr W)=>(show W.cell? ⟨w.heap.size+1,4,none⟩=some (.slice (some ⟨b,off,none⟩) d.to.length c)/\W.cell? ⟨GB,3,none⟩=some (.slice VA out.length vc)/\W.cell? ⟨b,off+k*3,none⟩=some (.string nm)/\W.cell? ⟨b,off+k*3+1,none⟩=some (.int .i64 nu)/\W.cell? ⟨b,off+k*3+2,none⟩=some (.int .i64 de) from⟨(zah h ld).trans d4,(zah h gl).trans g3,(zah h hb).trans i0,(zah h hb).trans i1,(zah h hb).trans i2⟩));clear ah hx aj dA ck bO aa r1 r2 r3 r4 ae iz hA;generalize za4 out nm (Rat.divInt nu de)=out1 at*;go_upto_region 13 with fail
     refine zaB 14 (fun bb w'=>bb=true\/(w'.cell? ⟨w.heap.size+1,4,none⟩=some (.slice (some ⟨b,off,none⟩) d.to.length c)/\w'.cell? ⟨GB,3,none⟩=some (.slice VA out.length vc)/\w'.cell? ⟨b,off+k*3,none⟩=some (.string nm)/\w'.cell? ⟨b,off+k*3+1,none⟩=some (.int .i64 nu)/\w'.cell? ⟨b,off+k*3+2,none⟩=some (.int .i64 de))) Mcn (.inr (ax.o _ (zaH (Below.refl _ _)))) ?hrest
     case hrest=>
      intro hHeld;clear g0 g1 g2 g3 g4 i0 i1 i2;clear xs0 xd0 xr0 s0 s1 s2 s3 s4 s5 s6 d0 d1 d2 d3 d4 d5 d6 r0 r1 r2 r3 r4 r5 r6 rf ls ld lr;refine TkM 0 ?_;refine TkM 1 ?_;refine TkM 2 ?_;refine TkM 3 ?_;refine TkM 4 ?_;refine TkM 5 ?_;refine TkM 6 ?_;refine TkM 7 ?_;refine TkM 8 ?_;refine TkM 9 ?_;refine TkM 10 ?_;refine TkM 11 ?_;refine TkM 12 ?_;refine TkM 13 ?_;refine OnM 14 true fun K hK=>?_
      go_simp
      refine(ew.o _ (zaH (Below.refl _ _))).mono ?_;rintro e w5 ⟨v5,rfl,o5,b5⟩;obtain⟨YA,yc,rfl,_,_⟩:=o5.sl zan;have aq:Below wr.heap.size wr w5:=(zaH (Below.refl _ _)).trans b5;have g5:=(aq.block GB gl).trans eb.o;refine NxM hK fun hHeld=>?_
      clear hK K;refine OnM 15 true fun K hK=>?_
      go_simp
      refine NxM hK fun hHeld=>?_
      clear hK K;obtain⟨g0,g1,g2,g3,g4⟩:=zed g5;have gf:=frz g5;have gl5:=zab g5;refine OnM 16 true fun K hK=>?_
      go_simp
      refine NxM hK fun hHeld=>?_
      clear hK K;refine zaI Mcn ?_ _;obtain⟨O5,G5,bl⟩:=yH3 (o5.base_le (show W0.heap.size<=wr.drew.heap.size by show W0.heap.size<=wr.heap.size;omega)) g5 (bv.o.trans (aq.mono us));clear hHeld g0 g1 g2 g3 g4 gf gl5 g5 o5 b5 aq;go_wp2_with fail
      go_round
      case rel=>
       refine⟨k+1,out1,YA,yc,am.o,by go_num,av,dF,by omega,O5.o.kept (zar _ _ _ _) G5.o Mco,?_,zaL bl.o iU _⟩;have:=Joins.block_setCell (i:=3) G5.o (.slice YA out1.length yc);simpa using this
      case measure=>have:=am.o;simp only[intOf];omega
    ·have au:¬(k:Int)<(d.to.length:Int):=Mcm;have hx:=HX.o;rw[List.drop_of_length_le Mcm]at hx;have uM:Hid (R=({s with graves:=s.graves++[⟨d.place,d.cls,fin,out,[]⟩]},0)):=Md7;have KM:=HF.o.graves;clear hx aa ae iz;go_upto_region 14 with fail
     clear au;obtain⟨WX,kj⟩:∃WX,WX=wr:=⟨_,rfl⟩
     subst kj;have fu:=bv.o.size;have bp:Hid (s.graves.length=(gxs).length):=zHi (by rw[<-HM.o,List.length_map]);have tH:Hid ((gxs).length<=1000):=zHi (by rw[<-bp.o];exact HF.o.graves);have ca:=zHi (fun W (hB:Below WX.heap.size WX W)=>qJ.o.keep (ak.o.trans ((bv.o.trans (hB.mono fu)).mono ay)));have ax:=zHi (fun(W:World) (h:Below WX.heap.size WX W)=>(show W.cell? ⟨w.heap.size,6,none⟩=some (.slice GA s.graves.length c6)/\W.cell? ⟨GB,0,none⟩=some (.string d.place)/\W.cell? ⟨GB,1,none⟩=some (.int .i64 d.cls)/\W.cell? ⟨GB,2,none⟩=some (.int .i64 fin)/\W.cell? ⟨GB,3,none⟩=some (.slice VA out.length vc)/\W.cell? ⟨GB,4,none⟩=some (.slice none 0 0) from⟨(zah h ls).trans s6,(zah h gl).trans g0,(zah h gl).trans g1,(zah h gl).trans g2,(zah h gl).trans g3,(zah h gl).trans g4⟩));clear g0 g1 g2 g3 g4;go_cut [5]from 62 to 70 (fun v wc=>(v=v/\∃V c',wc.heap[w.heap.size]?=some (.cells #[.slice LA laws.length c0,.slice CA s.children.length c1,.slice MA s.marriages.length c2,.slice DA s.dead.length c3,.slice WA wd.length c4,.slice RA rd.length c5,.slice V (s.graves.length+1) c'] 41)/\wc.heap[w.heap.size+2]?=some (.cells #[.slice none 0 0,.slice none 0 0,.slice none 0 0,.slice none 0 0,.slice none 0 0,.slice none 0 0,.slice none 0 0] 41)/\Ro wc 189 GX.cells V (gxs++[(⟨⟨d.place,d.cls,fin,out,[]⟩,VA,vc,none,0⟩:GX)])/\Below w.heap.size w wc)/\Ro wc 62 zaa VA out)
     case first=>
      refine zaB 6 (fun bb w'=>bb=true\/(w'.cell? ⟨w.heap.size,6,none⟩=some (.slice GA s.graves.length c6)/\w'.cell? ⟨GB,0,none⟩=some (.string d.place)/\w'.cell? ⟨GB,1,none⟩=some (.int .i64 d.cls)/\w'.cell? ⟨GB,2,none⟩=some (.int .i64 fin)/\w'.cell? ⟨GB,3,none⟩=some (.slice VA out.length vc)/\w'.cell? ⟨GB,4,none⟩=some (.slice none 0 0))) Mcn (.inr (ax.o _ (zaH (Below.refl _ _)))) ?hrest
      case hrest=>
       intro hHeld;clear xs0 xd0 xr0 s0 s1 s2 s3 s4 s5 s6 d0 d1 d2 d3 d4 d5 d6 r0 r1 r2 r3 r4 r5 r6 rf ls ld lr;refine TkM 1 ?_;refine TkM 2 ?_;refine TkM 4 ?_;refine TwM 0 5 (fun K hK=>?_) fun K hK=>?_
       ·go_simp
        have e0:Below WX.heap.size WX (WX.drew.alloc (.cells #[] 189)):=zac (zaH (Below.refl _ _)) _;have m0:OwnS (WX.drew.alloc (.cells #[] 189)) WX.heap.size 189 5 GX.cells (.slice (some ⟨WX.heap.size,0,none⟩) 0 0) []:=zdW zcO WX.drew WX.heap.size (Nat.le_refl _);refine NxM hK (fun hHeld=>?_) (.inr (ax.o _ e0));clear hK K;refine TwM 3 5 (fun K hK=>?_) fun K hK=>?_
        ·refine zal (v:=.slice (some ⟨WX.heap.size,0,none⟩) 0 0) (n:=0) (m:=s.graves.length) rfl _ _ rfl zhn zcO zjY rfl (xs:=[]) (ys:=gxs) (m0) rfl rfl bp.o (ca.o _ e0) Mcu McF Mcx ?_;intro v4 w4 h1 h2 h3;rw[List.nil_append]at h1;obtain⟨V4,c4',aZ,_,_⟩:=h1.sl zcO;rw[<-bp.o]at aZ;subst aZ;have aD:Below WX.heap.size WX w4:=Below.grown e0 h2 Mdq (fun j hj=>by simp[za7]at hj;omega);refine NxM hK (fun hHeld=>?_) (.inr (ax.o _ aD));clear hK K;refine OnM 5 false fun K hK=>?_
         go_simp
         have e1:Below WX.heap.size WX (w4.alloc (.cells #[.string d.place,.int .i64 d.cls,.int .i64 fin,.slice VA out.length vc,.slice none 0 0] 189)):=zac aD _;have n1:(w4.alloc (.cells #[.string d.place,.int .i64 d.cls,.int .i64 fin,.slice VA out.length vc,.slice none 0 0] 189)).heap[w4.heap.size]?=some (.cells #[.string d.place,.int .i64 d.cls,.int .i64 fin,.slice VA out.length vc,.slice none 0 0] 189):=zas _ _ _ rfl;have o1:OwnS (w4.alloc (.cells #[.string d.place,.int .i64 d.cls,.int .i64 fin,.slice VA out.length vc,.slice none 0 0] 189)) WX.heap.size 189 5 GX.cells (.slice V4 s.graves.length c4') gxs:=h1.keep (n:=w4.heap.size) (zac (Below.refl _ _) _);refine NxM hK (fun hHeld=>?_) (.inr (ax.o _ e1));clear hK K;have o9:=o1;have n9:=n1;have e9:=e1;exact Mk
        ·go_simp
         have e1:Below WX.heap.size WX ((WX.drew.alloc (.cells #[] 189)).alloc (.cells #[.string d.place,.int .i64 d.cls,.int .i64 fin,.slice VA out.length vc,.slice none 0 0] 189)):=zac e0 _;have n1:((WX.drew.alloc (.cells #[] 189)).alloc (.cells #[.string d.place,.int .i64 d.cls,.int .i64 fin,.slice VA out.length vc,.slice none 0 0] 189)).heap[WX.heap.size+1]?=some (.cells #[.string d.place,.int .i64 d.cls,.int .i64 fin,.slice VA out.length vc,.slice none 0 0] 189):=zas _ _ _ Mcp;have m1:OwnS ((WX.drew.alloc (.cells #[] 189)).alloc (.cells #[.string d.place,.int .i64 d.cls,.int .i64 fin,.slice VA out.length vc,.slice none 0 0] 189)) WX.heap.size 189 5 GX.cells (.slice (some ⟨WX.heap.size,0,none⟩) 0 0) []:=m0.keep (n:=(WX.drew.alloc (.cells #[] 189)).heap.size) (zac (Below.refl _ _) _);refine NxM hK (fun hHeld=>?_) (.inr (ax.o _ e1));clear hK K;refine OnM 3 false fun K hK=>?_
         refine zal (v:=.slice (some ⟨WX.heap.size,0,none⟩) 0 0) (n:=0) (m:=s.graves.length) rfl _ _ rfl zhn zcO zjY rfl (xs:=[]) (ys:=gxs) (m1) rfl rfl bp.o (ca.o _ e1) Mcu McF Mct ?_;intro v4 w4 h1 h2 h3;rw[List.nil_append]at h1;obtain⟨V4,c4',aZ,_,_⟩:=h1.sl zcO;rw[<-bp.o]at aZ;subst aZ;have aD:Below WX.heap.size WX w4:=Below.grown e1 h2 McI (fun j hj=>by simp[za7]at hj;omega);have n2:w4.heap[WX.heap.size+1]?=some (.cells #[.string d.place,.int .i64 d.cls,.int .i64 fin,.slice VA out.length vc,.slice none 0 0] 189):=(h2.block _ McD Mdf).trans n1;exact Mb5
       ·go_simp
        have e0:Below WX.heap.size WX (WX.drew.alloc (.cells #[.string d.place,.int .i64 d.cls,.int .i64 fin,.slice VA out.length vc,.slice none 0 0] 189)):=zac (zaH (Below.refl _ _)) _;have n0:(WX.drew.alloc (.cells #[.string d.place,.int .i64 d.cls,.int .i64 fin,.slice VA out.length vc,.slice none 0 0] 189)).heap[WX.heap.size]?=some (.cells #[.string d.place,.int .i64 d.cls,.int .i64 fin,.slice VA out.length vc,.slice none 0 0] 189):=zas _ _ _ rfl;refine NxM hK (fun hHeld=>?_) (.inr (ax.o _ e0));clear hK K;refine OnM 0 false fun K hK=>?_
        go_simp
        have e1:Below WX.heap.size WX ((WX.drew.alloc (.cells #[.string d.place,.int .i64 d.cls,.int .i64 fin,.slice VA out.length vc,.slice none 0 0] 189)).alloc (.cells #[] 189)):=zac e0 _;have n1:((WX.drew.alloc (.cells #[.string d.place,.int .i64 d.cls,.int .i64 fin,.slice VA out.length vc,.slice none 0 0] 189)).alloc (.cells #[] 189)).heap[WX.heap.size]?=some (.cells #[.string d.place,.int .i64 d.cls,.int .i64 fin,.slice VA out.length vc,.slice none 0 0] 189):=zak n0;have m1:OwnS ((WX.drew.alloc (.cells #[.string d.place,.int .i64 d.cls,.int .i64 fin,.slice VA out.length vc,.slice none 0 0] 189)).alloc (.cells #[] 189)) WX.heap.size 189 5 GX.cells (.slice (some ⟨WX.heap.size+1,0,none⟩) 0 0) []:=by
         have:=zdW (t:=189) zcO (WX.drew.alloc (.cells #[.string d.place,.int .i64 d.cls,.int .i64 fin,.slice VA out.length vc,.slice none 0 0] 189)) WX.heap.size Mcp;simpa using this
        refine NxM hK (fun hHeld=>?_) (.inr (ax.o _ e1));clear hK K;refine OnM 3 false fun K hK=>?_
        refine zal (v:=.slice (some ⟨WX.heap.size+1,0,none⟩) 0 0) (n:=0) (m:=s.graves.length) rfl _ _ rfl zhn zcO zjY rfl (xs:=[]) (ys:=gxs) (m1) rfl rfl bp.o (ca.o _ e1) Mcu McF Mct ?_;intro v4 w4 h1 h2 h3;rw[List.nil_append]at h1;obtain⟨V4,c4',aZ,_,_⟩:=h1.sl zcO;rw[<-bp.o]at aZ;subst aZ;have aD:Below WX.heap.size WX w4:=Below.grown e1 h2 McI (fun j hj=>by simp[za7]at hj;omega);have n2:w4.heap[WX.heap.size]?=some (.cells #[.string d.place,.int .i64 d.cls,.int .i64 fin,.slice VA out.length vc,.slice none 0 0] 189):=(h2.block _ McD Mdf).trans n1;exact Mb5
     case rest=>
      obtain⟨⟨_,V,c',eG,cn,dX,om⟩,oW⟩:=hcut;clear xs0 xd0 xr0 s0 s1 s2 s3 s4 s5 s6 d0 d1 d2 d3 d4 d5 d6 r0 r1 r2 r3 r4 r5 r6 rf ls ld lr;obtain⟨s0,s1,s2,s3,s4,s5,s6⟩:=zaG eG;obtain⟨r0,r1,r2,r3,r4,r5,r6⟩:=zaG cn;have rf:=frz cn;have ls:=zab eG;have lr:=zab cn;go_wp2_with fail
      rw[uM.o];have df:=zcA (a0:=.slice LA laws.length c0) (a1:=.slice CA s.children.length c1) (a2:=.slice MA s.marriages.length c2) (a3:=.slice DA s.dead.length c3) (a4:=.slice WA wd.length c4) (a5:=.slice RA rd.length c5) (a6:=.slice V (s.graves.length+1) c') om (show w.heap.size<=w.heap.size+2 by omega);refine bodyPost_ret (zbD rfl _ rfl rfl (zc5 cn)) rfl ?_;have h':=H.o _ df;refine⟨_,_,_,_,_,_,_,rfl,rfl,df,fun _=>⟨wd,rd,LA,CA,MA,DA,WA,RA,V,c0,c1,c2,c3,c4,c5,c',rfl,rfl,rfl,rfl,rfl,rfl,by rw[List.length_append];rfl,⟨h'.laws,h'.kids,h'.marr,h'.dead,h'.wills,h'.ren,?_,h'.deadc⟩,⟨HK.o.wills,HK.o.shares,HK.o.ren,HK.o.tos⟩⟩⟩;refine slw_gx ((zja dX cn Mco).sl zcO) (by rw[List.map_append,HM.o];rfl) fun x hx=>?_
      rcases List.mem_append.1 hx with hx|hx
      ·exact(dG.o x hx).keep df
      ·rw[List.mem_singleton.1 hx];exact⟨(zja oW cn Mco).sl zan,Sl.nil⟩

import Derived.Test.YtogklihlgindkaaGreatDoorXL
set_option linter.all false
set_option maxRecDepth 100000
set_option maxHeartbeats 4000000
namespace Go.Proofs.YtogklihlgindkaaGreatDoor
open Go.RowKit Go.Shelf
attribute [local go_sem] World.cell?_alloc_mark zaf za3 zam za6 zat zau zav zaw zax zay zaz
attribute [local go_sem] zao zac
variable{W:World}{b:Nat}{t:TypeId}{fr:Nat×Nat}
def sl_deed(d:Deed)(B:Option Addr)(c:Nat)(h:W.heap[b]?=some (.cells #[.int .i64 d.kind,.int .i64 d.day,.string d.place,.string d.frm,.slice B d.to.length c,.int .i64 d.cls,.int .i64 d.years] t fr)):Sl W 7 DV.cells (some ⟨b,0,none⟩) [⟨d,B,c⟩]:=
 ziN zch h (by simp[DV.cells])
def zlc(laws:List Law)(s:St)(wd rd:List Deed)(LA CA MA DA WA RA GA:Option Addr)(c0 c1 c2 c3 c4 c5 c6:Nat)(d:Deed)(B:Option Addr)(c:Nat)(w:World)(h:StIn w laws s wd rd LA CA MA DA WA RA GA c0 c1 c2 c3 c4 c5 c6)(hk:StLink s wd rd)(hf:StFew s wd rd)(hd:OkD d)(hS:Sl w 3 RPart.cells B d.to)(ck:d.kind=5)(aA:d.to.length<=c):Calls Tryz.prog 134 #[.agg #[.slice LA laws.length c0,.slice CA s.children.length c1,.slice MA s.marriages.length c2,.slice DA s.dead.length c3,.slice WA wd.length c4,.slice RA rd.length c5,.slice GA s.graves.length c6],d.v B c] w (zfM w laws (zb9 s d)):=by
 obtain⟨R,hR⟩:=Qd (zb9 s d)
 rw[<-hR];have aU:=(hd.one (.inl ck)).1;obtain⟨C5,u9⟩:=yH2 aU (λW (hS:Sl W 3 RPart.cells B d.to)=>znM aU hS);have iX:(0:Int)<(d.to.length:Int):=McS;have N5:0<d.to.length:=McS;unfold zb9 at hR;rw[hk.ren,List.any_map]at hR;change R=(if(zaN s d.frm||zaN s (zbh d))=true then(s,28)else if rd.any (renT d.frm (zbh d))=true then(s,5)else({s with renounce:=rd.map (λd=>(d.frm,zbh d))++[(d.frm,zbh d)]},0))at hR;obtain⟨tn,dU⟩:=Qd (zbh d)
 rw[<-dU]at hR u9;obtain⟨pX,mh⟩:=yH2 dU aA;obtain⟨dvs,xz,xB,sI⟩:=dv_of h.ren;obtain⟨zR,oB,qS⟩:=yH3 xz xB sI;clear ck aU dU xz xB sI aA;obtain⟨H,HK,HF,HD,HS,HR⟩:=yH6 (λW (hB:Qa w W)=>h.keep hB) hk hf hd (λW (hB:Qa w W)=>hS.keep hB) hR;unfold Deed.v;clear h hk hf hd hS hR;go_enter Tryz.func134,Tryz.ntmps134
 go_upto_region 1 with fail
 generalize am:World.alloc (World.alloc (World.alloc w _) _) _=W0;obtain⟨ak,av⟩:=zeN am;clear am;have ay:=ak.o.size;obtain⟨⟨xs0,xd0,xr0⟩,⟨s0,s1,s2,s3,s4,s5,s6⟩,⟨d0,d1,d2,d3,d4,d5,d6⟩,⟨r0,r1,r2,r3,r4,r5,r6⟩,rf,ls,ld,lr⟩:=ddF (av.o W0 Qb);have tO:=zHi (λx W (hB:Qa W0 W)=>sDead x W (H.o W (ak.o.trans (hB.mono ay))) HF.o);obtain⟨b,off,hA,hb,lH⟩:=u9.o W0 (HS.o W0 ak.o);have hr:=HR.o;rw[hA]at d4;go_upto_region 1 with fail
 have gI:=zHi (λx b (hx:zaN s x=b) W (hB:Qa W0 W)=>(hx▸tO.o x W hB:Calls Tryz.prog 137 #[.agg #[.slice LA laws.length c0,.slice CA s.children.length c1,.slice MA s.marriages.length c2,.slice DA s.dead.length c3,.slice WA wd.length c4,.slice RA rd.length c5,.slice GA s.graves.length c6],.string x] W (Ret W (.bool b))));clear tO;cases cg:zaN s d.frm;rotate_left 1
 ·have HE:Hid (R=(s,28)):=MeF;clear hr
  (refine zag McT McT ?_
   repeat(first|go_big_quiet_skip|(go_big_quiet_want;go_big_quiet_op;first|go_big_quiet_on|(apply Exists.intro;refine⟨λ_=>?_,?_⟩;((go_at_call 137;exact quietx (gI.o _ _ cg _ Bw)));go_big_quiet_on)))
   refine wpQuiet_nil ?_
   rintro _ ⟨zq,rfl⟩)
  have bl:=zan W0 zq;exact Mcd
 cases dY:zaN s tn;rotate_left 1
 ·have HE:Hid (R=(s,28)):=by show _=_;rw[hr,cg,dY];rfl
  clear hr
  (refine zag McT McT ?_
   repeat(first|go_big_quiet_skip|(go_big_quiet_want;go_big_quiet_op;first|go_big_quiet_on|(apply Exists.intro;refine⟨λ_=>?_,?_⟩;((go_at_call 137;exact quietx (gI.o _ _ (by first|exact cg|exact dY) _ Bw)));go_big_quiet_on)))
   refine wpQuiet_nil ?_
   rintro _ ⟨zq,rfl⟩)
  have bl:=zan W0 zq;exact Mcd
 rw[cg,dY,Bool.or_false,if_neg McV]at hr;have bK:Hid (R=if(rd.drop 0).any (renT d.frm tn)=true then(s,5)else({s with renounce:=rd.map (λd=>(d.frm,zbh d))++[(d.frm,tn)]},0)):=zHi hr;clear hr
 (refine zag McT McT ?_
  repeat(first|go_big_quiet_skip|(go_big_quiet_want;go_big_quiet_op;first|go_big_quiet_on|(apply Exists.intro;refine⟨λ_=>?_,?_⟩;((go_at_call 137;exact quietx (gI.o _ _ (by first|exact cg|exact dY) _ Bw)));go_big_quiet_on)))
  refine wpQuiet_nil ?_
  rintro _ ⟨zq,rfl⟩)
 obtain⟨W1,aX⟩:=Qd (W0.ext zq)
 have aW:Qa W0 W1:=MdM;rw[<-aX];have iE:=aW.size;obtain⟨aL,tM,Bi⟩:=yH3 aW (show b<W0.heap.size/\W0.cell? ⟨b,off,none⟩=some (.string tn) from⟨hb,lH⟩) hA;clear aX aW hb lH cg dY hA;clear xs0 xd0 xr0 s0 s1 s2 s3 s4 s5 s6 d0 d1 d2 d3 d4 d5 d6 r0 r1 r2 r3 r4 r5 r6 rf ls ld lr;go_upto_region 4 with fail
 go_loopw [6] (λi wr=>∃k:Nat,k<=rd.length/\i=.int .i64 k/\Hid (R=if(rd.drop k).any (renT d.frm tn)=true then(s,5)else({s with renounce:=rd.map (λd=>(d.frm,zbh d))++[(d.frm,tn)]},0))/\Qa W1 wr) (λi _=>rd.length-(intOf i).toNat)
 case atStart=>exact⟨0,Nat.zero_le _,rfl,bK,Qb⟩
 case round=>
  obtain⟨k,hk,rfl,HX,hB⟩:=hrel;have aM:=hB.size;have cB:=aL.o.trans (hB.mono iE);have LW:=HF.o.ren;obtain⟨⟨xs0,xd0,xr0⟩,⟨s0,s1,s2,s3,s4,s5,s6⟩,⟨d0,d1,d2,d3,d4,d5,d6⟩,⟨r0,r1,r2,r3,r4,r5,r6⟩,rf,ls,ld,lr⟩:=ddF (av.o wr (cB));obtain⟨bD,HB⟩:=yH2 cB hB;have uN:W0.heap.size<=wr.heap.size:=cB.size;by_cases ae:k<rd.length
  ·obtain⟨gb,go,cs,jA,dB,dD,ah⟩:=(H.o wr (ak.o.trans (cB.mono ay))).ren.at ae;have hx:=HX.o;rw[List.drop_eq_getElem_cons ae,List.any_cons]at hx;have ai:=HK.o.tos _ (List.getElem_mem ae);obtain⟨aw,aj⟩:=yH2 hx ae;generalize rd[k]=x at*;obtain⟨XB,xc,uP,rfl,hP⟩:=dD;obtain⟨kd,dy,pl,fr,ts,cl,yr⟩:=x;simp only at ai uP hP ah;cases ts with
   |nil=>exact absurd rfl ai
   |cons p ts=>
    obtain⟨tb,tof,AL,Ij,tB⟩:=hP.at (k:=0) (Nat.succ_pos _);obtain⟨pn,pu,pd⟩:=p;have t0:wr.cell? ⟨tb,tof,none⟩=some (.string pn):=Md9;have zv:zbh ⟨kd,dy,pl,fr,⟨pn,pu,pd⟩::ts,cl,yr⟩=pn:=rfl;have i3:=ah 3 _ rfl;have i4:=ah 4 _ rfl;have au:(k:Int)<(rd.length:Int):=McS;have aR:(0:Int)<=(k:Int):=McS;generalize cX:(⟨pn,pu,pd⟩::ts:List RPart).length=ln at*;have jM:(0:Int)<(ln:Int):=by rw[<-cX];simp
    have Eh:0<ln:=McS;rw[Bi.o]at d4;rw[jA]at s5;rw[AL]at i4;have lH:wr.cell? ⟨b,off,none⟩=some (.string tn):=(zai cB tM.o.1).trans tM.o.2;have hb:b<wr.heap.size:=by have:=tM.o.1;omega
    clear ah ae hx ai hP tB cX uP hB cB;cases eo:zae fr d.frm
    ·have bi:(fr.toList==d.frm.toList)=false:=eo;have HE:Hid (R=if(rd.drop (k+1)).any (renT d.frm tn)=true then(s,5)else({s with renounce:=rd.map (λd=>(d.frm,zbh d))++[(d.frm,tn)]},0)):=by show _=_;rw[aw.o];simp[renT,eo]
     clear eo;exact MW
    ·have bi:(fr.toList==d.frm.toList)=true:=eo;cases dH:zae pn tn
     ·have zb:(pn.toList==tn.toList)=false:=dH;have HE:Hid (R=if(rd.drop (k+1)).any (renT d.frm tn)=true then(s,5)else({s with renounce:=rd.map (λd=>(d.frm,zbh d))++[(d.frm,tn)]},0)):=by show _=_;rw[aw.o];simp[renT,zv,dH]
      clear eo dH;exact MW
     ·have zb:(pn.toList==tn.toList)=true:=dH;have HE:Hid (R=(s,5)):=by show _=_;rw[aw.o];simp[renT,zv,eo,dH]
      clear eo dH;go_upto_region 6 with fail
      (refine zag McT McT ?_
       repeat(first|go_big_quiet_skip|(go_big_quiet_want;go_big_quiet_op;first|go_big_quiet_on|(apply Exists.intro;refine⟨λ_=>?_,?_⟩;(fail);go_big_quiet_on)))
       refine wpQuiet_nil ?_
       rintro _ ⟨zq,rfl⟩)
      have bl:=zb2 bD.o zq;clear xs0 xd0 xr0 s0 s1 s2 s3 s4 s5 s6 d0 d1 d2 d3 d4 d5 d6 r0 r1 r2 r3 r4 r5 r6 rf ls ld lr;clear i3 i4 t0;obtain⟨⟨xs0,xd0,xr0⟩,⟨s0,s1,s2,s3,s4,s5,s6⟩,⟨d0,d1,d2,d3,d4,d5,d6⟩,⟨r0,r1,r2,r3,r4,r5,r6⟩,rf,ls,ld,lr⟩:=ddF (av.o (wr.ext zq) (bl));have bl:=bl;exact Mg
  ·have au:¬(k:Int)<(rd.length:Int):=McS;have hx:=HX.o;rw[List.drop_of_length_le McS]at hx;have HE:Hid (R=({s with renounce:=rd.map (λd=>(d.frm,zbh d))++[(d.frm,tn)]},0)):=Mex;clear hx ae hB cB;go_upto_region 8 with fail
   clear au;obtain⟨WX,kJ⟩:=Qd wr
   subst kJ;have eH:=bD.o.size;have bw:Hid (rd.length=(dvs).length):=zHi (by rw[<-zR.o,List.length_map]);have ub:Hid ((dvs).length<=1000):=zHi (by rw[<-bw.o];exact HF.o.ren);have bU:=zHi (λW (hB:Qa WX W)=>qS.o.keep (ak.o.trans ((bD.o.trans (hB.mono eH)).mono ay)));have aJ:=zHi (λ(W:World) (h:Qa WX W)=>(show W.cell? ⟨w.heap.size,5,none⟩=some (.slice RA rd.length c5)/\W.cell? ⟨w.heap.size+1,0,none⟩=some (.int .i64 d.kind)/\W.cell? ⟨w.heap.size+1,1,none⟩=some (.int .i64 d.day)/\W.cell? ⟨w.heap.size+1,2,none⟩=some (.string d.place)/\W.cell? ⟨w.heap.size+1,3,none⟩=some (.string d.frm)/\W.cell? ⟨w.heap.size+1,4,none⟩=some (.slice B d.to.length c)/\W.cell? ⟨w.heap.size+1,5,none⟩=some (.int .i64 d.cls)/\W.cell? ⟨w.heap.size+1,6,none⟩=some (.int .i64 d.years) from⟨(zai h ls).trans s5,(zai h ld).trans d0,(zai h ld).trans d1,(zai h ld).trans d2,(zai h ld).trans d3,(zai h ld).trans d4,(zai h ld).trans d5,(zai h ld).trans d6⟩))
   go_cut [5]from 55 to 63 (λv wc=>v=v/\∃V c',wc.heap[w.heap.size]?=some (.cells #[.slice LA laws.length c0,.slice CA s.children.length c1,.slice MA s.marriages.length c2,.slice DA s.dead.length c3,.slice WA wd.length c4,.slice V (rd.length+1) c',.slice GA s.graves.length c6] 86)/\wc.heap[w.heap.size+2]?=some (.cells #[.slice none 0 0,.slice none 0 0,.slice none 0 0,.slice none 0 0,.slice none 0 0,.slice none 0 0,.slice none 0 0] 86)/\Ro wc 60 DV.cells V (dvs++[(⟨d,B,c⟩:DV)])/\Qa w wc)
   case first=>
    refine za9 6 (λbb w'=>bb=true\/(w'.cell? ⟨w.heap.size,5,none⟩=some (.slice RA rd.length c5)/\w'.cell? ⟨w.heap.size+1,0,none⟩=some (.int .i64 d.kind)/\w'.cell? ⟨w.heap.size+1,1,none⟩=some (.int .i64 d.day)/\w'.cell? ⟨w.heap.size+1,2,none⟩=some (.string d.place)/\w'.cell? ⟨w.heap.size+1,3,none⟩=some (.string d.frm)/\w'.cell? ⟨w.heap.size+1,4,none⟩=some (.slice B d.to.length c)/\w'.cell? ⟨w.heap.size+1,5,none⟩=some (.int .i64 d.cls)/\w'.cell? ⟨w.heap.size+1,6,none⟩=some (.int .i64 d.years))) McT (.inr (aJ.o _ (zaF Qb))) ?hrest
    case hrest=>
     intro hHeld;clear xs0 xd0 xr0 s0 s1 s2 s3 s4 s5 s6 d0 d1 d2 d3 d4 d5 d6 r0 r1 r2 r3 r4 r5 r6 rf ls ld lr;refine TkM 1 ?_;refine TkM 2 ?_;refine TkM 4 ?_;refine TwM 0 5 (λK hK=>?_) λK hK=>?_
     ·go_simp
      have e0:Qa WX (WX.drew.alloc (.cells #[] 60)):=zad (zaF Qb) _;have m0:OwnS (WX.drew.alloc (.cells #[] 60)) WX.heap.size 60 7 DV.cells (.slice (some ⟨WX.heap.size,0,none⟩) 0 0) []:=zdX zch WX.drew WX.heap.size Qc;refine NxM hK (λhHeld=>?_) (.inr (aJ.o _ e0));clear hK K;refine TwM 3 5 (λK hK=>?_) λK hK=>?_
      ·refine zap (v:=.slice (some ⟨WX.heap.size,0,none⟩) 0 0) (n:=0) (m:=rd.length) rfl _ _ rfl zg6 zch zg5 rfl (xs:=[]) (ys:=dvs) (m0) rfl rfl bw.o (bU.o _ e0) Mc0 Mdc Mc4 ?_;intro v4 w4 h1 h2 h3;rw[List.nil_append]at h1;obtain⟨V4,c4',be,_,_⟩:=h1.sl zch;rw[<-bw.o]at be;subst be;have aB:Qa WX w4:=Below.grown e0 h2 MdP (λj hj=>by simp[za4]at hj;omega);refine NxM hK (λhHeld=>?_) (.inr (aJ.o _ aB));clear hK K;refine OnM 5 false λK hK=>?_
       go_simp
       have e1:Qa WX (w4.alloc (.cells #[.int .i64 d.kind,.int .i64 d.day,.string d.place,.string d.frm,.slice B d.to.length c,.int .i64 d.cls,.int .i64 d.years] 60)):=zad aB _;have n1:(w4.alloc (.cells #[.int .i64 d.kind,.int .i64 d.day,.string d.place,.string d.frm,.slice B d.to.length c,.int .i64 d.cls,.int .i64 d.years] 60)).heap[w4.heap.size]?=some (.cells #[.int .i64 d.kind,.int .i64 d.day,.string d.place,.string d.frm,.slice B d.to.length c,.int .i64 d.cls,.int .i64 d.years] 60):=zas _ _ _ rfl;have o1:OwnS (w4.alloc (.cells #[.int .i64 d.kind,.int .i64 d.day,.string d.place,.string d.frm,.slice B d.to.length c,.int .i64 d.cls,.int .i64 d.years] 60)) WX.heap.size 60 7 DV.cells (.slice V4 rd.length c4') dvs:=h1.keep (n:=w4.heap.size) (zad Qb _);refine NxM hK (λhHeld=>?_) (.inr (aJ.o _ e1));clear hK K;have o9:=o1;have n9:=n1;have e9:=e1;exact Mo
      ·go_simp
       have e1:Qa WX ((WX.drew.alloc (.cells #[] 60)).alloc (.cells #[.int .i64 d.kind,.int .i64 d.day,.string d.place,.string d.frm,.slice B d.to.length c,.int .i64 d.cls,.int .i64 d.years] 60)):=zad e0 _;have n1:((WX.drew.alloc (.cells #[] 60)).alloc (.cells #[.int .i64 d.kind,.int .i64 d.day,.string d.place,.string d.frm,.slice B d.to.length c,.int .i64 d.cls,.int .i64 d.years] 60)).heap[WX.heap.size+1]?=some (.cells #[.int .i64 d.kind,.int .i64 d.day,.string d.place,.string d.frm,.slice B d.to.length c,.int .i64 d.cls,.int .i64 d.years] 60):=zas _ _ _ McV;have m1:OwnS ((WX.drew.alloc (.cells #[] 60)).alloc (.cells #[.int .i64 d.kind,.int .i64 d.day,.string d.place,.string d.frm,.slice B d.to.length c,.int .i64 d.cls,.int .i64 d.years] 60)) WX.heap.size 60 7 DV.cells (.slice (some ⟨WX.heap.size,0,none⟩) 0 0) []:=m0.keep (n:=(WX.drew.alloc (.cells #[] 60)).heap.size) (zad Qb _);refine NxM hK (λhHeld=>?_) (.inr (aJ.o _ e1));clear hK K;refine OnM 3 false λK hK=>?_
       refine zap (v:=.slice (some ⟨WX.heap.size,0,none⟩) 0 0) (n:=0) (m:=rd.length) rfl _ _ rfl zg6 zch zg5 rfl (xs:=[]) (ys:=dvs) (m1) rfl rfl bw.o (bU.o _ e1) Mc0 Mdc McZ ?_;intro v4 w4 h1 h2 h3;rw[List.nil_append]at h1;obtain⟨V4,c4',be,_,_⟩:=h1.sl zch;rw[<-bw.o]at be;subst be;have aB:Qa WX w4:=Below.grown e1 h2 Mde (λj hj=>by simp[za4]at hj;omega);have n2:w4.heap[WX.heap.size+1]?=some (.cells #[.int .i64 d.kind,.int .i64 d.day,.string d.place,.string d.frm,.slice B d.to.length c,.int .i64 d.cls,.int .i64 d.years] 60):=(h2.block _ Mda MdI).trans n1;exact McA
     ·go_simp
      have e0:Qa WX (WX.drew.alloc (.cells #[.int .i64 d.kind,.int .i64 d.day,.string d.place,.string d.frm,.slice B d.to.length c,.int .i64 d.cls,.int .i64 d.years] 60)):=zad (zaF Qb) _;have n0:(WX.drew.alloc (.cells #[.int .i64 d.kind,.int .i64 d.day,.string d.place,.string d.frm,.slice B d.to.length c,.int .i64 d.cls,.int .i64 d.years] 60)).heap[WX.heap.size]?=some (.cells #[.int .i64 d.kind,.int .i64 d.day,.string d.place,.string d.frm,.slice B d.to.length c,.int .i64 d.cls,.int .i64 d.years] 60):=zas _ _ _ rfl;refine NxM hK (λhHeld=>?_) (.inr (aJ.o _ e0));clear hK K;refine OnM 0 false λK hK=>?_
      go_simp
      have e1:Qa WX ((WX.drew.alloc (.cells #[.int .i64 d.kind,.int .i64 d.day,.string d.place,.string d.frm,.slice B d.to.length c,.int .i64 d.cls,.int .i64 d.years] 60)).alloc (.cells #[] 60)):=zad e0 _;have n1:((WX.drew.alloc (.cells #[.int .i64 d.kind,.int .i64 d.day,.string d.place,.string d.frm,.slice B d.to.length c,.int .i64 d.cls,.int .i64 d.years] 60)).alloc (.cells #[] 60)).heap[WX.heap.size]?=some (.cells #[.int .i64 d.kind,.int .i64 d.day,.string d.place,.string d.frm,.slice B d.to.length c,.int .i64 d.cls,.int .i64 d.years] 60):=zal n0;have m1:OwnS ((WX.drew.alloc (.cells #[.int .i64 d.kind,.int .i64 d.day,.string d.place,.string d.frm,.slice B d.to.length c,.int .i64 d.cls,.int .i64 d.years] 60)).alloc (.cells #[] 60)) WX.heap.size 60 7 DV.cells (.slice (some ⟨WX.heap.size+1,0,none⟩) 0 0) []:=by
       exact MaB
      refine NxM hK (λhHeld=>?_) (.inr (aJ.o _ e1));clear hK K;refine OnM 3 false λK hK=>?_
      refine zap (v:=.slice (some ⟨WX.heap.size+1,0,none⟩) 0 0) (n:=0) (m:=rd.length) rfl _ _ rfl zg6 zch zg5 rfl (xs:=[]) (ys:=dvs) (m1) rfl rfl bw.o (bU.o _ e1) Mc0 Mdc McZ ?_;intro v4 w4 h1 h2 h3;rw[List.nil_append]at h1;obtain⟨V4,c4',be,_,_⟩:=h1.sl zch;rw[<-bw.o]at be;subst be;have aB:Qa WX w4:=Below.grown e1 h2 Mde (λj hj=>by simp[za4]at hj;omega);have n2:w4.heap[WX.heap.size]?=some (.cells #[.int .i64 d.kind,.int .i64 d.day,.string d.place,.string d.frm,.slice B d.to.length c,.int .i64 d.cls,.int .i64 d.years] 60):=(h2.block _ Mda MdI).trans n1;exact McA
   case rest=>
    obtain⟨_,V,c',dQ,cx,ej,oQ⟩:=hcut;clear xs0 xd0 xr0 s0 s1 s2 s3 s4 s5 s6 d0 d1 d2 d3 d4 d5 d6 r0 r1 r2 r3 r4 r5 r6 rf ls ld lr;obtain⟨s0,s1,s2,s3,s4,s5,s6⟩:=zaG dQ;obtain⟨r0,r1,r2,r3,r4,r5,r6⟩:=zaG cx;have rf:=frz cx;have ls:=zab dQ;have lr:=zab cx;go_wp2_with fail
    rw[HE.o];have cC:=zcC (a0:=.slice LA laws.length c0) (a1:=.slice CA s.children.length c1) (a2:=.slice MA s.marriages.length c2) (a3:=.slice DA s.dead.length c3) (a4:=.slice WA wd.length c4) (a5:=.slice V (rd.length+1) c') (a6:=.slice GA s.graves.length c6) oQ (show w.heap.size<=w.heap.size+2 by omega);refine bodyPost_ret (zbB rfl _ rfl rfl (zc0 cx)) rfl ?_;have h':=H.o _ cC;refine⟨_,_,_,_,_,_,_,rfl,rfl,cC,λ_=>⟨wd,rd++[d],LA,CA,MA,DA,WA,V,GA,c0,c1,c2,c3,c4,c',c6,rfl,rfl,rfl,rfl,rfl,by rw[List.length_append];rfl,rfl,⟨h'.laws,h'.kids,h'.marr,h'.dead,h'.wills,?_,h'.graves,h'.deadc⟩,⟨HK.o.wills,HK.o.shares,?_,?_⟩⟩⟩
    ·exact Man
    ·rw[List.map_append,pX.o];rfl
    ·intro x hx;rcases List.mem_append.1 hx with hx|hx
     ·exact HK.o.tos x hx
     ·rw[List.mem_singleton.1 hx];intro he;have:=C5.o;rw[he]at this;cases this
structure GrSt (out l:Parts):Prop where
 good:GoodParts out
 isN:∀p∈out,IsN 720720 p.2
 le:sumQ out+sumQ l<=1
 pos:∀p∈l,0<=p.2
 lN:∀p∈l,IsN 720720 p.2
variable{out l:Parts}
def GrSt.parts(h:GrSt out l):∀p∈out,zaJ p.2:=by
 have h1:0<=sumQ l:=zbq h.pos;exact λp hp=>(zdK (hs:=out) ⟨h.good,zc8 McU McU h.isN,by have:=h.le;grind⟩ hp).2.2
variable{n:ByteArray}{q:Rat}
def GrSt.next(h:GrSt out ((n,q)::l)):GrSt (za5 out n q) l:=by
 have hq:=h.pos (n,q) McV;have bG:=h.le;rw[sumQ]at bG;exact⟨zby hq h.good,zcI (h.lN (n,q) McV) h.isN,by rw[zbW];grind,λp hp=>h.pos p MdQ,λp hp=>h.lN p MdQ⟩
def GrSt.small(h:GrSt out ((n,q)::l)):zaJ q:=by
 have hq:=h.pos (n,q) McV;have bG:=h.le;rw[sumQ]at bG;have h1:0<=sumQ l:=zbq λp hp=>h.pos p MdQ
 have h2:0<=sumQ out:=zbq λp hp=>by have:=h.good.pos p hp;grind
 simp only at hq bG;exact zcB McU McU (h.lN (n,q) McV) hq Mdl
def sl_grave(x:GX)(h:W.heap[b]?=some (.cells #[.string x.g.place,.int .i64 x.g.cls,.int .i64 x.g.fin,.slice x.H x.g.holders.length x.hc,.slice x.D x.g.died.length x.dc] t fr)):Sl W 5 GX.cells (some ⟨b,0,none⟩) [x]:=
 ziN zcX h (by simp[GX.cells])
def zpO(laws:List Law)(s:St)(wd rd:List Deed)(LA CA MA DA WA RA GA:Option Addr)(c0 c1 c2 c3 c4 c5 c6:Nat)(d:Deed)(B:Option Addr)(c:Nat)(w:World)(h:StIn w laws s wd rd LA CA MA DA WA RA GA c0 c1 c2 c3 c4 c5 c6)(hk:StLink s wd rd)(hf:StFew s wd rd)(hd:OkD d)(hS:Sl w 3 RPart.cells B d.to)(ck:d.kind=0):Calls Tryz.prog 130 #[.agg #[.slice LA laws.length c0,.slice CA s.children.length c1,.slice MA s.marriages.length c2,.slice DA s.dead.length c3,.slice WA wd.length c4,.slice RA rd.length c5,.slice GA s.graves.length c6],d.v B c] w (zfM w laws (zcR s d)):=by
 obtain⟨R,hR⟩:=Qd (zcR s d)
 rw[<-hR];have ka:=zHi (zea (hd.parts (.inl ck)).2);have bA:=hd.len;obtain⟨gxs,hm,bE,br⟩:=znK h.graves;obtain⟨HM,dt,BL⟩:=yH3 hm bE br;unfold zcR at hR;clear ck hm bE br;obtain⟨H,HK,HF,HD,HS,HR⟩:=yH6 (λW (hB:Qa w W)=>h.keep hB) hk hf hd (λW (hB:Qa w W)=>hS.keep hB) hR;unfold Deed.v;clear h hk hf hd hS hR;go_enter Tryz.func130,Tryz.ntmps130
 go_upto_region 1 with fail
 generalize am:World.alloc (World.alloc (World.alloc w _) _) _=W0;obtain⟨ak,av⟩:=zeN am;clear am;have ay:=ak.o.size;obtain⟨⟨xs0,xd0,xr0⟩,⟨s0,s1,s2,s3,s4,s5,s6⟩,⟨d0,d1,d2,d3,d4,d5,d6⟩,⟨r0,r1,r2,r3,r4,r5,r6⟩,rf,ls,ld,lr⟩:=ddF (av.o W0 Qb);have eJ:=zHi (λW (hB:Qa W0 W)=>zki d.place d.day W (H.o W (ak.o.trans (hB.mono ay))) HF.o);have kw:=zHi (λW (hB:Qa W0 W)=>zm2 d.to B c W (H.o W (ak.o.trans (hB.mono ay))) HF.o McS (HS.o W (ak.o.trans (hB.mono ay))));have hr:=HR.o;cases aH:zaL s d.place d.day with
 |some i=>
  rw[aH]at hr;rw[zdW aH]at eJ;have eE:(0:Int)<=(i:Int):=McS;have HE:Hid (R=(s,13)):=zHi hr;clear hr aH;go_upto_region 2 with(go_at_call 59;go_must(refine(eJ.o _ Qb).mono ?_);rintro e wq ⟨rfl,z,rfl⟩)
  have bl:=zan W0 z;exact Mcd
 |none=>
  rw[aH]at hr;rw[zgN aH]at eJ;simp only[Option.isSome_none,Bool.false_eq_true,if_false]at hr;cases ft:zdZ s d.to;rotate_left 1
  ·have HE:Hid (R=(s,28)):=by show _=_;rw[hr,ft];rfl
   rw[ft]at kw;clear hr aH ft
   go_upto_region 4 with(first
    |(go_at_call 59;go_must(refine(eJ.o _ Qb).mono ?_);rintro e wq ⟨rfl,z,rfl⟩)
    |(go_at_call 158;go_must(refine(kw.o _ Bw).mono ?_);rintro e wq ⟨rfl,z3,rfl⟩))
   have bl:Qa W0 ((W0.ext z).ext z3):=zb2 (zan _ _) _;have bl:=bl;exact Mcd
  rw[ft,if_neg McV]at hr;rw[ft]at kw;have Bj:=zHi (λW=>zkh d.day d.years W HD.o.day.1 HD.o.day.2 HD.o.years.1 HD.o.years.2);generalize zcf d.day d.years=af at*;have bK:=zHi hr;clear hr aH ft
  go_upto_region 6 with(first
   |(go_at_call 59;go_must(refine(eJ.o _ Qb).mono ?_);rintro e wq ⟨rfl,z,rfl⟩)
   |(go_at_call 158;go_must(refine(kw.o _ Bw).mono ?_);rintro e wq ⟨rfl,z3,rfl⟩))
  obtain⟨GB,jB⟩:=Qd (W0.heap.size+z.os.size+z3.os.size)
  obtain⟨W1,aX⟩:=Qd (((W0.ext z).ext z3).alloc (.cells #[.string d.place,.int .i64 d.cls,.int .i64 (-1),.slice none 0 0,.slice none 0 0] 91))
  have gG:W1.heap[GB]?=some (.cells #[.string d.place,.int .i64 d.cls,.int .i64 (-1),.slice none 0 0,.slice none 0 0] 91):=by rw[aX];exact zas _ _ _ (by rw[jB];simp[zaf])
  have aW:Qa W0 W1:=by rw[aX];exact zad (zb2 (zan _ _) _) _
  have jd:W0.heap.size<=GB:=McS;rw[<-aX,<-jB];clear aX jB eJ kw;clear xs0 xd0 xr0 s0 s1 s2 s3 s4 s5 s6 d0 d1 d2 d3 d4 d5 d6 r0 r1 r2 r3 r4 r5 r6 rf ls ld lr;obtain⟨g0,g1,g2,g3,g4⟩:=zeg gG;have gf:=frz gG;have gl:=zab gG;obtain⟨GG,aL⟩:=yH2 gG aW;clear gG aW;obtain⟨⟨xs0,xd0,xr0⟩,⟨s0,s1,s2,s3,s4,s5,s6⟩,⟨d0,d1,d2,d3,d4,d5,d6⟩,⟨r0,r1,r2,r3,r4,r5,r6⟩,rf,ls,ld,lr⟩:=ddF (av.o W1 (aL.o));go_upto_if 28 with fail
  go_cut [5]from 26 to 39 (λv wc=>v=v/\∃fin:Int,Hid (R=({s with graves:=s.graves++[⟨d.place,d.cls,fin,zbe d.to [],[]⟩]},0))/\wc.heap[GB]?=some (.cells #[.string d.place,.int .i64 d.cls,.int .i64 (fin),.slice none 0 0,.slice none 0 0] 91)/\Qa W0 wc)
  case first=>
   by_cases hy:0<d.years
   ·have hr:=bK.o;have uz:decide (0<d.years)=true:=by simpa using hy
    rw[uz]at hr;simp only[Bool.true_and,if_true]at hr;go_upto_region 8 with(go_at_call 159;go_must(refine(Bj.o _).mono ?_);rintro e wq ⟨rfl,z5,rfl⟩)
    obtain⟨W2,cN⟩:=Qd ((W1.setCell ⟨GB,2,none⟩ (.int .i64 af)).ext z5)
    have gG2:W2.heap[GB]?=some (.cells #[.string d.place,.int .i64 d.cls,.int .i64 (af),.slice none 0 0,.slice none 0 0] 91):=by
     rw[cN];exact MbN
    have bV:Qa W0 W2:=by rw[cN];exact zb2 (zaS aL.o jd _) z5
    rw[<-cN];clear cN g0 g1 g2 g3 g4 gf gl;clear xs0 xd0 xr0 s0 s1 s2 s3 s4 s5 s6 d0 d1 d2 d3 d4 d5 d6 r0 r1 r2 r3 r4 r5 r6 rf ls ld lr;obtain⟨g0,g1,g2,g3,g4⟩:=zeg gG2;have gl:=zab gG2;obtain⟨aN,G2⟩:=yH2 bV gG2;clear bV gG2;obtain⟨⟨xs0,xd0,xr0⟩,⟨s0,s1,s2,s3,s4,s5,s6⟩,⟨d0,d1,d2,d3,d4,d5,d6⟩,⟨r0,r1,r2,r3,r4,r5,r6⟩,rf,ls,ld,lr⟩:=ddF (av.o W2 (aN.o));by_cases oV:af<0
    ·have HE:Hid (R=(s,2)):=by show _=_;rw[hr,if_pos (by simpa using oV)]
     clear hr;go_upto_region 9 with fail
     have bl:=aN.o;exact Mg
    ·have HE:Hid (R=({s with graves:=s.graves++[⟨d.place,d.cls,af,zbe d.to [],[]⟩]},0)):=by show _=_;rw[hr,if_neg (by simpa using oV)]
     clear hr;go_wp2_with fail
     go_meet
     exact⟨by first|rfl|trivial,af,HE,G2.o,aN.o⟩
   ·have hr:=bK.o;have uz:decide (0<d.years)=false:=by simpa using hy
    rw[uz]at hr;simp only[Bool.false_and,Bool.false_eq_true,if_false]at hr;have HE:=zHi hr;clear hr;go_wp2_with fail
    go_meet
    exact⟨by first|rfl|trivial,-1,HE,GG.o,aL.o⟩
  case rest=>
   obtain⟨_,fin,HE,gG2,bV⟩:=hcut;obtain⟨W2,cN⟩:=Qd wc
   subst cN;have aN:=zHi bV;have lD:=bV.size;have ik:=zHi gG2
   have pG:GrSt [] (zaq d.to):=⟨⟨List.Pairwise.nil,by simp⟩,by simp,by show(0:Rat)+_<=1;have:=ka.o.2.1;grind,λp hp=>by
    obtain⟨q,hq,rfl⟩:=List.mem_map.1 hp;have:=(ka.o.1 q hq).1;show 0<=q.rat;grind,λp hp=>by
    obtain⟨q,hq,rfl⟩:=List.mem_map.1 hp
    exact(ka.o.1 q hq).2.1⟩
   have Cl:=zHi pG;clear g0 g1 g2 g3 g4 gf gl bV gG2 pG;clear xs0 xd0 xr0 s0 s1 s2 s3 s4 s5 s6 d0 d1 d2 d3 d4 d5 d6 r0 r1 r2 r3 r4 r5 r6 rf ls ld lr;go_upto_region 11 with fail
   go_loopw [7] (λn wr=>∃(k:Nat) (out:Parts) (VA:Option Addr) (vc:Nat),k<=d.to.length/\n=.int .i64 k/\Hid (R=({s with graves:=s.graves++[⟨d.place,d.cls,fin,zbe (d.to.drop k) out,[]⟩]},0))/\Hid (GrSt out (zaq (d.to.drop k)))/\out.length<=k/\OwnS wr W0.heap.size 55 3 zaa (.slice VA out.length vc) out/\wr.heap[GB]?=some (.cells #[.string d.place,.int .i64 d.cls,.int .i64 (fin),.slice VA out.length vc,.slice none 0 0] 91)/\Qa W0 wr) (λn _=>d.to.length-(intOf n).toNat)
   case atStart=>exact⟨0,[],none,0,Nat.zero_le _,rfl,HE,Cl,Qc,OwnS.nil,ik.o,aN.o⟩
   case round=>
    obtain⟨k,out,VA,vc,hk,rfl,HX,HG,kQ,aa,iN,cB⟩:=hrel;have uN:=cB.size;obtain⟨g0,g1,g2,g3,g4⟩:=zeg iN;have gl:=zab iN;obtain⟨bD,HO,ez⟩:=yH3 cB aa iN;obtain⟨⟨xs0,xd0,xr0⟩,⟨s0,s1,s2,s3,s4,s5,s6⟩,⟨d0,d1,d2,d3,d4,d5,d6⟩,⟨r0,r1,r2,r3,r4,r5,r6⟩,rf,ls,ld,lr⟩:=ddF (av.o wr (cB));have wa:=zHi (HS.o wr (ak.o.trans (cB.mono ay)));by_cases ae:k<d.to.length
    ·obtain⟨b,off,hA,hb,ah⟩:=wa.o.at ae;have hx:=HX.o;have aq:=HG.o;have i8:d.to.drop k=d.to[k]::d.to.drop (k+1):=List.drop_eq_getElem_cons ae;rw[i8]at hx aq;have bS:=(ka.o.1 _ (List.getElem_mem ae)).2.2;have aj:=zHi ae;clear i8;generalize d.to[k]=y at*;obtain⟨nm,nu,de⟩:=y;have cP:R=({s with graves:=s.graves++[⟨d.place,d.cls,fin,zbe (d.to.drop (k+1)) (za5 out nm (Rat.divInt nu de)),[]⟩]},0):=hx;have df:GrSt out ((nm,Rat.divInt nu de)::zaq (d.to.drop (k+1))):=aq;simp only at bS;have i0:wr.cell? ⟨b,off+k*3,none⟩=some (.string nm):=ah 0 _ rfl;have i1:wr.cell? ⟨b,off+k*3+1,none⟩=some (.int .i64 nu):=ah 1 _ rfl;have i2:wr.cell? ⟨b,off+k*3+2,none⟩=some (.int .i64 de):=ah 2 _ rfl;have au:(k:Int)<(d.to.length:Int):=McS;have aR:(0:Int)<=(k:Int):=McS;obtain⟨r1,r2,r3,r4⟩:=zbl bS;have eK:=zHi (λW (hW:Qa wr W)=>zcW out nm (Rat.divInt nu de) VA vc W McS df.parts df.small (zja zak (HO.o.keep hW)).1);unfold zaA at eK;rw[r1,r2]at eK;obtain⟨kA,aw⟩:=yH2 df.next cP;have bQ:=zcz nm (Rat.divInt nu de) out;rw[hA]at d4
     have aJ:=zHi (λ(W:World) (h:Qa wr W)=>(show W.cell? ⟨w.heap.size+1,4,none⟩=some (.slice (some ⟨b,off,none⟩) d.to.length c)/\W.cell? ⟨GB,3,none⟩=some (.slice VA out.length vc)/\W.cell? ⟨b,off+k*3,none⟩=some (.string nm)/\W.cell? ⟨b,off+k*3+1,none⟩=some (.int .i64 nu)/\W.cell? ⟨b,off+k*3+2,none⟩=some (.int .i64 de) from⟨(zai h ld).trans d4,(zai h gl).trans g3,(zai h hb).trans i0,(zai h hb).trans i1,(zai h hb).trans i2⟩));clear ah hx aq cP df bS ae r1 r2 r3 r4 aa iN hA;generalize za5 out nm (Rat.divInt nu de)=out1 at*;go_upto_region 13 with fail
     refine za9 14 (λbb w'=>bb=true\/(w'.cell? ⟨w.heap.size+1,4,none⟩=some (.slice (some ⟨b,off,none⟩) d.to.length c)/\w'.cell? ⟨GB,3,none⟩=some (.slice VA out.length vc)/\w'.cell? ⟨b,off+k*3,none⟩=some (.string nm)/\w'.cell? ⟨b,off+k*3+1,none⟩=some (.int .i64 nu)/\w'.cell? ⟨b,off+k*3+2,none⟩=some (.int .i64 de))) McT (.inr (aJ.o _ (zaF Qb))) ?hrest
     case hrest=>
      intro hHeld;clear g0 g1 g2 g3 g4 i0 i1 i2;clear xs0 xd0 xr0 s0 s1 s2 s3 s4 s5 s6 d0 d1 d2 d3 d4 d5 d6 r0 r1 r2 r3 r4 r5 r6 rf ls ld lr;refine TkM 0 ?_;refine TkM 1 ?_;refine TkM 2 ?_;refine TkM 3 ?_;refine TkM 4 ?_;refine TkM 5 ?_;refine TkM 6 ?_;refine TkM 7 ?_;refine TkM 8 ?_;refine TkM 9 ?_;refine TkM 10 ?_;refine TkM 11 ?_;refine TkM 12 ?_;refine TkM 13 ?_;refine OnM 14 true λK hK=>?_
      go_simp
      refine(eK.o _ (zaF Qb)).mono ?_;rintro e w5 ⟨v5,rfl,o5,b5⟩;obtain⟨YA,yc,rfl,_,_⟩:=o5.sl zak;have ar:Qa wr w5:=(zaF Qb).trans b5;have g5:=(ar.block GB gl).trans ez.o;refine NxM hK λhHeld=>?_
      clear hK K;refine OnM 15 true λK hK=>?_
      go_simp
      refine NxM hK λhHeld=>?_
      clear hK K;obtain⟨g0,g1,g2,g3,g4⟩:=zeg g5;have gf:=frz g5;have gl5:=zab g5;refine OnM 16 true λK hK=>?_
      go_simp
      refine NxM hK λhHeld=>?_
      clear hK K;refine zaO McT ?_ _;obtain⟨O5,G5,bf⟩:=yH3 (o5.base_le (show W0.heap.size<=wr.drew.heap.size by show W0.heap.size<=wr.heap.size;omega)) g5 (bD.o.trans (ar.mono uN));clear hHeld g0 g1 g2 g3 g4 gf gl5 g5 o5 b5 ar;go_wp2_with fail
      go_round
      case rel=>
       refine⟨k+1,out1,YA,yc,aj.o,by go_num,aw,kA,by omega,O5.o.kept (za1 _ _ _ _) G5.o McU,?_,zaS bf.o jd _⟩;have:=Joins.block_setCell (i:=3) G5.o (.slice YA out1.length yc);simpa using this
      case measure=>have:=aj.o;simp only[intOf];omega
    ·have au:¬(k:Int)<(d.to.length:Int):=McS;have hx:=HX.o;rw[List.drop_of_length_le McS]at hx;have kx:Hid (R=({s with graves:=s.graves++[⟨d.place,d.cls,fin,out,[]⟩]},0)):=Mex;have La:=HF.o.graves;clear hx ae aa iN;go_upto_region 14 with fail
     clear au;obtain⟨WX,kJ⟩:=Qd wr
     subst kJ;have eH:=bD.o.size;have bw:Hid (s.graves.length=(gxs).length):=zHi (by rw[<-HM.o,List.length_map]);have ub:Hid ((gxs).length<=1000):=zHi (by rw[<-bw.o];exact HF.o.graves);have bU:=zHi (λW (hB:Qa WX W)=>BL.o.keep (ak.o.trans ((bD.o.trans (hB.mono eH)).mono ay)));have aJ:=zHi (λ(W:World) (h:Qa WX W)=>(show W.cell? ⟨w.heap.size,6,none⟩=some (.slice GA s.graves.length c6)/\W.cell? ⟨GB,0,none⟩=some (.string d.place)/\W.cell? ⟨GB,1,none⟩=some (.int .i64 d.cls)/\W.cell? ⟨GB,2,none⟩=some (.int .i64 fin)/\W.cell? ⟨GB,3,none⟩=some (.slice VA out.length vc)/\W.cell? ⟨GB,4,none⟩=some (.slice none 0 0) from⟨(zai h ls).trans s6,(zai h gl).trans g0,(zai h gl).trans g1,(zai h gl).trans g2,(zai h gl).trans g3,(zai h gl).trans g4⟩));clear g0 g1 g2 g3 g4;go_cut [5]from 62 to 70 (λv wc=>(v=v/\∃V c',wc.heap[w.heap.size]?=some (.cells #[.slice LA laws.length c0,.slice CA s.children.length c1,.slice MA s.marriages.length c2,.slice DA s.dead.length c3,.slice WA wd.length c4,.slice RA rd.length c5,.slice V (s.graves.length+1) c'] 86)/\wc.heap[w.heap.size+2]?=some (.cells #[.slice none 0 0,.slice none 0 0,.slice none 0 0,.slice none 0 0,.slice none 0 0,.slice none 0 0,.slice none 0 0] 86)/\Ro wc 91 GX.cells V (gxs++[(⟨⟨d.place,d.cls,fin,out,[]⟩,VA,vc,none,0⟩:GX)])/\Qa w wc)/\Ro wc 55 zaa VA out)
     case first=>
      refine za9 6 (λbb w'=>bb=true\/(w'.cell? ⟨w.heap.size,6,none⟩=some (.slice GA s.graves.length c6)/\w'.cell? ⟨GB,0,none⟩=some (.string d.place)/\w'.cell? ⟨GB,1,none⟩=some (.int .i64 d.cls)/\w'.cell? ⟨GB,2,none⟩=some (.int .i64 fin)/\w'.cell? ⟨GB,3,none⟩=some (.slice VA out.length vc)/\w'.cell? ⟨GB,4,none⟩=some (.slice none 0 0))) McT (.inr (aJ.o _ (zaF Qb))) ?hrest
      case hrest=>
       intro hHeld;clear xs0 xd0 xr0 s0 s1 s2 s3 s4 s5 s6 d0 d1 d2 d3 d4 d5 d6 r0 r1 r2 r3 r4 r5 r6 rf ls ld lr;refine TkM 1 ?_;refine TkM 2 ?_;refine TkM 4 ?_;refine TwM 0 5 (λK hK=>?_) λK hK=>?_
       ·go_simp
        have e0:Qa WX (WX.drew.alloc (.cells #[] 91)):=zad (zaF Qb) _;have m0:OwnS (WX.drew.alloc (.cells #[] 91)) WX.heap.size 91 5 GX.cells (.slice (some ⟨WX.heap.size,0,none⟩) 0 0) []:=zdX zcX WX.drew WX.heap.size Qc;refine NxM hK (λhHeld=>?_) (.inr (aJ.o _ e0));clear hK K;refine TwM 3 5 (λK hK=>?_) λK hK=>?_
        ·refine zap (v:=.slice (some ⟨WX.heap.size,0,none⟩) 0 0) (n:=0) (m:=s.graves.length) rfl _ _ rfl zhu zcX zkk rfl (xs:=[]) (ys:=gxs) (m0) rfl rfl bw.o (bU.o _ e0) Mc0 Mdc Mc4 ?_;intro v4 w4 h1 h2 h3;rw[List.nil_append]at h1;obtain⟨V4,c4',be,_,_⟩:=h1.sl zcX;rw[<-bw.o]at be;subst be;have aB:Qa WX w4:=Below.grown e0 h2 MdP (λj hj=>by simp[za4]at hj;omega);refine NxM hK (λhHeld=>?_) (.inr (aJ.o _ aB));clear hK K;refine OnM 5 false λK hK=>?_
         go_simp
         have e1:Qa WX (w4.alloc (.cells #[.string d.place,.int .i64 d.cls,.int .i64 fin,.slice VA out.length vc,.slice none 0 0] 91)):=zad aB _;have n1:(w4.alloc (.cells #[.string d.place,.int .i64 d.cls,.int .i64 fin,.slice VA out.length vc,.slice none 0 0] 91)).heap[w4.heap.size]?=some (.cells #[.string d.place,.int .i64 d.cls,.int .i64 fin,.slice VA out.length vc,.slice none 0 0] 91):=zas _ _ _ rfl;have o1:OwnS (w4.alloc (.cells #[.string d.place,.int .i64 d.cls,.int .i64 fin,.slice VA out.length vc,.slice none 0 0] 91)) WX.heap.size 91 5 GX.cells (.slice V4 s.graves.length c4') gxs:=h1.keep (n:=w4.heap.size) (zad Qb _);refine NxM hK (λhHeld=>?_) (.inr (aJ.o _ e1));clear hK K;have o9:=o1;have n9:=n1;have e9:=e1;exact Mk
        ·go_simp
         have e1:Qa WX ((WX.drew.alloc (.cells #[] 91)).alloc (.cells #[.string d.place,.int .i64 d.cls,.int .i64 fin,.slice VA out.length vc,.slice none 0 0] 91)):=zad e0 _;have n1:((WX.drew.alloc (.cells #[] 91)).alloc (.cells #[.string d.place,.int .i64 d.cls,.int .i64 fin,.slice VA out.length vc,.slice none 0 0] 91)).heap[WX.heap.size+1]?=some (.cells #[.string d.place,.int .i64 d.cls,.int .i64 fin,.slice VA out.length vc,.slice none 0 0] 91):=zas _ _ _ McV;have m1:OwnS ((WX.drew.alloc (.cells #[] 91)).alloc (.cells #[.string d.place,.int .i64 d.cls,.int .i64 fin,.slice VA out.length vc,.slice none 0 0] 91)) WX.heap.size 91 5 GX.cells (.slice (some ⟨WX.heap.size,0,none⟩) 0 0) []:=m0.keep (n:=(WX.drew.alloc (.cells #[] 91)).heap.size) (zad Qb _);refine NxM hK (λhHeld=>?_) (.inr (aJ.o _ e1));clear hK K;refine OnM 3 false λK hK=>?_
         refine zap (v:=.slice (some ⟨WX.heap.size,0,none⟩) 0 0) (n:=0) (m:=s.graves.length) rfl _ _ rfl zhu zcX zkk rfl (xs:=[]) (ys:=gxs) (m1) rfl rfl bw.o (bU.o _ e1) Mc0 Mdc McZ ?_;intro v4 w4 h1 h2 h3;rw[List.nil_append]at h1;obtain⟨V4,c4',be,_,_⟩:=h1.sl zcX;rw[<-bw.o]at be;subst be;have aB:Qa WX w4:=Below.grown e1 h2 Mde (λj hj=>by simp[za4]at hj;omega);have n2:w4.heap[WX.heap.size+1]?=some (.cells #[.string d.place,.int .i64 d.cls,.int .i64 fin,.slice VA out.length vc,.slice none 0 0] 91):=(h2.block _ Mda MdI).trans n1;exact Mcx
       ·go_simp
        have e0:Qa WX (WX.drew.alloc (.cells #[.string d.place,.int .i64 d.cls,.int .i64 fin,.slice VA out.length vc,.slice none 0 0] 91)):=zad (zaF Qb) _;have n0:(WX.drew.alloc (.cells #[.string d.place,.int .i64 d.cls,.int .i64 fin,.slice VA out.length vc,.slice none 0 0] 91)).heap[WX.heap.size]?=some (.cells #[.string d.place,.int .i64 d.cls,.int .i64 fin,.slice VA out.length vc,.slice none 0 0] 91):=zas _ _ _ rfl;refine NxM hK (λhHeld=>?_) (.inr (aJ.o _ e0));clear hK K;refine OnM 0 false λK hK=>?_
        go_simp
        have e1:Qa WX ((WX.drew.alloc (.cells #[.string d.place,.int .i64 d.cls,.int .i64 fin,.slice VA out.length vc,.slice none 0 0] 91)).alloc (.cells #[] 91)):=zad e0 _;have n1:((WX.drew.alloc (.cells #[.string d.place,.int .i64 d.cls,.int .i64 fin,.slice VA out.length vc,.slice none 0 0] 91)).alloc (.cells #[] 91)).heap[WX.heap.size]?=some (.cells #[.string d.place,.int .i64 d.cls,.int .i64 fin,.slice VA out.length vc,.slice none 0 0] 91):=zal n0;have m1:OwnS ((WX.drew.alloc (.cells #[.string d.place,.int .i64 d.cls,.int .i64 fin,.slice VA out.length vc,.slice none 0 0] 91)).alloc (.cells #[] 91)) WX.heap.size 91 5 GX.cells (.slice (some ⟨WX.heap.size+1,0,none⟩) 0 0) []:=by
         have:=zdX (t:=91) zcX (WX.drew.alloc (.cells #[.string d.place,.int .i64 d.cls,.int .i64 fin,.slice VA out.length vc,.slice none 0 0] 91)) WX.heap.size McV;simpa using this
        refine NxM hK (λhHeld=>?_) (.inr (aJ.o _ e1));clear hK K;refine OnM 3 false λK hK=>?_
        refine zap (v:=.slice (some ⟨WX.heap.size+1,0,none⟩) 0 0) (n:=0) (m:=s.graves.length) rfl _ _ rfl zhu zcX zkk rfl (xs:=[]) (ys:=gxs) (m1) rfl rfl bw.o (bU.o _ e1) Mc0 Mdc McZ ?_;intro v4 w4 h1 h2 h3;rw[List.nil_append]at h1;obtain⟨V4,c4',be,_,_⟩:=h1.sl zcX;rw[<-bw.o]at be;subst be;have aB:Qa WX w4:=Below.grown e1 h2 Mde (λj hj=>by simp[za4]at hj;omega);have n2:w4.heap[WX.heap.size]?=some (.cells #[.string d.place,.int .i64 d.cls,.int .i64 fin,.slice VA out.length vc,.slice none 0 0] 91):=(h2.block _ Mda MdI).trans n1;exact Mcx
     case rest=>
      obtain⟨⟨_,V,c',dQ,cx,ej,oQ⟩,pF⟩:=hcut;clear xs0 xd0 xr0 s0 s1 s2 s3 s4 s5 s6 d0 d1 d2 d3 d4 d5 d6 r0 r1 r2 r3 r4 r5 r6 rf ls ld lr;obtain⟨s0,s1,s2,s3,s4,s5,s6⟩:=zaG dQ;obtain⟨r0,r1,r2,r3,r4,r5,r6⟩:=zaG cx;have rf:=frz cx;have ls:=zab dQ;have lr:=zab cx;go_wp2_with fail
      rw[kx.o];have cC:=zcC (a0:=.slice LA laws.length c0) (a1:=.slice CA s.children.length c1) (a2:=.slice MA s.marriages.length c2) (a3:=.slice DA s.dead.length c3) (a4:=.slice WA wd.length c4) (a5:=.slice RA rd.length c5) (a6:=.slice V (s.graves.length+1) c') oQ (show w.heap.size<=w.heap.size+2 by omega);refine bodyPost_ret (zbB rfl _ rfl rfl (zc0 cx)) rfl ?_;have h':=H.o _ cC;refine⟨_,_,_,_,_,_,_,rfl,rfl,cC,λ_=>⟨wd,rd,LA,CA,MA,DA,WA,RA,V,c0,c1,c2,c3,c4,c5,c',rfl,rfl,rfl,rfl,rfl,rfl,by rw[List.length_append];rfl,⟨h'.laws,h'.kids,h'.marr,h'.dead,h'.wills,h'.ren,?_,h'.deadc⟩,⟨HK.o.wills,HK.o.shares,HK.o.ren,HK.o.tos⟩⟩⟩;refine slw_gx ((zjm ej cx McU).sl zcX) (by rw[List.map_append,HM.o];rfl) λx hx=>?_
      rcases List.mem_append.1 hx with hx|hx
      ·exact(dt.o x hx).keep cC
      ·rw[List.mem_singleton.1 hx];exact⟨(zjm pF cx McU).sl zak,Sl.nil⟩

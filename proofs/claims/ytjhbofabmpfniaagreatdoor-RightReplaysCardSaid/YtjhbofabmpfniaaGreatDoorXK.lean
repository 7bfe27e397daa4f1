/- Walks of the reference's marry, child. -/
import Derived.Test.YtjhbofabmpfniaaGreatDoorXJ
set_option linter.unusedSimpArgs false
set_option linter.unusedVariables false
set_option maxRecDepth 100000
set_option maxHeartbeats 4000000
namespace Go.Proofs.YtjhbofabmpfniaaGreatDoor
open Go.RowKit Go.Shelf
attribute [local go_sem] World.cell?_alloc_mark zae za3 zam za6 zas zat zau zav zaw zax zay
attribute [local go_sem] zaj zac
theorem zdY {t:TypeId} {α:Type} {f:α->List Value} {size:Nat} (ag: ∀x,(f x).length=size) (W:World) (base:Nat) (h:base<=W.heap.size):OwnS (W.alloc (.cells #[] t)) base t size f (.slice (some ⟨W.heap.size,0,none⟩) 0 0) []:=
 OwnS.of_own ag (World.ownsRow_made W #[] 0 h (Nat.zero_le _) Mcq)
theorem to_head {d:Deed} (h:d.to.length=1): ∃y,d.to[0]?=some y/\zbf d=y.name:=by
 obtain⟨y,hy⟩:=List.length_eq_one_iff.1 h;exact⟨y,by rw[hy];rfl,by unfold zbf;rw[hy];rfl⟩
theorem zn0 {d:Deed} {W:World} {B:Option Addr} (h:d.to.length=1) (hS:Sl W 3 RPart.cells B d.to): ∃b off,B=some ⟨b,off,none⟩/\b<W.heap.size/\W.cell? ⟨b,off,none⟩=some (.string (zbf d)):=by
 obtain⟨y,hy,he⟩:=to_head h;obtain⟨b,off,hA,hb,hc⟩:=hS Mcn;refine⟨b,off,hA,hb,?_⟩;rw[he];have:=hc 0 y hy 0 _ rfl;simpa using this
theorem zpj (laws:List Law) (s:St) (wd rd:List Deed) (LA CA MA DA WA RA GA:Option Addr) (c0 c1 c2 c3 c4 c5 c6:Nat) (d:Deed) (B:Option Addr) (c:Nat) (w:World) (h:StIn w laws s wd rd LA CA MA DA WA RA GA c0 c1 c2 c3 c4 c5 c6) (hk:StLink s wd rd) (hf:StFew s wd rd) (hd:OkD d) (hS:Sl w 3 RPart.cells B d.to) (bQ:d.kind=7):Calls Tryz.prog 186 #[.agg #[.slice LA laws.length c0, .slice CA s.children.length c1, .slice MA s.marriages.length c2, .slice DA s.dead.length c3, .slice WA wd.length c4, .slice RA rd.length c5, .slice GA s.graves.length c6],d.v B c] w (zeX w laws (zdr s d)):=by
 obtain⟨R,hR⟩: ∃R,R=zdr s d:=⟨_,rfl⟩
 rw[<-hR];have aR:=(hd.one (.inr (.inr bQ))).1;have ta:=zHi (fun W (hS:Sl W 3 RPart.cells B d.to)=>zn0 aR hS);have nH:(0:Int)<(d.to.length:Int):=Mcn;unfold zdr at hR;generalize zbf d=tn at*;clear bQ aR;have H:=zHi (fun W (hB:Below w.heap.size w W)=>h.keep hB);have HK:=zHi hk;have HF:=zHi hf;have HD:=zHi hd;have HS:=zHi (fun W (hB:Below w.heap.size w W)=>hS.keep hB);have HR:=zHi hR;unfold Deed.v;clear h hk hf hd hS hR;go_enter Tryz.func186,Tryz.ntmps186
 go_upto_region 1 with fail
 generalize ao:World.alloc (World.alloc (World.alloc w _) _) _=W0;obtain⟨ak,ax⟩:=zeP ao;clear ao;have aw:=ak.o.size;obtain⟨⟨xs0,xd0,xr0⟩,⟨s0,s1,s2,s3,s4,s5,s6⟩,⟨d0,d1,d2,d3,d4,d5,d6⟩,⟨r0,r1,r2,r3,r4,r5,r6⟩,rf,ls,ld,lr⟩:=ddF (ax.o W0 (Below.refl _ _));have sR:=zHi (fun x W (hB:Below W0.heap.size W0 W)=>sDead x W (H.o W (ak.o.trans (hB.mono aw))) HF.o);have jh:=zHi (fun x W (hB:Below W0.heap.size W0 W)=>sSpouse x W (H.o W (ak.o.trans (hB.mono aw))) HF.o);obtain⟨b,off,hA,hb,jV⟩:=ta.o W0 (HS.o W0 ak.o);have hr:=HR.o;rw[hA]at d4;go_upto_region 2 with fail
 cases ca:zaK s d.frm;rotate_left 1
 ·have HE:Hid (R=(s,28)):=Mec;clear hr;go_upto_region 3 with(go_at_call 32;go_must(refine(sR.o _ _ (Below.refl _ _)).mono ?_);rintro e wq ⟨rfl,z,rfl⟩;rw[ca])
  have bf:=zaq W0 z;exact MbR
 cases dX:zaK s tn;rotate_left 1
 ·have HE:Hid (R=(s,28)):=by show _=_;rw[hr,ca,dX];rfl
  clear hr;go_upto_region 3 with(go_at_call 32;go_must(refine(sR.o _ _ Bw).mono ?_);rintro e wq ⟨rfl,zz,rfl⟩;first|(rw[ca];obtain⟨z,rfl⟩: ∃z,z=zz:=⟨_,rfl⟩)|(rw[dX];obtain⟨z2,rfl⟩: ∃z,z=zz:=⟨_,rfl⟩))
  obtain⟨W1,aM⟩: ∃W1,W1=(W0.ext z).ext z2:=⟨_,rfl⟩
  have aS:Below W0.heap.size W0 W1:=by rw[aM];exact zb6 (zaq _ _) _
  rw[<-aM];clear aM;have bf:=aS;exact MbR
 go_upto_region 4 with(go_at_call 32;go_must(refine(sR.o _ _ Bw).mono ?_);rintro e wq ⟨rfl,zz,rfl⟩;first|(rw[ca];obtain⟨z,rfl⟩: ∃z,z=zz:=⟨_,rfl⟩)|(rw[dX];obtain⟨z2,rfl⟩: ∃z,z=zz:=⟨_,rfl⟩))
 rw[ca,dX,Bool.or_false,if_neg Mcq]at hr;obtain⟨W1,aM⟩: ∃W1,W1=(W0.ext z).ext z2:=⟨_,rfl⟩
 have aS:Below W0.heap.size W0 W1:=by rw[aM];exact zb6 (zaq _ _) _
 have gw:=aS.size;rw[<-aM];have aA:=zHi aS;clear aM aS;clear xs0 xd0 xr0 s0 s1 s2 s3 s4 s5 s6 d0 d1 d2 d3 d4 d5 d6 r0 r1 r2 r3 r4 r5 r6 rf ls ld lr;obtain⟨⟨xs0,xd0,xr0⟩,⟨s0,s1,s2,s3,s4,s5,s6⟩,⟨d0,d1,d2,d3,d4,d5,d6⟩,⟨r0,r1,r2,r3,r4,r5,r6⟩,rf,ls,ld,lr⟩:=ddF (ax.o W1 (aA.o));cases cB:noB (zaJ s d.frm)
 ·have HE:Hid (R=(s,13)):=by show _=_;rw[hr,cB];rfl
  have w1: ¬(zaJ s d.frm).toList=[]:=by simpa using(show(zaJ s d.frm).toList.isEmpty=false from cB)
  have y1:(zaJ s d.frm).toList.isEmpty=false:=cB;clear hr cB;go_upto_region 5 with(go_at_call 48;go_must(refine(jh.o _ _ aA.o).mono ?_);rintro e wq ⟨rfl,z3,rfl⟩)
  have bf:=zb6 aA.o z3;exact MbR
 have w1:(zaJ s d.frm).toList=[]:=by simpa using(show(zaJ s d.frm).toList.isEmpty=true from cB)
 have y1:(zaJ s d.frm).toList.isEmpty=true:=cB;cases dZ:noB (zaJ s tn)
 ·have HE:Hid (R=(s,13)):=by show _=_;rw[hr,cB,dZ];rfl
  have w2: ¬(zaJ s tn).toList=[]:=by simpa using(show(zaJ s tn).toList.isEmpty=false from dZ)
  have y2:(zaJ s tn).toList.isEmpty=false:=dZ;clear hr cB dZ;go_upto_region 5 with(go_at_call 48;go_must(refine(jh.o _ _ Mel).mono ?_);rintro e wq ⟨rfl,zz,rfl⟩;first|(rw[show zaJ s tn=zaJ s tn from rfl];obtain⟨z4,rfl⟩: ∃z,z=zz:=⟨_,rfl⟩)|(obtain⟨z3,rfl⟩: ∃z,z=zz:=⟨_,rfl⟩))
  obtain⟨W2,cF⟩: ∃W2,W2=(W1.ext z3).ext z4:=⟨_,rfl⟩
  have bn:Below W0.heap.size W0 W2:=by rw[cF];exact zb6 (zb6 aA.o _) _
  rw[<-cF];clear cF;have bf:=bn;exact MbR
 have w2:(zaJ s tn).toList=[]:=by simpa using(show(zaJ s tn).toList.isEmpty=true from dZ)
 have y2:(zaJ s tn).toList.isEmpty=true:=dZ;rw[cB,dZ,Bool.not_true,Bool.or_false,if_neg Mcq]at hr;have HE:=zHi hr;clear hr cB dZ;go_upto_region 6 with(go_at_call 48;go_must(refine(jh.o _ _ Mel).mono ?_);rintro e wq ⟨rfl,zz,rfl⟩;first|(rw[show zaJ s tn=zaJ s tn from rfl];obtain⟨z4,rfl⟩: ∃z,z=zz:=⟨_,rfl⟩)|(obtain⟨z3,rfl⟩: ∃z,z=zz:=⟨_,rfl⟩))
 obtain⟨WX,kp⟩: ∃WX,WX=(W1.ext z3).ext z4:=⟨_,rfl⟩
 have fx:Below W0.heap.size W0 WX:=by rw[kp];exact zb6 (zb6 aA.o _) _
 rw[<-kp];have bx:=zHi fx;have dU:=fx.size;clear kp fx;clear xs0 xd0 xr0 s0 s1 s2 s3 s4 s5 s6 d0 d1 d2 d3 d4 d5 d6 r0 r1 r2 r3 r4 r5 r6 rf ls ld lr;obtain⟨⟨xs0,xd0,xr0⟩,⟨s0,s1,s2,s3,s4,s5,s6⟩,⟨d0,d1,d2,d3,d4,d5,d6⟩,⟨r0,r1,r2,r3,r4,r5,r6⟩,rf,ls,ld,lr⟩:=ddF (ax.o WX (bx.o));have bs:Hid (s.marriages.length=(s.marriages).length):=zHi rfl;have tg:Hid ((s.marriages).length<=1000):=zHi HF.o.marr;have cf:=zHi (fun W (hB:Below WX.heap.size WX W)=>(H.o W (ak.o.trans ((bx.o.trans (hB.mono dU)).mono aw))).marr);have aG:=zHi (fun(W:World) (h:Below WX.heap.size WX W)=>(show W.cell? ⟨w.heap.size,2,none⟩=some (.slice MA s.marriages.length c2)/\W.cell? ⟨w.heap.size+1,3,none⟩=some (.string d.frm) from⟨(zah h ls).trans s2,(zah h ld).trans d3⟩));go_cut [5]from 34 to 45 (fun v wc=>v= .int .i64 0/\ ∃V c',wc.heap[w.heap.size]?=some (.cells #[.slice LA laws.length c0, .slice CA s.children.length c1, .slice V (s.marriages.length+1) c', .slice DA s.dead.length c3, .slice WA wd.length c4, .slice RA rd.length c5, .slice GA s.graves.length c6] 36)/\wc.heap[w.heap.size+2]?=some (.cells #[.slice none 0 0, .slice none 0 0, .slice none 0 0, .slice none 0 0, .slice none 0 0, .slice none 0 0, .slice none 0 0] 36)/\Ro wc 163 zaT V (s.marriages++[(d.frm,tn)])/\Below w.heap.size w wc)
 case first=>
  refine zaC 9 (fun bb w'=>bb=true\/(w'.cell? ⟨w.heap.size,2,none⟩=some (.slice MA s.marriages.length c2)/\w'.cell? ⟨w.heap.size+1,3,none⟩=some (.string d.frm))) Mco (.inr (aG.o _ (zaH (Below.refl _ _)))) ?hrest
  case hrest=>
   intro hHeld;clear xs0 xd0 xr0 s0 s1 s2 s3 s4 s5 s6 d0 d1 d2 d3 d4 d5 d6 r0 r1 r2 r3 r4 r5 r6 rf ls ld lr;refine TkM 1 ?_;refine TkM 2 ?_;refine TkM 4 ?_;refine TkM 5 ?_;refine TkM 6 ?_;refine TkM 7 ?_;refine TwM 0 8 (fun K hK=> ?_) fun K hK=> ?_
   ·go_simp
    have e0:Below WX.heap.size WX (WX.drew.alloc (.cells #[] 163)):=zad (zaH (Below.refl _ _)) _;have m0:OwnS (WX.drew.alloc (.cells #[] 163)) WX.heap.size 163 2 zaT (.slice (some ⟨WX.heap.size,0,none⟩) 0 0) []:=zdY zbi WX.drew WX.heap.size (Nat.le_refl _);refine NxM hK (fun hHeld=> ?_) (.inr (aG.o _ e0));clear hK K;refine TwM 3 8 (fun K hK=> ?_) fun K hK=> ?_
    ·refine zak (v:= .slice (some ⟨WX.heap.size,0,none⟩) 0 0) (n:=0) (m:=s.marriages.length) rfl _ _ rfl zg1 zbi zdC rfl (xs:=[]) (ys:=s.marriages) (m0) rfl rfl bs.o (cf.o _ e0) Mcv McG Mcy ?_;intro v4 w4 h1 h2 h3;rw[List.nil_append]at h1;obtain⟨V4,c4',b8,_,_⟩:=h1.sl zbi;rw[<-bs.o]at b8;subst b8;have aC:Below WX.heap.size WX w4:=Below.grown e0 h2 Mdn (fun j hj=>by simp[zaA]at hj;omega);refine NxM hK (fun hHeld=> ?_) (.inr (aG.o _ aC));clear hK K;refine OnM 8 false fun K hK=> ?_
     go_simp
     have e1:Below WX.heap.size WX (w4.alloc (.cells #[.string d.frm, .string tn] 163)):=zad aC _;have n1:(w4.alloc (.cells #[.string d.frm, .string tn] 163)).heap[w4.heap.size]?=some (.cells #[.string d.frm, .string tn] 163):=zar _ _ _ rfl;have o1:OwnS (w4.alloc (.cells #[.string d.frm, .string tn] 163)) WX.heap.size 163 2 zaT (.slice V4 s.marriages.length c4') s.marriages:=h1.keep (n:=w4.heap.size) (zad (Below.refl _ _) _);refine NxM hK (fun hHeld=> ?_) (.inr (aG.o _ e1));clear hK K;have o9:=o1;have n9:=n1;have e9:=e1;exact Mq
    ·go_simp
     have e1:Below WX.heap.size WX ((WX.drew.alloc (.cells #[] 163)).alloc (.cells #[.string d.frm, .string tn] 163)):=zad e0 _;have n1:((WX.drew.alloc (.cells #[] 163)).alloc (.cells #[.string d.frm, .string tn] 163)).heap[WX.heap.size+1]?=some (.cells #[.string d.frm, .string tn] 163):=zar _ _ _ Mcq;have m1:OwnS ((WX.drew.alloc (.cells #[] 163)).alloc (.cells #[.string d.frm, .string tn] 163)) WX.heap.size 163 2 zaT (.slice (some ⟨WX.heap.size,0,none⟩) 0 0) []:=m0.keep (n:=(WX.drew.alloc (.cells #[] 163)).heap.size) (zad (Below.refl _ _) _);refine NxM hK (fun hHeld=> ?_) (.inr (aG.o _ e1));clear hK K;refine OnM 3 false fun K hK=> ?_
     refine zak (v:= .slice (some ⟨WX.heap.size,0,none⟩) 0 0) (n:=0) (m:=s.marriages.length) rfl _ _ rfl zg1 zbi zdC rfl (xs:=[]) (ys:=s.marriages) (m1) rfl rfl bs.o (cf.o _ e1) Mcv McG Mcu ?_;intro v4 w4 h1 h2 h3;rw[List.nil_append]at h1;obtain⟨V4,c4',b8,_,_⟩:=h1.sl zbi;rw[<-bs.o]at b8;subst b8;have aC:Below WX.heap.size WX w4:=Below.grown e1 h2 McI (fun j hj=>by simp[zaA]at hj;omega);have n2:w4.heap[WX.heap.size+1]?=some (.cells #[.string d.frm, .string tn] 163):=(h2.block _ McE Mdg).trans n1;exact Mb9
   ·go_simp
    have e0:Below WX.heap.size WX (WX.drew.alloc (.cells #[.string d.frm, .string tn] 163)):=zad (zaH (Below.refl _ _)) _;have n0:(WX.drew.alloc (.cells #[.string d.frm, .string tn] 163)).heap[WX.heap.size]?=some (.cells #[.string d.frm, .string tn] 163):=zar _ _ _ rfl;refine NxM hK (fun hHeld=> ?_) (.inr (aG.o _ e0));clear hK K;refine OnM 0 false fun K hK=> ?_
    go_simp
    have e1:Below WX.heap.size WX ((WX.drew.alloc (.cells #[.string d.frm, .string tn] 163)).alloc (.cells #[] 163)):=zad e0 _;have n1:((WX.drew.alloc (.cells #[.string d.frm, .string tn] 163)).alloc (.cells #[] 163)).heap[WX.heap.size]?=some (.cells #[.string d.frm, .string tn] 163):=zal n0;have m1:OwnS ((WX.drew.alloc (.cells #[.string d.frm, .string tn] 163)).alloc (.cells #[] 163)) WX.heap.size 163 2 zaT (.slice (some ⟨WX.heap.size+1,0,none⟩) 0 0) []:=by
     exact Mba
    refine NxM hK (fun hHeld=> ?_) (.inr (aG.o _ e1));clear hK K;refine OnM 3 false fun K hK=> ?_
    refine zak (v:= .slice (some ⟨WX.heap.size+1,0,none⟩) 0 0) (n:=0) (m:=s.marriages.length) rfl _ _ rfl zg1 zbi zdC rfl (xs:=[]) (ys:=s.marriages) (m1) rfl rfl bs.o (cf.o _ e1) Mcv McG Mcu ?_;intro v4 w4 h1 h2 h3;rw[List.nil_append]at h1;obtain⟨V4,c4',b8,_,_⟩:=h1.sl zbi;rw[<-bs.o]at b8;subst b8;have aC:Below WX.heap.size WX w4:=Below.grown e1 h2 McI (fun j hj=>by simp[zaA]at hj;omega);have n2:w4.heap[WX.heap.size]?=some (.cells #[.string d.frm, .string tn] 163):=(h2.block _ McE Mdg).trans n1;exact Mb9
 case rest=>
  obtain⟨rfl,V,c',eM,cu,eb,ob⟩:=hcut;clear xs0 xd0 xr0 s0 s1 s2 s3 s4 s5 s6 d0 d1 d2 d3 d4 d5 d6 r0 r1 r2 r3 r4 r5 r6 rf ls ld lr;obtain⟨s0,s1,s2,s3,s4,s5,s6⟩:=zaG eM;obtain⟨r0,r1,r2,r3,r4,r5,r6⟩:=zaG cu;have rf:=frz cu;have ls:=zab eM;have lr:=zab cu;go_wp2_with fail
  rw[HE.o];have dh:=zc9 (a0:= .slice LA laws.length c0) (a1:= .slice CA s.children.length c1) (a2:= .slice V (s.marriages.length+1) c') (a3:= .slice DA s.dead.length c3) (a4:= .slice WA wd.length c4) (a5:= .slice RA rd.length c5) (a6:= .slice GA s.graves.length c6) ob (show w.heap.size<=w.heap.size+2 by omega);refine bodyPost_ret (zbB rfl _ rfl rfl (zc0 cu)) rfl ?_;have h':=H.o _ dh;exact⟨_,_,_,_,_,_,_,rfl,rfl,dh,fun _=>⟨wd,rd,LA,CA,V,DA,WA,RA,GA,c0,c1,c',c3,c4,c5,c6,rfl,rfl,by rw[List.length_append];rfl,rfl,rfl,rfl,rfl,⟨h'.laws,h'.kids,(zjh eb cu Mcp).sl zbi,h'.dead,h'.wills,h'.ren,h'.graves,h'.deadc⟩,⟨HK.o.wills,HK.o.shares,HK.o.ren,HK.o.tos⟩⟩⟩
end Go.Proofs.YtjhbofabmpfniaaGreatDoor

/- Walk of the reference's renounce. -/
import Derived.Test.YtmfbdfejhdkiaaaGreatDoorXK
set_option linter.all false
set_option maxRecDepth 100000
set_option maxHeartbeats 4000000
namespace Go.Proofs.YtmfbdfejhdkiaaaGreatDoor
open Go.RowKit Go.Shelf
attribute [local go_sem] World.cell?_alloc_mark zae za4 zao za8 zav zaw zax zay zaz za0 za1
attribute [local go_sem] zap zac
def zjc(l:List (ByteArray×ByteArray))(n:ByteArray):Nat:=(l.filter fun c=>zaf c.2 n).length
theorem zpm{l:List (ByteArray×ByteArray)}{n:ByteArray}{k:Nat}(h:k<l.length):zjc (l.take (k+1)) n=zjc (l.take k) n+if zaf l[k].2 n then 1 else 0:=by
 unfold zjc;rw[List.take_add_one,List.getElem?_eq_getElem h,List.filter_append,List.length_append];simp only[Option.toList_some,List.filter_cons,List.filter_nil];cases zaf l[k].2 n<;>rfl
theorem chCnt_le(l:List (ByteArray×ByteArray))(n:ByteArray):zjc l n<=l.length:=List.length_filter_le _ _
theorem any_desc{s:St}{ys:List ByteArray}{a b:ByteArray}(h:∀y,y∈ys↔Relation.TransGen (fun x y=>y∈zdj s.children x) a y):ys.any (zaf b)=true↔Desc s a b:=by
 rw[List.any_eq_true];constructor
 ·rintro⟨y,hy,he⟩;rw[za3.1 he];exact(h y).1 hy
 ·intro hd;exact⟨b,(h b).2 hd,za3.2 rfl⟩
theorem zpn(laws:List Law)(s:St)(wd rd:List Deed)(LA CA MA DA WA RA GA:Option Addr)(c0 c1 c2 c3 c4 c5 c6:Nat)(d:Deed)(B:Option Addr)(c:Nat)(w:World)(h:StIn w laws s wd rd LA CA MA DA WA RA GA c0 c1 c2 c3 c4 c5 c6)(hk:StLink s wd rd)(hf:StFew s wd rd)(hd:OkD d)(hS:Sl w 3 RPart.cells B d.to)(cC:d.kind=6):Calls Tryz.prog 78 #[.agg #[.slice LA laws.length c0,.slice CA s.children.length c1,.slice MA s.marriages.length c2,.slice DA s.dead.length c3,.slice WA wd.length c4,.slice RA rd.length c5,.slice GA s.graves.length c6],d.v B c] w (zfR w laws (zcD s d)):=by
 obtain⟨R,hR⟩:=Qd (zcD s d)
 rw[<-hR];have aL:=(hd.one (.inr (.inl cC))).1;have tZ:=zHi (fun W (hS:Sl W 3 RPart.cells B d.to)=>znp aL hS);have fP:(0:Int)<(d.to.length:Int):=Mcq;unfold zcD at hR;generalize zbh d=tn at*;clear cC aL;obtain⟨H,HK,HF,HD,HS,HR⟩:=yH6 (fun W (hB:Qa w W)=>h.keep hB) hk hf hd (fun W (hB:Qa w W)=>hS.keep hB) hR;unfold Deed.v;clear h hk hf hd hS hR;go_enter Tryz.func78,Tryz.ntmps78
 go_upto_region 1 with fail
 generalize am:World.alloc (World.alloc (World.alloc w _) _) _=W0;obtain⟨aj,au⟩:=zeL am;clear am;have aw:=aj.o.size;obtain⟨⟨xs0,xd0,xr0⟩,⟨s0,s1,s2,s3,s4,s5,s6⟩,⟨d0,d1,d2,d3,d4,d5,d6⟩,⟨r0,r1,r2,r3,r4,r5,r6⟩,rf,ls,ld,lr⟩:=ddF (au.o W0 Qb);obtain⟨b,off,hA,hb,nP⟩:=tZ.o W0 (HS.o W0 aj.o);have hr:=HR.o;have kT:=zHi (sKids d.frm W0 (H.o W0 aj.o) HF.o);have dO:=HF.o.kids;have bj:(zaj s d.frm).length<=1000:=by
  unfold zaj;rw[List.length_map];exact Nat.le_trans (List.length_filter_le _ _) dO
 generalize zaj s d.frm=ks at*;rw[hA]at d4;go_upto_region 2 with fail
 cases bS:ks.any (zaf tn);rotate_left 1
 ·have HE:Hid (R=(s,5)):=Mee;clear hr
  go_upto_region 3 with(first
   |(go_at_call 128
     go_must(refine(kT.o).mono ?_)
     rintro e w2 ⟨v2,rfl,o2,b2⟩;obtain⟨KA,kc,rfl,iZ,jY⟩:=o2.sl zaH;have ii:=zHi iZ
     clear o2 iZ)
   |(go_at_call 127;go_must(refine(zd5 ks tn KA kc _ Mcq jY ii.o).mono ?_);rintro e wq ⟨rfl,rfl⟩;rw[bS]))
  have aZ:=b2;exact MbS
 rw[bS,if_neg Mcv]at hr
 go_upto_region 6 with(first
  |(go_at_call 128
    go_must(refine(kT.o).mono ?_)
    rintro e w2 ⟨v2,rfl,o2,b2⟩;obtain⟨KA,kc,rfl,iZ,jY⟩:=o2.sl zaH;have ii:=zHi iZ;obtain⟨_,_,xr2⟩:=au.o w2 b2
    clear o2 iZ)
  |(go_at_call 127;go_must(refine(zd5 ks tn KA kc _ Mcq jY ii.o).mono ?_);rintro e wq ⟨rfl,rfl⟩;rw[bS]))
 have l8:=b2.size;have aC:=zHi b2;clear jY ii b2 bS nP bj xr2;clear xs0 xd0 xr0 s0 s1 s2 s3 s4 s5 s6 d0 d1 d2 d3 d4 d5 d6 r0 r1 r2 r3 r4 r5 r6 rf ls ld lr;obtain⟨⟨xs0,xd0,xr0⟩,⟨s0,s1,s2,s3,s4,s5,s6⟩,⟨d0,d1,d2,d3,d4,d5,d6⟩,⟨r0,r1,r2,r3,r4,r5,r6⟩,rf,ls,ld,lr⟩:=ddF (au.o w2 (aC.o));have J8:=zHi (H.o w2 (aj.o.trans (aC.o.mono aw))).kids;go_loopw [7,8] (fun n i wr=>∃k:Nat,k<=s.children.length/\i=.int .i64 k/\n=.int .i64 (zjc (s.children.take k) tn)/\w2=wr) (fun _ i _=>s.children.length-(intOf i).toNat)
 case atStart=>exact⟨0,Nat.zero_le _,rfl,rfl,rfl⟩
 case round=>
  obtain⟨k,hk,rfl,rfl,rfl⟩:=hrel;have xj:=chCnt_le (s.children.take k) tn;rw[List.length_take]at xj;have DM:zjc (s.children.take k) tn<=1000:=Mcq;by_cases aa:k<s.children.length
  ·have bN:=zpm (n:=tn) aa;generalize zjc (s.children.take k) tn=m at*;obtain⟨cb,co,m9,nP,ah⟩:=J8.o.at aa;have ak:=zHi aa;generalize s.children[k]=y at*;obtain⟨y1,y2⟩:=y;simp only at bN;have i1:w2.cell? ⟨cb,co+k*2+1,none⟩=some (.string y2):=ah 1 _ rfl;have ar:(k:Int)<(s.children.length:Int):=Mcq;have aR:(0:Int)<=(k:Int):=Mcq;rw[m9]at s1;clear ah aa;cases hs:zaf y2 tn
   ·have bk:(y2.toList==tn.toList)=false:=hs;have dI:Hid (zjc (s.children.take (k+1)) tn=m):=by show _=_;rw[bN,hs];rfl
    clear bN hs;go_wp2_with fail
    go_round
    case rel=>exact⟨k+1,ak.o,by go_num,by rw[dI.o],by first|exact True.intro|rfl⟩
    case measure=>have:=ak.o;simp only[intOf];omega
   ·have bk:(y2.toList==tn.toList)=true:=hs;have dI:Hid (zjc (s.children.take (k+1)) tn=m+1):=by show _=_;rw[bN,hs];rfl
    clear bN hs;go_wp2_with fail
    go_round
    case rel=>exact⟨k+1,ak.o,by go_num,by rw[dI.o];go_num,by first|exact True.intro|rfl⟩
    case measure=>have:=ak.o;simp only[intOf];omega
  ·have ar:¬(k:Int)<(s.children.length:Int):=Mcq;rw[List.take_of_length_le Mcq]at*;have tp:(zbM s tn).length=zjc s.children tn:=List.length_map _;rw[tp]at hr;clear tp xj aa;generalize zjc s.children tn=m at*;by_cases hs:(2:Int)<=(m:Int)
   ·have HE:Hid (R=(s,16)):=by show _=_;rw[hr,if_pos (by simpa using(show 2<=m by omega))]
    clear hr;go_upto_region 11 with fail
    have aZ:=aC.o;exact Mf
   rw[if_neg (by simpa using(show¬2<=m by omega))]at hr;have bA:=zHi hr;clear hr;go_upto_region 12 with fail
   clear hs DM ar;have bU:=zHi (fun(W:World) (h:Qa w2 W)=>(show W.cell? ⟨w.heap.size,0,none⟩=some (.slice LA laws.length c0)/\W.cell? ⟨w.heap.size,1,none⟩=some (.slice CA s.children.length c1)/\W.cell? ⟨w.heap.size,2,none⟩=some (.slice MA s.marriages.length c2)/\W.cell? ⟨w.heap.size,3,none⟩=some (.slice DA s.dead.length c3)/\W.cell? ⟨w.heap.size,4,none⟩=some (.slice WA wd.length c4)/\W.cell? ⟨w.heap.size,5,none⟩=some (.slice RA rd.length c5)/\W.cell? ⟨w.heap.size,6,none⟩=some (.slice GA s.graves.length c6)/\W.cell? ⟨w.heap.size+1,3,none⟩=some (.string d.frm) from⟨(zah h ls).trans s0,(zah h ls).trans s1,(zah h ls).trans s2,(zah h ls).trans s3,(zah h ls).trans s4,(zah h ls).trans s5,(zah h ls).trans s6,(zah h ld).trans d3⟩));clear xs0 xd0 xr0 s0 s1 s2 s3 s4 s5 s6 d0 d1 d2 d3 d4 d5 d6 r0 r1 r2 r3 r4 r5 r6 rf ls ld lr;have dj:=zHi (fun W (hB:Qa w2 W)=>sDesc tn W (H.o W (aj.o.trans ((aC.o.trans (hB.mono l8)).mono aw))) HF.o);unfold DescR at dj
   refine zaJ 5 (fun bb w'=>bb=true\/(w'.cell? ⟨w.heap.size,0,none⟩=some (.slice LA laws.length c0)/\w'.cell? ⟨w.heap.size,1,none⟩=some (.slice CA s.children.length c1)/\w'.cell? ⟨w.heap.size,2,none⟩=some (.slice MA s.marriages.length c2)/\w'.cell? ⟨w.heap.size,3,none⟩=some (.slice DA s.dead.length c3)/\w'.cell? ⟨w.heap.size,4,none⟩=some (.slice WA wd.length c4)/\w'.cell? ⟨w.heap.size,5,none⟩=some (.slice RA rd.length c5)/\w'.cell? ⟨w.heap.size,6,none⟩=some (.slice GA s.graves.length c6)/\w'.cell? ⟨w.heap.size+1,3,none⟩=some (.string d.frm))) Mcs (.inr (bU.o _ (zaF Qb))) ?hrest
   case hrest=>
    intro hHeld;refine TkM 0 ?_;refine TkM 1 ?_;refine TkM 3 ?_;refine TkM 4 ?_;refine OnM 2 false fun K hK=>?_
    go_simp
    refine(dj.o _ (zaF Qb)).mono ?_;rintro e w4 ⟨v4,ys,rfl,o4,bh,_,pH,b4⟩;obtain⟨YA,yc,rfl,pI,uN⟩:=o4.sl zaH;have ay:Qa w2 w4:=(zaF Qb).trans b4;obtain⟨rQ,Bi⟩:=yH2 pI (any_desc (s:=s) (b:=d.frm) bh);refine NxM hK (fun hHeld=>?_) (.inr (bU.o _ ay));clear hK K;refine OnM 5 true fun K hK=>?_
    go_simp
    refine(zd5 ys d.frm YA yc _ Mcq uN rQ.o).mono ?_;rintro e wq ⟨rfl,rfl⟩;refine NxM hK fun hHeld=>?_
    clear hK K;refine zaV Mcs ?_ _;clear hHeld o4 bh pI pH b4 uN dj bU;have FO:=ay.size;have bw:=zHi (aC.o.trans (ay.mono l8));obtain⟨⟨xs0,xd0,xr0⟩,⟨s0,s1,s2,s3,s4,s5,s6⟩,⟨d0,d1,d2,d3,d4,d5,d6⟩,⟨r0,r1,r2,r3,r4,r5,r6⟩,rf,ls,ld,lr⟩:=ddF (au.o w4 (bw.o));by_cases iX:Desc s tn d.frm
    ·have HE:Hid (R=(s,25)):=by show _=_;rw[bA.o,if_pos (by simpa using iX)]
     have dM:ys.any (zaf d.frm)=true:=Bi.o.2 iX;rw[dM];go_upto_region 13 with fail
     have aZ:=bw.o;exact Mf
    have HE:Hid (R=({s with children:=s.children++[(d.frm,tn)]},0)):=by show _=_;rw[bA.o,if_neg (by simpa using iX)]
    have dM:ys.any (zaf d.frm)=false:=by
     rw[Bool.eq_false_iff];exact fun h=>iX (Bi.o.1 h)
    rw[dM];clear iX dM Bi bA;go_upto_region 14 with fail
    obtain⟨WX,ku⟩:=Qd w4
    subst ku;have dG:=bw.o.size;have bp:Hid (s.children.length=(s.children).length):=zHi rfl;have u9:Hid ((s.children).length<=1000):=zHi HF.o.kids;have cd:=zHi (fun W (hB:Qa WX W)=>(H.o W (aj.o.trans ((bw.o.trans (hB.mono dG)).mono aw))).kids);have aB:=zHi (fun(W:World) (h:Qa WX W)=>(show W.cell? ⟨w.heap.size,1,none⟩=some (.slice CA s.children.length c1)/\W.cell? ⟨w.heap.size+1,3,none⟩=some (.string d.frm) from⟨(zah h ls).trans s1,(zah h ld).trans d3⟩));go_cut [5]from 48 to 59 (fun v wc=>v=.int .i64 0/\∃V c',wc.heap[w.heap.size]?=some (.cells #[.slice LA laws.length c0,.slice V (s.children.length+1) c',.slice MA s.marriages.length c2,.slice DA s.dead.length c3,.slice WA wd.length c4,.slice RA rd.length c5,.slice GA s.graves.length c6] 35)/\wc.heap[w.heap.size+2]?=some (.cells #[.slice none 0 0,.slice none 0 0,.slice none 0 0,.slice none 0 0,.slice none 0 0,.slice none 0 0,.slice none 0 0] 35)/\Ro wc 140 zaX V (s.children++[(d.frm,tn)])/\Qa w wc)
    case first=>
     refine zaJ 9 (fun bb w'=>bb=true\/(w'.cell? ⟨w.heap.size,1,none⟩=some (.slice CA s.children.length c1)/\w'.cell? ⟨w.heap.size+1,3,none⟩=some (.string d.frm))) Mcs (.inr (aB.o _ (zaF Qb))) ?hrest
     case hrest=>
      intro hHeld;clear xs0 xd0 xr0 s0 s1 s2 s3 s4 s5 s6 d0 d1 d2 d3 d4 d5 d6 r0 r1 r2 r3 r4 r5 r6 rf ls ld lr;refine TkM 1 ?_;refine TkM 2 ?_;refine TkM 4 ?_;refine TkM 5 ?_;refine TkM 6 ?_;refine TkM 7 ?_;refine TwM 0 8 (fun K hK=>?_) fun K hK=>?_
      ·go_simp
       have e0:Qa WX (WX.drew.alloc (.cells #[] 140)):=zad (zaF Qb) _;have m0:OwnS (WX.drew.alloc (.cells #[] 140)) WX.heap.size 140 2 zaX (.slice (some ⟨WX.heap.size,0,none⟩) 0 0) []:=zea zbn WX.drew WX.heap.size Qc;refine NxM hK (fun hHeld=>?_) (.inr (aB.o _ e0));clear hK K;refine TwM 3 8 (fun K hK=>?_) fun K hK=>?_
       ·refine zak (v:=.slice (some ⟨WX.heap.size,0,none⟩) 0 0) (n:=0) (m:=s.children.length) rfl _ _ rfl zg8 zbn zdJ rfl (xs:=[]) (ys:=s.children) (m0) rfl rfl bp.o (cd.o _ e0) Mcy McJ McC ?_;intro v4 w4 h1 h2 h3;rw[List.nil_append]at h1;obtain⟨V4,c4',aT,_,_⟩:=h1.sl zbn;rw[<-bp.o]at aT;subst aT;have ay:Qa WX w4:=Below.grown e0 h2 Mdr (fun j hj=>by simp[za6]at hj;omega);refine NxM hK (fun hHeld=>?_) (.inr (aB.o _ ay));clear hK K;refine OnM 8 false fun K hK=>?_
        go_simp
        have e1:Qa WX (w4.alloc (.cells #[.string d.frm,.string tn] 140)):=zad ay _;have n1:(w4.alloc (.cells #[.string d.frm,.string tn] 140)).heap[w4.heap.size]?=some (.cells #[.string d.frm,.string tn] 140):=zat _ _ _ rfl;have o1:OwnS (w4.alloc (.cells #[.string d.frm,.string tn] 140)) WX.heap.size 140 2 zaX (.slice V4 s.children.length c4') s.children:=h1.keep (n:=w4.heap.size) (zad Qb _);refine NxM hK (fun hHeld=>?_) (.inr (aB.o _ e1));clear hK K;have o9:=o1;have n9:=n1;have e9:=e1;exact Mm
       ·go_simp
        have e1:Qa WX ((WX.drew.alloc (.cells #[] 140)).alloc (.cells #[.string d.frm,.string tn] 140)):=zad e0 _;have n1:((WX.drew.alloc (.cells #[] 140)).alloc (.cells #[.string d.frm,.string tn] 140)).heap[WX.heap.size+1]?=some (.cells #[.string d.frm,.string tn] 140):=zat _ _ _ Mcv;have m1:OwnS ((WX.drew.alloc (.cells #[] 140)).alloc (.cells #[.string d.frm,.string tn] 140)) WX.heap.size 140 2 zaX (.slice (some ⟨WX.heap.size,0,none⟩) 0 0) []:=m0.keep (n:=(WX.drew.alloc (.cells #[] 140)).heap.size) (zad Qb _);refine NxM hK (fun hHeld=>?_) (.inr (aB.o _ e1));clear hK K;refine OnM 3 false fun K hK=>?_
        refine zak (v:=.slice (some ⟨WX.heap.size,0,none⟩) 0 0) (n:=0) (m:=s.children.length) rfl _ _ rfl zg8 zbn zdJ rfl (xs:=[]) (ys:=s.children) (m1) rfl rfl bp.o (cd.o _ e1) Mcy McJ Mcx ?_;intro v4 w4 h1 h2 h3;rw[List.nil_append]at h1;obtain⟨V4,c4',aT,_,_⟩:=h1.sl zbn;rw[<-bp.o]at aT;subst aT;have ay:Qa WX w4:=Below.grown e1 h2 McM (fun j hj=>by simp[za6]at hj;omega);have n2:w4.heap[WX.heap.size+1]?=some (.cells #[.string d.frm,.string tn] 140):=(h2.block _ McI Mde).trans n1;exact Mb9
      ·go_simp
       have e0:Qa WX (WX.drew.alloc (.cells #[.string d.frm,.string tn] 140)):=zad (zaF Qb) _;have n0:(WX.drew.alloc (.cells #[.string d.frm,.string tn] 140)).heap[WX.heap.size]?=some (.cells #[.string d.frm,.string tn] 140):=zat _ _ _ rfl;refine NxM hK (fun hHeld=>?_) (.inr (aB.o _ e0));clear hK K;refine OnM 0 false fun K hK=>?_
       go_simp
       have e1:Qa WX ((WX.drew.alloc (.cells #[.string d.frm,.string tn] 140)).alloc (.cells #[] 140)):=zad e0 _;have n1:((WX.drew.alloc (.cells #[.string d.frm,.string tn] 140)).alloc (.cells #[] 140)).heap[WX.heap.size]?=some (.cells #[.string d.frm,.string tn] 140):=zal n0;have m1:OwnS ((WX.drew.alloc (.cells #[.string d.frm,.string tn] 140)).alloc (.cells #[] 140)) WX.heap.size 140 2 zaX (.slice (some ⟨WX.heap.size+1,0,none⟩) 0 0) []:=by
        exact Mbb
       refine NxM hK (fun hHeld=>?_) (.inr (aB.o _ e1));clear hK K;refine OnM 3 false fun K hK=>?_
       refine zak (v:=.slice (some ⟨WX.heap.size+1,0,none⟩) 0 0) (n:=0) (m:=s.children.length) rfl _ _ rfl zg8 zbn zdJ rfl (xs:=[]) (ys:=s.children) (m1) rfl rfl bp.o (cd.o _ e1) Mcy McJ Mcx ?_;intro v4 w4 h1 h2 h3;rw[List.nil_append]at h1;obtain⟨V4,c4',aT,_,_⟩:=h1.sl zbn;rw[<-bp.o]at aT;subst aT;have ay:Qa WX w4:=Below.grown e1 h2 McM (fun j hj=>by simp[za6]at hj;omega);have n2:w4.heap[WX.heap.size]?=some (.cells #[.string d.frm,.string tn] 140):=(h2.block _ McI Mde).trans n1;exact Mb9
    case rest=>
     obtain⟨rfl,V,c',eb,cm,dZ,oF⟩:=hcut;clear xs0 xd0 xr0 s0 s1 s2 s3 s4 s5 s6 d0 d1 d2 d3 d4 d5 d6 r0 r1 r2 r3 r4 r5 r6 rf ls ld lr;obtain⟨s0,s1,s2,s3,s4,s5,s6⟩:=zaK eb;obtain⟨r0,r1,r2,r3,r4,r5,r6⟩:=zaK cm;have rf:=frz cm;have ls:=zab eb;have lr:=zab cm;go_wp2_with fail
     rw[HE.o];have cy:=zcH (a0:=.slice LA laws.length c0) (a1:=.slice V (s.children.length+1) c') (a2:=.slice MA s.marriages.length c2) (a3:=.slice DA s.dead.length c3) (a4:=.slice WA wd.length c4) (a5:=.slice RA rd.length c5) (a6:=.slice GA s.graves.length c6) oF (show w.heap.size<=w.heap.size+2 by omega);refine bodyPost_ret (zb8 rfl _ rfl rfl (zc9 cm)) rfl ?_;have h':=H.o _ cy;exact⟨_,_,_,_,_,_,_,rfl,rfl,cy,fun _=>⟨wd,rd,LA,V,MA,DA,WA,RA,GA,c0,c',c2,c3,c4,c5,c6,rfl,by rw[List.length_append];rfl,rfl,rfl,rfl,rfl,rfl,⟨h'.laws,(zjb dZ cm Mcu).sl zbn,h'.marr,h'.dead,h'.wills,h'.ren,h'.graves,h'.deadc⟩,⟨HK.o.wills,HK.o.shares,HK.o.ren,HK.o.tos⟩⟩⟩
theorem sl_deed{W:World}{b:Nat}{t:TypeId}{fr:Nat×Nat}(d:Deed)(B:Option Addr)(c:Nat)(h:W.heap[b]?=some (.cells #[.int .i64 d.kind,.int .i64 d.day,.string d.place,.string d.frm,.slice B d.to.length c,.int .i64 d.cls,.int .i64 d.years] t fr)):Sl W 7 DV.cells (some ⟨b,0,none⟩) [⟨d,B,c⟩]:=
 zgI zbA h (by simp[DV.cells])
theorem zkO(laws:List Law)(s:St)(wd rd:List Deed)(LA CA MA DA WA RA GA:Option Addr)(c0 c1 c2 c3 c4 c5 c6:Nat)(d:Deed)(B:Option Addr)(c:Nat)(w:World)(h:StIn w laws s wd rd LA CA MA DA WA RA GA c0 c1 c2 c3 c4 c5 c6)(hk:StLink s wd rd)(hf:StFew s wd rd)(hd:OkD d)(hS:Sl w 3 RPart.cells B d.to)(cC:d.kind=5)(ao:d.to.length<=c):Calls Tryz.prog 77 #[.agg #[.slice LA laws.length c0,.slice CA s.children.length c1,.slice MA s.marriages.length c2,.slice DA s.dead.length c3,.slice WA wd.length c4,.slice RA rd.length c5,.slice GA s.graves.length c6],d.v B c] w (zfR w laws (zb6 s d)):=by
 obtain⟨R,hR⟩:=Qd (zb6 s d)
 rw[<-hR];have aL:=(hd.one (.inl cC)).1;obtain⟨C8,tZ⟩:=yH2 aL (fun W (hS:Sl W 3 RPart.cells B d.to)=>znp aL hS);have fP:(0:Int)<(d.to.length:Int):=Mcq;have Nn:0<d.to.length:=Mcq;unfold zb6 at hR;rw[hk.ren,List.any_map]at hR;change R=(if(zaP s d.frm||zaP s (zbh d))=true then(s,28)else if rd.any (renT d.frm (zbh d))=true then(s,5)else({s with renounce:=rd.map (fun d=>(d.frm,zbh d))++[(d.frm,zbh d)]},0))at hR;obtain⟨tn,dA⟩:=Qd (zbh d)
 rw[<-dA]at hR tZ;obtain⟨jj,lH⟩:=yH2 dA ao;obtain⟨dvs,xp,oV,qa⟩:=dv_of h.ren;obtain⟨zD,og,qU⟩:=yH3 xp oV qa;clear cC aL dA xp oV qa ao;obtain⟨H,HK,HF,HD,HS,HR⟩:=yH6 (fun W (hB:Qa w W)=>h.keep hB) hk hf hd (fun W (hB:Qa w W)=>hS.keep hB) hR;unfold Deed.v;clear h hk hf hd hS hR;go_enter Tryz.func77,Tryz.ntmps77
 go_upto_region 1 with fail
 generalize am:World.alloc (World.alloc (World.alloc w _) _) _=W0;obtain⟨aj,au⟩:=zeL am;clear am;have aw:=aj.o.size;obtain⟨⟨xs0,xd0,xr0⟩,⟨s0,s1,s2,s3,s4,s5,s6⟩,⟨d0,d1,d2,d3,d4,d5,d6⟩,⟨r0,r1,r2,r3,r4,r5,r6⟩,rf,ls,ld,lr⟩:=ddF (au.o W0 Qb);have tP:=zHi (fun x W (hB:Qa W0 W)=>sDead x W (H.o W (aj.o.trans (hB.mono aw))) HF.o);obtain⟨b,off,hA,hb,nP⟩:=tZ.o W0 (HS.o W0 aj.o);have hr:=HR.o;rw[hA]at d4;go_upto_region 1 with fail
 have gu:=zHi (fun x b (hx:zaP s x=b) W (hB:Qa W0 W)=>(hx▸tP.o x W hB:Calls Tryz.prog 80 #[.agg #[.slice LA laws.length c0,.slice CA s.children.length c1,.slice MA s.marriages.length c2,.slice DA s.dead.length c3,.slice WA wd.length c4,.slice RA rd.length c5,.slice GA s.graves.length c6],.string x] W (Ret W (.bool b))));clear tP;cases bS:zaP s d.frm;rotate_left 1
 ·have HE:Hid (R=(s,28)):=Mee;clear hr
  (refine zam Mcs Mcs ?_
   repeat(first|go_big_quiet_skip|(go_big_quiet_want;go_big_quiet_op;first|go_big_quiet_on|(apply Exists.intro;refine⟨fun _=>?_,?_⟩;((go_at_call 80;exact quietx (gu.o _ _ bS _ Bw)));go_big_quiet_on)))
   refine wpQuiet_nil ?_
   rintro _ ⟨zq,rfl⟩)
  have aZ:=zaq W0 zq;exact MbS
 cases dM:zaP s tn;rotate_left 1
 ·have HE:Hid (R=(s,28)):=by show _=_;rw[hr,bS,dM];rfl
  clear hr
  (refine zam Mcs Mcs ?_
   repeat(first|go_big_quiet_skip|(go_big_quiet_want;go_big_quiet_op;first|go_big_quiet_on|(apply Exists.intro;refine⟨fun _=>?_,?_⟩;((go_at_call 80;exact quietx (gu.o _ _ (by first|exact bS|exact dM) _ Bw)));go_big_quiet_on)))
   refine wpQuiet_nil ?_
   rintro _ ⟨zq,rfl⟩)
  have aZ:=zaq W0 zq;exact MbS
 rw[bS,dM,Bool.or_false,if_neg Mcv]at hr;have bA:Hid (R=if(rd.drop 0).any (renT d.frm tn)=true then(s,5)else({s with renounce:=rd.map (fun d=>(d.frm,zbh d))++[(d.frm,tn)]},0)):=zHi hr;clear hr
 (refine zam Mcs Mcs ?_
  repeat(first|go_big_quiet_skip|(go_big_quiet_want;go_big_quiet_op;first|go_big_quiet_on|(apply Exists.intro;refine⟨fun _=>?_,?_⟩;((go_at_call 80;exact quietx (gu.o _ _ (by first|exact bS|exact dM) _ Bw)));go_big_quiet_on)))
  refine wpQuiet_nil ?_
  rintro _ ⟨zq,rfl⟩)
 obtain⟨W1,aP⟩:=Qd (W0.ext zq)
 have aO:Qa W0 W1:=Mdk;rw[<-aP];have im:=aO.size;obtain⟨aE,tO,Bg⟩:=yH3 aO (show b<W0.heap.size/\W0.cell? ⟨b,off,none⟩=some (.string tn) from⟨hb,nP⟩) hA;clear aP aO hb nP bS dM hA;clear xs0 xd0 xr0 s0 s1 s2 s3 s4 s5 s6 d0 d1 d2 d3 d4 d5 d6 r0 r1 r2 r3 r4 r5 r6 rf ls ld lr;go_upto_region 4 with fail
 go_loopw [6] (fun i wr=>∃k:Nat,k<=rd.length/\i=.int .i64 k/\Hid (R=if(rd.drop k).any (renT d.frm tn)=true then(s,5)else({s with renounce:=rd.map (fun d=>(d.frm,zbh d))++[(d.frm,tn)]},0))/\Qa W1 wr) (fun i _=>rd.length-(intOf i).toNat)
 case atStart=>exact⟨0,Nat.zero_le _,rfl,bA,Qb⟩
 case round=>
  obtain⟨k,hk,rfl,HX,hB⟩:=hrel;have aW:=hB.size;have cw:=aE.o.trans (hB.mono im);have Nc:=HF.o.ren;obtain⟨⟨xs0,xd0,xr0⟩,⟨s0,s1,s2,s3,s4,s5,s6⟩,⟨d0,d1,d2,d3,d4,d5,d6⟩,⟨r0,r1,r2,r3,r4,r5,r6⟩,rf,ls,ld,lr⟩:=ddF (au.o wr (cw));obtain⟨bw,HB⟩:=yH2 cw hB;have uJ:W0.heap.size<=wr.heap.size:=cw.size;by_cases aa:k<rd.length
  ·obtain⟨gb,go,cs,mg,cL,dr,ah⟩:=(H.o wr (aj.o.trans (cw.mono aw))).ren.at aa;have hx:=HX.o;rw[List.drop_eq_getElem_cons aa,List.any_cons]at hx;have ag:=HK.o.tos _ (List.getElem_mem aa);obtain⟨ax,ak⟩:=yH2 hx aa;generalize rd[k]=x at*;obtain⟨XB,xc,Iq,rfl,hP⟩:=dr;obtain⟨kd,dy,pl,fr,ts,cl,yr⟩:=x;simp only at ag Iq hP ah;cases ts with
   |nil=>exact absurd rfl ag
   |cons p ts=>
    obtain⟨tb,tof,As,Ij,uI⟩:=hP.at (k:=0) (Nat.succ_pos _);obtain⟨pn,pu,pd⟩:=p;have t0:wr.cell? ⟨tb,tof,none⟩=some (.string pn):=MdG;have yZ:zbh ⟨kd,dy,pl,fr,⟨pn,pu,pd⟩::ts,cl,yr⟩=pn:=rfl;have i3:=ah 3 _ rfl;have i4:=ah 4 _ rfl;have ar:(k:Int)<(rd.length:Int):=Mcq;have aR:(0:Int)<=(k:Int):=Mcq;generalize ci:(⟨pn,pu,pd⟩::ts:List RPart).length=ln at*;have jA:(0:Int)<(ln:Int):=by rw[<-ci];simp
    have Ek:0<ln:=Mcq;rw[Bg.o]at d4;rw[mg]at s5;rw[As]at i4;have nP:wr.cell? ⟨b,off,none⟩=some (.string tn):=(zah cw tO.o.1).trans tO.o.2;have hb:b<wr.heap.size:=by have:=tO.o.1;omega
    clear ah aa hx ag hP uI ci Iq hB cw;cases ee:zaf fr d.frm
    ·have bk:(fr.toList==d.frm.toList)=false:=ee;have HE:Hid (R=if(rd.drop (k+1)).any (renT d.frm tn)=true then(s,5)else({s with renounce:=rd.map (fun d=>(d.frm,zbh d))++[(d.frm,tn)]},0)):=by show _=_;rw[ax.o];simp[renT,ee]
     clear ee;exact MR
    ·have bk:(fr.toList==d.frm.toList)=true:=ee;cases eA:zaf pn tn
     ·have yN:(pn.toList==tn.toList)=false:=eA;have HE:Hid (R=if(rd.drop (k+1)).any (renT d.frm tn)=true then(s,5)else({s with renounce:=rd.map (fun d=>(d.frm,zbh d))++[(d.frm,tn)]},0)):=by show _=_;rw[ax.o];simp[renT,yZ,eA]
      clear ee eA;exact MR
     ·have yN:(pn.toList==tn.toList)=true:=eA;have HE:Hid (R=(s,5)):=by show _=_;rw[ax.o];simp[renT,yZ,ee,eA]
      clear ee eA;go_upto_region 6 with fail
      (refine zam Mcs Mcs ?_
       repeat(first|go_big_quiet_skip|(go_big_quiet_want;go_big_quiet_op;first|go_big_quiet_on|(apply Exists.intro;refine⟨fun _=>?_,?_⟩;(fail);go_big_quiet_on)))
       refine wpQuiet_nil ?_
       rintro _ ⟨zq,rfl⟩)
      have aZ:=zaZ bw.o zq;clear xs0 xd0 xr0 s0 s1 s2 s3 s4 s5 s6 d0 d1 d2 d3 d4 d5 d6 r0 r1 r2 r3 r4 r5 r6 rf ls ld lr;clear i3 i4 t0;obtain⟨⟨xs0,xd0,xr0⟩,⟨s0,s1,s2,s3,s4,s5,s6⟩,⟨d0,d1,d2,d3,d4,d5,d6⟩,⟨r0,r1,r2,r3,r4,r5,r6⟩,rf,ls,ld,lr⟩:=ddF (au.o (wr.ext zq) (aZ));have aZ:=aZ;exact Mf
  ·have ar:¬(k:Int)<(rd.length:Int):=Mcq;have hx:=HX.o;rw[List.drop_of_length_le Mcq]at hx;have HE:Hid (R=({s with renounce:=rd.map (fun d=>(d.frm,zbh d))++[(d.frm,tn)]},0)):=Md9;clear hx aa hB cw;go_upto_region 8 with fail
   clear ar;obtain⟨WX,ku⟩:=Qd wr
   subst ku;have dG:=bw.o.size;have bp:Hid (rd.length=(dvs).length):=zHi (by rw[<-zD.o,List.length_map]);have u9:Hid ((dvs).length<=1000):=zHi (by rw[<-bp.o];exact HF.o.ren);have cd:=zHi (fun W (hB:Qa WX W)=>qU.o.keep (aj.o.trans ((bw.o.trans (hB.mono dG)).mono aw)));have aB:=zHi (fun(W:World) (h:Qa WX W)=>(show W.cell? ⟨w.heap.size,5,none⟩=some (.slice RA rd.length c5)/\W.cell? ⟨w.heap.size+1,0,none⟩=some (.int .i64 d.kind)/\W.cell? ⟨w.heap.size+1,1,none⟩=some (.int .i64 d.day)/\W.cell? ⟨w.heap.size+1,2,none⟩=some (.string d.place)/\W.cell? ⟨w.heap.size+1,3,none⟩=some (.string d.frm)/\W.cell? ⟨w.heap.size+1,4,none⟩=some (.slice B d.to.length c)/\W.cell? ⟨w.heap.size+1,5,none⟩=some (.int .i64 d.cls)/\W.cell? ⟨w.heap.size+1,6,none⟩=some (.int .i64 d.years) from⟨(zah h ls).trans s5,(zah h ld).trans d0,(zah h ld).trans d1,(zah h ld).trans d2,(zah h ld).trans d3,(zah h ld).trans d4,(zah h ld).trans d5,(zah h ld).trans d6⟩))
   go_cut [5]from 55 to 63 (fun v wc=>v=v/\∃V c',wc.heap[w.heap.size]?=some (.cells #[.slice LA laws.length c0,.slice CA s.children.length c1,.slice MA s.marriages.length c2,.slice DA s.dead.length c3,.slice WA wd.length c4,.slice V (rd.length+1) c',.slice GA s.graves.length c6] 35)/\wc.heap[w.heap.size+2]?=some (.cells #[.slice none 0 0,.slice none 0 0,.slice none 0 0,.slice none 0 0,.slice none 0 0,.slice none 0 0,.slice none 0 0] 35)/\Ro wc 28 DV.cells V (dvs++[(⟨d,B,c⟩:DV)])/\Qa w wc)
   case first=>
    refine zaJ 6 (fun bb w'=>bb=true\/(w'.cell? ⟨w.heap.size,5,none⟩=some (.slice RA rd.length c5)/\w'.cell? ⟨w.heap.size+1,0,none⟩=some (.int .i64 d.kind)/\w'.cell? ⟨w.heap.size+1,1,none⟩=some (.int .i64 d.day)/\w'.cell? ⟨w.heap.size+1,2,none⟩=some (.string d.place)/\w'.cell? ⟨w.heap.size+1,3,none⟩=some (.string d.frm)/\w'.cell? ⟨w.heap.size+1,4,none⟩=some (.slice B d.to.length c)/\w'.cell? ⟨w.heap.size+1,5,none⟩=some (.int .i64 d.cls)/\w'.cell? ⟨w.heap.size+1,6,none⟩=some (.int .i64 d.years))) Mcs (.inr (aB.o _ (zaF Qb))) ?hrest
    case hrest=>
     intro hHeld;clear xs0 xd0 xr0 s0 s1 s2 s3 s4 s5 s6 d0 d1 d2 d3 d4 d5 d6 r0 r1 r2 r3 r4 r5 r6 rf ls ld lr;refine TkM 1 ?_;refine TkM 2 ?_;refine TkM 4 ?_;refine TwM 0 5 (fun K hK=>?_) fun K hK=>?_
     ·go_simp
      have e0:Qa WX (WX.drew.alloc (.cells #[] 28)):=zad (zaF Qb) _;have m0:OwnS (WX.drew.alloc (.cells #[] 28)) WX.heap.size 28 7 DV.cells (.slice (some ⟨WX.heap.size,0,none⟩) 0 0) []:=zea zbA WX.drew WX.heap.size Qc;refine NxM hK (fun hHeld=>?_) (.inr (aB.o _ e0));clear hK K;refine TwM 3 5 (fun K hK=>?_) fun K hK=>?_
      ·refine zak (v:=.slice (some ⟨WX.heap.size,0,none⟩) 0 0) (n:=0) (m:=rd.length) rfl _ _ rfl zft zbA zfs rfl (xs:=[]) (ys:=dvs) (m0) rfl rfl bp.o (cd.o _ e0) Mcy McJ McC ?_;intro v4 w4 h1 h2 h3;rw[List.nil_append]at h1;obtain⟨V4,c4',aT,_,_⟩:=h1.sl zbA;rw[<-bp.o]at aT;subst aT;have ay:Qa WX w4:=Below.grown e0 h2 Mdr (fun j hj=>by simp[za6]at hj;omega);refine NxM hK (fun hHeld=>?_) (.inr (aB.o _ ay));clear hK K;refine OnM 5 false fun K hK=>?_
       go_simp
       have e1:Qa WX (w4.alloc (.cells #[.int .i64 d.kind,.int .i64 d.day,.string d.place,.string d.frm,.slice B d.to.length c,.int .i64 d.cls,.int .i64 d.years] 28)):=zad ay _;have n1:(w4.alloc (.cells #[.int .i64 d.kind,.int .i64 d.day,.string d.place,.string d.frm,.slice B d.to.length c,.int .i64 d.cls,.int .i64 d.years] 28)).heap[w4.heap.size]?=some (.cells #[.int .i64 d.kind,.int .i64 d.day,.string d.place,.string d.frm,.slice B d.to.length c,.int .i64 d.cls,.int .i64 d.years] 28):=zat _ _ _ rfl;have o1:OwnS (w4.alloc (.cells #[.int .i64 d.kind,.int .i64 d.day,.string d.place,.string d.frm,.slice B d.to.length c,.int .i64 d.cls,.int .i64 d.years] 28)) WX.heap.size 28 7 DV.cells (.slice V4 rd.length c4') dvs:=h1.keep (n:=w4.heap.size) (zad Qb _);refine NxM hK (fun hHeld=>?_) (.inr (aB.o _ e1));clear hK K;have o9:=o1;have n9:=n1;have e9:=e1;exact Mn
      ·go_simp
       have e1:Qa WX ((WX.drew.alloc (.cells #[] 28)).alloc (.cells #[.int .i64 d.kind,.int .i64 d.day,.string d.place,.string d.frm,.slice B d.to.length c,.int .i64 d.cls,.int .i64 d.years] 28)):=zad e0 _;have n1:((WX.drew.alloc (.cells #[] 28)).alloc (.cells #[.int .i64 d.kind,.int .i64 d.day,.string d.place,.string d.frm,.slice B d.to.length c,.int .i64 d.cls,.int .i64 d.years] 28)).heap[WX.heap.size+1]?=some (.cells #[.int .i64 d.kind,.int .i64 d.day,.string d.place,.string d.frm,.slice B d.to.length c,.int .i64 d.cls,.int .i64 d.years] 28):=zat _ _ _ Mcv;have m1:OwnS ((WX.drew.alloc (.cells #[] 28)).alloc (.cells #[.int .i64 d.kind,.int .i64 d.day,.string d.place,.string d.frm,.slice B d.to.length c,.int .i64 d.cls,.int .i64 d.years] 28)) WX.heap.size 28 7 DV.cells (.slice (some ⟨WX.heap.size,0,none⟩) 0 0) []:=m0.keep (n:=(WX.drew.alloc (.cells #[] 28)).heap.size) (zad Qb _);refine NxM hK (fun hHeld=>?_) (.inr (aB.o _ e1));clear hK K;refine OnM 3 false fun K hK=>?_
       refine zak (v:=.slice (some ⟨WX.heap.size,0,none⟩) 0 0) (n:=0) (m:=rd.length) rfl _ _ rfl zft zbA zfs rfl (xs:=[]) (ys:=dvs) (m1) rfl rfl bp.o (cd.o _ e1) Mcy McJ Mcx ?_;intro v4 w4 h1 h2 h3;rw[List.nil_append]at h1;obtain⟨V4,c4',aT,_,_⟩:=h1.sl zbA;rw[<-bp.o]at aT;subst aT;have ay:Qa WX w4:=Below.grown e1 h2 McM (fun j hj=>by simp[za6]at hj;omega);have n2:w4.heap[WX.heap.size+1]?=some (.cells #[.int .i64 d.kind,.int .i64 d.day,.string d.place,.string d.frm,.slice B d.to.length c,.int .i64 d.cls,.int .i64 d.years] 28):=(h2.block _ McI Mde).trans n1;exact Mcb
     ·go_simp
      have e0:Qa WX (WX.drew.alloc (.cells #[.int .i64 d.kind,.int .i64 d.day,.string d.place,.string d.frm,.slice B d.to.length c,.int .i64 d.cls,.int .i64 d.years] 28)):=zad (zaF Qb) _;have n0:(WX.drew.alloc (.cells #[.int .i64 d.kind,.int .i64 d.day,.string d.place,.string d.frm,.slice B d.to.length c,.int .i64 d.cls,.int .i64 d.years] 28)).heap[WX.heap.size]?=some (.cells #[.int .i64 d.kind,.int .i64 d.day,.string d.place,.string d.frm,.slice B d.to.length c,.int .i64 d.cls,.int .i64 d.years] 28):=zat _ _ _ rfl;refine NxM hK (fun hHeld=>?_) (.inr (aB.o _ e0));clear hK K;refine OnM 0 false fun K hK=>?_
      go_simp
      have e1:Qa WX ((WX.drew.alloc (.cells #[.int .i64 d.kind,.int .i64 d.day,.string d.place,.string d.frm,.slice B d.to.length c,.int .i64 d.cls,.int .i64 d.years] 28)).alloc (.cells #[] 28)):=zad e0 _;have n1:((WX.drew.alloc (.cells #[.int .i64 d.kind,.int .i64 d.day,.string d.place,.string d.frm,.slice B d.to.length c,.int .i64 d.cls,.int .i64 d.years] 28)).alloc (.cells #[] 28)).heap[WX.heap.size]?=some (.cells #[.int .i64 d.kind,.int .i64 d.day,.string d.place,.string d.frm,.slice B d.to.length c,.int .i64 d.cls,.int .i64 d.years] 28):=zal n0;have m1:OwnS ((WX.drew.alloc (.cells #[.int .i64 d.kind,.int .i64 d.day,.string d.place,.string d.frm,.slice B d.to.length c,.int .i64 d.cls,.int .i64 d.years] 28)).alloc (.cells #[] 28)) WX.heap.size 28 7 DV.cells (.slice (some ⟨WX.heap.size+1,0,none⟩) 0 0) []:=by
       exact Maw
      refine NxM hK (fun hHeld=>?_) (.inr (aB.o _ e1));clear hK K;refine OnM 3 false fun K hK=>?_
      refine zak (v:=.slice (some ⟨WX.heap.size+1,0,none⟩) 0 0) (n:=0) (m:=rd.length) rfl _ _ rfl zft zbA zfs rfl (xs:=[]) (ys:=dvs) (m1) rfl rfl bp.o (cd.o _ e1) Mcy McJ Mcx ?_;intro v4 w4 h1 h2 h3;rw[List.nil_append]at h1;obtain⟨V4,c4',aT,_,_⟩:=h1.sl zbA;rw[<-bp.o]at aT;subst aT;have ay:Qa WX w4:=Below.grown e1 h2 McM (fun j hj=>by simp[za6]at hj;omega);have n2:w4.heap[WX.heap.size]?=some (.cells #[.int .i64 d.kind,.int .i64 d.day,.string d.place,.string d.frm,.slice B d.to.length c,.int .i64 d.cls,.int .i64 d.years] 28):=(h2.block _ McI Mde).trans n1;exact Mcb
   case rest=>
    obtain⟨_,V,c',eb,cm,dZ,oF⟩:=hcut;clear xs0 xd0 xr0 s0 s1 s2 s3 s4 s5 s6 d0 d1 d2 d3 d4 d5 d6 r0 r1 r2 r3 r4 r5 r6 rf ls ld lr;obtain⟨s0,s1,s2,s3,s4,s5,s6⟩:=zaK eb;obtain⟨r0,r1,r2,r3,r4,r5,r6⟩:=zaK cm;have rf:=frz cm;have ls:=zab eb;have lr:=zab cm;go_wp2_with fail
    rw[HE.o];have cy:=zcH (a0:=.slice LA laws.length c0) (a1:=.slice CA s.children.length c1) (a2:=.slice MA s.marriages.length c2) (a3:=.slice DA s.dead.length c3) (a4:=.slice WA wd.length c4) (a5:=.slice V (rd.length+1) c') (a6:=.slice GA s.graves.length c6) oF (show w.heap.size<=w.heap.size+2 by omega);refine bodyPost_ret (zb8 rfl _ rfl rfl (zc9 cm)) rfl ?_;have h':=H.o _ cy;refine⟨_,_,_,_,_,_,_,rfl,rfl,cy,fun _=>⟨wd,rd++[d],LA,CA,MA,DA,WA,V,GA,c0,c1,c2,c3,c4,c',c6,rfl,rfl,rfl,rfl,rfl,by rw[List.length_append];rfl,rfl,⟨h'.laws,h'.kids,h'.marr,h'.dead,h'.wills,?_,h'.graves,h'.deadc⟩,⟨HK.o.wills,HK.o.shares,?_,?_⟩⟩⟩
    ·exact Mae
    ·rw[List.map_append,jj.o];rfl
    ·intro x hx;rcases List.mem_append.1 hx with hx|hx
     ·exact HK.o.tos x hx
     ·rw[List.mem_singleton.1 hx];intro he;have:=C8.o;rw[he]at this;cases this

import Derived.Test.YtbobmplpdmplkaaGreatDoorXK
set_option linter.all false
set_option maxRecDepth 100000
set_option maxHeartbeats 4000000
namespace Go.Proofs.YtbobmplpdmplkaaGreatDoor
open Go.RowKit Go.Shelf
attribute [local go_sem] World.cell?_alloc_mark zaf za4 zam za7 zaw zax zay zaz za0 za1 za2
attribute [local go_sem] zan zac
def zjb(l:List (ByteArray×ByteArray))(n:ByteArray):Nat:=(l.filter fun c=>zae c.2 n).length
theorem zpu{l:List (ByteArray×ByteArray)}{n:ByteArray}{k:Nat}(h:k<l.length):zjb (l.take (k+1)) n=zjb (l.take k) n+if zae l[k].2 n then 1 else 0:=by
 unfold zjb;rw[List.take_add_one,List.getElem?_eq_getElem h,List.filter_append,List.length_append];simp only[Option.toList_some,List.filter_cons,List.filter_nil];cases zae l[k].2 n<;>rfl
theorem chCnt_le(l:List (ByteArray×ByteArray))(n:ByteArray):zjb l n<=l.length:=List.length_filter_le _ _
theorem any_desc{s:St}{ys:List ByteArray}{a b:ByteArray}(h:∀y,y∈ys↔Relation.TransGen (fun x y=>y∈zdi s.children x) a y):ys.any (zae b)=true↔Desc s a b:=by
 rw[List.any_eq_true];constructor
 ·rintro⟨y,hy,he⟩;rw[zau.1 he];exact(h y).1 hy
 ·intro hd;exact⟨b,(h b).2 hd,zau.2 rfl⟩
theorem zpv(laws:List Law)(s:St)(wd rd:List Deed)(LA CA MA DA WA RA GA:Option Addr)(c0 c1 c2 c3 c4 c5 c6:Nat)(d:Deed)(B:Option Addr)(c:Nat)(w:World)(h:StIn w laws s wd rd LA CA MA DA WA RA GA c0 c1 c2 c3 c4 c5 c6)(hk:StLink s wd rd)(hf:StFew s wd rd)(hd:OkD d)(hS:Sl w 3 RPart.cells B d.to)(bS:d.kind=6):Calls Tryz.prog 145 #[.agg #[.slice LA laws.length c0,.slice CA s.children.length c1,.slice MA s.marriages.length c2,.slice DA s.dead.length c3,.slice WA wd.length c4,.slice RA rd.length c5,.slice GA s.graves.length c6],d.v B c] w (zfE w laws (zcE s d)):=by
 obtain⟨R,hR⟩:∃R,R=zcE s d:=⟨_,rfl⟩
 rw[<-hR];have aM:=(hd.one (.inr (.inl bS))).1;have tk:=zHi (fun W (hS:Sl W 3 RPart.cells B d.to)=>znx aM hS);have nO:(0:Int)<(d.to.length:Int):=Mcy;unfold zcE at hR;generalize zbf d=tn at*;clear bS aM;obtain⟨H,HK,HF,HD,HS,HR⟩:=yH6 (fun W (hB:Below w.heap.size w W)=>h.keep hB) hk hf hd (fun W (hB:Below w.heap.size w W)=>hS.keep hB) hR;unfold Deed.v;clear h hk hf hd hS hR;go_enter Tryz.func145,Tryz.ntmps145
 go_upto_region 1 with fail
 generalize am:World.alloc (World.alloc (World.alloc w _) _) _=W0;obtain⟨aj,av⟩:=zeI am;clear am;have aw:=aj.o.size;obtain⟨⟨xs0,xd0,xr0⟩,⟨s0,s1,s2,s3,s4,s5,s6⟩,⟨d0,d1,d2,d3,d4,d5,d6⟩,⟨r0,r1,r2,r3,r4,r5,r6⟩,rf,ls,ld,lr⟩:=ddF (av.o W0 (Below.refl _ _));obtain⟨b,off,hA,hb,kW⟩:=tk.o W0 (HS.o W0 aj.o);have hr:=HR.o;have jT:=zHi (sKids d.frm W0 (H.o W0 aj.o) HF.o);have bV:=HF.o.kids;have aW:(zai s d.frm).length<=1000:=by
  unfold zai;rw[List.length_map];exact Nat.le_trans (List.length_filter_le _ _) bV
 generalize zai s d.frm=ks at*;rw[hA]at d4;go_upto_region 2 with fail
 cases cf:ks.any (zae tn);rotate_left 1
 ·have HE:Hid (R=(s,5)):=Mef;clear hr
  go_upto_region 3 with(first
   |(go_at_call 46
     go_must(refine(jT.o).mono ?_)
     rintro e w2 ⟨v2,rfl,o2,b2⟩;obtain⟨KA,kc,rfl,fC,fq⟩:=o2.sl za9;have fg:=zHi fC
     clear o2 fC)
   |(go_at_call 45;go_must(refine(zdy ks tn KA kc _ Mcy fq fg.o).mono ?_);rintro e wq ⟨rfl,rfl⟩;rw[cf]))
  have bm:=b2;exact Mb1
 rw[cf,if_neg McB]at hr
 go_upto_region 6 with(first
  |(go_at_call 46
    go_must(refine(jT.o).mono ?_)
    rintro e w2 ⟨v2,rfl,o2,b2⟩;obtain⟨KA,kc,rfl,fC,fq⟩:=o2.sl za9;have fg:=zHi fC;obtain⟨_,_,xr2⟩:=av.o w2 b2
    clear o2 fC)
  |(go_at_call 45;go_must(refine(zdy ks tn KA kc _ Mcy fq fg.o).mono ?_);rintro e wq ⟨rfl,rfl⟩;rw[cf]))
 have kT:=b2.size;have aJ:=zHi b2;clear fq fg b2 cf kW aW xr2;clear xs0 xd0 xr0 s0 s1 s2 s3 s4 s5 s6 d0 d1 d2 d3 d4 d5 d6 r0 r1 r2 r3 r4 r5 r6 rf ls ld lr;obtain⟨⟨xs0,xd0,xr0⟩,⟨s0,s1,s2,s3,s4,s5,s6⟩,⟨d0,d1,d2,d3,d4,d5,d6⟩,⟨r0,r1,r2,r3,r4,r5,r6⟩,rf,ls,ld,lr⟩:=ddF (av.o w2 (aJ.o));have I9:=zHi (H.o w2 (aj.o.trans (aJ.o.mono aw))).kids;go_loopw [7,8] (fun n i wr=>∃k:Nat,k<=s.children.length/\i=.int .i64 k/\n=.int .i64 (zjb (s.children.take k) tn)/\w2=wr) (fun _ i _=>s.children.length-(intOf i).toNat)
 case atStart=>exact⟨0,Nat.zero_le _,rfl,rfl,rfl⟩
 case round=>
  obtain⟨k,hk,rfl,rfl,rfl⟩:=hrel;have wJ:=chCnt_le (s.children.take k) tn;rw[List.length_take]at wJ;have Cv:zjb (s.children.take k) tn<=1000:=Mcy;by_cases ae:k<s.children.length
  ·have bL:=zpu (n:=tn) ae;generalize zjb (s.children.take k) tn=m at*;obtain⟨cb,co,lW,kW,ah⟩:=I9.o.at ae;have ak:=zHi ae;generalize s.children[k]=y at*;obtain⟨y1,y2⟩:=y;simp only at bL;have i1:w2.cell? ⟨cb,co+k*2+1,none⟩=some (.string y2):=ah 1 _ rfl;have ar:(k:Int)<(s.children.length:Int):=Mcy;have aQ:(0:Int)<=(k:Int):=Mcy;rw[lW]at s1;clear ah ae;cases hs:zae y2 tn
   ·have bn:(y2.toList==tn.toList)=false:=hs;have cN:Hid (zjb (s.children.take (k+1)) tn=m):=by show _=_;rw[bL,hs];rfl
    clear bL hs;go_wp2_with fail
    go_round
    case rel=>exact⟨k+1,ak.o,by go_num,by rw[cN.o],by first|exact True.intro|rfl⟩
    case measure=>have:=ak.o;simp only[intOf];omega
   ·have bn:(y2.toList==tn.toList)=true:=hs;have cN:Hid (zjb (s.children.take (k+1)) tn=m+1):=by show _=_;rw[bL,hs];rfl
    clear bL hs;go_wp2_with fail
    go_round
    case rel=>exact⟨k+1,ak.o,by go_num,by rw[cN.o];go_num,by first|exact True.intro|rfl⟩
    case measure=>have:=ak.o;simp only[intOf];omega
  ·have ar:¬(k:Int)<(s.children.length:Int):=Mcy;rw[List.take_of_length_le Mcy]at*;have oR:(zbP s tn).length=zjb s.children tn:=List.length_map _;rw[oR]at hr;clear oR wJ ae;generalize zjb s.children tn=m at*;by_cases hs:(2:Int)<=(m:Int)
   ·have HE:Hid (R=(s,16)):=by show _=_;rw[hr,if_pos (by simpa using(show 2<=m by omega))]
    clear hr;go_upto_region 11 with fail
    have bm:=aJ.o;exact Mg
   rw[if_neg (by simpa using(show¬2<=m by omega))]at hr;have bF:=zHi hr;clear hr;go_upto_region 12 with fail
   clear hs Cv ar;have bY:=zHi (fun(W:World) (h:Below w2.heap.size w2 W)=>(show W.cell? ⟨w.heap.size,0,none⟩=some (.slice LA laws.length c0)/\W.cell? ⟨w.heap.size,1,none⟩=some (.slice CA s.children.length c1)/\W.cell? ⟨w.heap.size,2,none⟩=some (.slice MA s.marriages.length c2)/\W.cell? ⟨w.heap.size,3,none⟩=some (.slice DA s.dead.length c3)/\W.cell? ⟨w.heap.size,4,none⟩=some (.slice WA wd.length c4)/\W.cell? ⟨w.heap.size,5,none⟩=some (.slice RA rd.length c5)/\W.cell? ⟨w.heap.size,6,none⟩=some (.slice GA s.graves.length c6)/\W.cell? ⟨w.heap.size+1,3,none⟩=some (.string d.frm) from⟨(zah h ls).trans s0,(zah h ls).trans s1,(zah h ls).trans s2,(zah h ls).trans s3,(zah h ls).trans s4,(zah h ls).trans s5,(zah h ls).trans s6,(zah h ld).trans d3⟩));clear xs0 xd0 xr0 s0 s1 s2 s3 s4 s5 s6 d0 d1 d2 d3 d4 d5 d6 r0 r1 r2 r3 r4 r5 r6 rf ls ld lr;have fU:=zHi (fun W (hB:Below w2.heap.size w2 W)=>sDesc tn W (H.o W (aj.o.trans ((aJ.o.trans (hB.mono kT)).mono aw))) HF.o);unfold zpo at fU
   refine zaB 5 (fun bb w'=>bb=true\/(w'.cell? ⟨w.heap.size,0,none⟩=some (.slice LA laws.length c0)/\w'.cell? ⟨w.heap.size,1,none⟩=some (.slice CA s.children.length c1)/\w'.cell? ⟨w.heap.size,2,none⟩=some (.slice MA s.marriages.length c2)/\w'.cell? ⟨w.heap.size,3,none⟩=some (.slice DA s.dead.length c3)/\w'.cell? ⟨w.heap.size,4,none⟩=some (.slice WA wd.length c4)/\w'.cell? ⟨w.heap.size,5,none⟩=some (.slice RA rd.length c5)/\w'.cell? ⟨w.heap.size,6,none⟩=some (.slice GA s.graves.length c6)/\w'.cell? ⟨w.heap.size+1,3,none⟩=some (.string d.frm))) Mcz (.inr (bY.o _ (zaK (Below.refl _ _)))) ?hrest
   case hrest=>
    intro hHeld;refine TkM 0 ?_;refine TkM 1 ?_;refine TkM 3 ?_;refine TkM 4 ?_;refine OnM 2 false fun K hK=>?_
    go_simp
    refine(fU.o _ (zaK (Below.refl _ _))).mono ?_;rintro e w4 ⟨v4,ys,rfl,o4,bD,_,sU,b4⟩;obtain⟨YA,yc,rfl,mX,ul⟩:=o4.sl za9;have aC:Below w2.heap.size w2 w4:=(zaK (Below.refl _ _)).trans b4;obtain⟨qT,Ak⟩:=yH2 mX (any_desc (s:=s) (b:=d.frm) bD);refine NxM hK (fun hHeld=>?_) (.inr (bY.o _ aC));clear hK K;refine OnM 5 true fun K hK=>?_
    go_simp
    refine(zdy ys d.frm YA yc _ Mcy ul qT.o).mono ?_;rintro e wq ⟨rfl,rfl⟩;refine NxM hK fun hHeld=>?_
    clear hK K;refine zaM Mcz ?_ _;clear hHeld o4 bD mX sU b4 ul fU bY;have EI:=aC.size;have bw:=zHi (aJ.o.trans (aC.mono kT));obtain⟨⟨xs0,xd0,xr0⟩,⟨s0,s1,s2,s3,s4,s5,s6⟩,⟨d0,d1,d2,d3,d4,d5,d6⟩,⟨r0,r1,r2,r3,r4,r5,r6⟩,rf,ls,ld,lr⟩:=ddF (av.o w4 (bw.o));by_cases jn:Desc s tn d.frm
    ·have HE:Hid (R=(s,25)):=by show _=_;rw[bF.o,if_pos (by simpa using jn)]
     have dU:ys.any (zae d.frm)=true:=Ak.o.2 jn;rw[dU];go_upto_region 13 with fail
     have bm:=bw.o;exact Mg
    have HE:Hid (R=({s with children:=s.children++[(d.frm,tn)]},0)):=by show _=_;rw[bF.o,if_neg (by simpa using jn)]
    have dU:ys.any (zae d.frm)=false:=by
     rw[Bool.eq_false_iff];exact fun h=>jn (Ak.o.1 h)
    rw[dU];clear jn dU Ak bF;go_upto_region 14 with fail
    obtain⟨WX,kg⟩:∃WX,WX=w4:=⟨_,rfl⟩
    subst kg;have f9:=bw.o.size;have bo:Hid (s.children.length=(s.children).length):=zHi rfl;have tt:Hid ((s.children).length<=1000):=zHi HF.o.kids;have bZ:=zHi (fun W (hB:Below WX.heap.size WX W)=>(H.o W (aj.o.trans ((bw.o.trans (hB.mono f9)).mono aw))).kids);have aE:=zHi (fun(W:World) (h:Below WX.heap.size WX W)=>(show W.cell? ⟨w.heap.size,1,none⟩=some (.slice CA s.children.length c1)/\W.cell? ⟨w.heap.size+1,3,none⟩=some (.string d.frm) from⟨(zah h ls).trans s1,(zah h ld).trans d3⟩));go_cut [5]from 48 to 59 (fun v wc=>v=.int .i64 0/\∃V c',wc.heap[w.heap.size]?=some (.cells #[.slice LA laws.length c0,.slice V (s.children.length+1) c',.slice MA s.marriages.length c2,.slice DA s.dead.length c3,.slice WA wd.length c4,.slice RA rd.length c5,.slice GA s.graves.length c6] 44)/\wc.heap[w.heap.size+2]?=some (.cells #[.slice none 0 0,.slice none 0 0,.slice none 0 0,.slice none 0 0,.slice none 0 0,.slice none 0 0,.slice none 0 0] 44)/\Ro wc 107 zaT V (s.children++[(d.frm,tn)])/\Below w.heap.size w wc)
    case first=>
     refine zaB 9 (fun bb w'=>bb=true\/(w'.cell? ⟨w.heap.size,1,none⟩=some (.slice CA s.children.length c1)/\w'.cell? ⟨w.heap.size+1,3,none⟩=some (.string d.frm))) Mcz (.inr (aE.o _ (zaK (Below.refl _ _)))) ?hrest
     case hrest=>
      intro hHeld;clear xs0 xd0 xr0 s0 s1 s2 s3 s4 s5 s6 d0 d1 d2 d3 d4 d5 d6 r0 r1 r2 r3 r4 r5 r6 rf ls ld lr;refine TkM 1 ?_;refine TkM 2 ?_;refine TkM 4 ?_;refine TkM 5 ?_;refine TkM 6 ?_;refine TkM 7 ?_;refine TwM 0 8 (fun K hK=>?_) fun K hK=>?_
      ·go_simp
       have e0:Below WX.heap.size WX (WX.drew.alloc (.cells #[] 107)):=zad (zaK (Below.refl _ _)) _;have m0:OwnS (WX.drew.alloc (.cells #[] 107)) WX.heap.size 107 2 zaT (.slice (some ⟨WX.heap.size,0,none⟩) 0 0) []:=zdS zbj WX.drew WX.heap.size (Nat.le_refl _);refine NxM hK (fun hHeld=>?_) (.inr (aE.o _ e0));clear hK K;refine TwM 3 8 (fun K hK=>?_) fun K hK=>?_
       ·refine zak (v:=.slice (some ⟨WX.heap.size,0,none⟩) 0 0) (n:=0) (m:=s.children.length) rfl _ _ rfl zgs zbj zdB rfl (xs:=[]) (ys:=s.children) (m0) rfl rfl bo.o (bZ.o _ e0) McG McR McJ ?_;intro v4 w4 h1 h2 h3;rw[List.nil_append]at h1;obtain⟨V4,c4',aX,_,_⟩:=h1.sl zbj;rw[<-bo.o]at aX;subst aX;have aC:Below WX.heap.size WX w4:=Below.grown e0 h2 Mdv (fun j hj=>by simp[za5]at hj;omega);refine NxM hK (fun hHeld=>?_) (.inr (aE.o _ aC));clear hK K;refine OnM 8 false fun K hK=>?_
        go_simp
        have e1:Below WX.heap.size WX (w4.alloc (.cells #[.string d.frm,.string tn] 107)):=zad aC _;have n1:(w4.alloc (.cells #[.string d.frm,.string tn] 107)).heap[w4.heap.size]?=some (.cells #[.string d.frm,.string tn] 107):=zar _ _ _ rfl;have o1:OwnS (w4.alloc (.cells #[.string d.frm,.string tn] 107)) WX.heap.size 107 2 zaT (.slice V4 s.children.length c4') s.children:=h1.keep (n:=w4.heap.size) (zad (Below.refl _ _) _);refine NxM hK (fun hHeld=>?_) (.inr (aE.o _ e1));clear hK K;have o9:=o1;have n9:=n1;have e9:=e1;exact Mn
       ·go_simp
        have e1:Below WX.heap.size WX ((WX.drew.alloc (.cells #[] 107)).alloc (.cells #[.string d.frm,.string tn] 107)):=zad e0 _;have n1:((WX.drew.alloc (.cells #[] 107)).alloc (.cells #[.string d.frm,.string tn] 107)).heap[WX.heap.size+1]?=some (.cells #[.string d.frm,.string tn] 107):=zar _ _ _ McB;have m1:OwnS ((WX.drew.alloc (.cells #[] 107)).alloc (.cells #[.string d.frm,.string tn] 107)) WX.heap.size 107 2 zaT (.slice (some ⟨WX.heap.size,0,none⟩) 0 0) []:=m0.keep (n:=(WX.drew.alloc (.cells #[] 107)).heap.size) (zad (Below.refl _ _) _);refine NxM hK (fun hHeld=>?_) (.inr (aE.o _ e1));clear hK K;refine OnM 3 false fun K hK=>?_
        refine zak (v:=.slice (some ⟨WX.heap.size,0,none⟩) 0 0) (n:=0) (m:=s.children.length) rfl _ _ rfl zgs zbj zdB rfl (xs:=[]) (ys:=s.children) (m1) rfl rfl bo.o (bZ.o _ e1) McG McR McF ?_;intro v4 w4 h1 h2 h3;rw[List.nil_append]at h1;obtain⟨V4,c4',aX,_,_⟩:=h1.sl zbj;rw[<-bo.o]at aX;subst aX;have aC:Below WX.heap.size WX w4:=Below.grown e1 h2 McU (fun j hj=>by simp[za5]at hj;omega);have n2:w4.heap[WX.heap.size+1]?=some (.cells #[.string d.frm,.string tn] 107):=(h2.block _ McP Mdn).trans n1;exact Mcg
      ·go_simp
       have e0:Below WX.heap.size WX (WX.drew.alloc (.cells #[.string d.frm,.string tn] 107)):=zad (zaK (Below.refl _ _)) _;have n0:(WX.drew.alloc (.cells #[.string d.frm,.string tn] 107)).heap[WX.heap.size]?=some (.cells #[.string d.frm,.string tn] 107):=zar _ _ _ rfl;refine NxM hK (fun hHeld=>?_) (.inr (aE.o _ e0));clear hK K;refine OnM 0 false fun K hK=>?_
       go_simp
       have e1:Below WX.heap.size WX ((WX.drew.alloc (.cells #[.string d.frm,.string tn] 107)).alloc (.cells #[] 107)):=zad e0 _;have n1:((WX.drew.alloc (.cells #[.string d.frm,.string tn] 107)).alloc (.cells #[] 107)).heap[WX.heap.size]?=some (.cells #[.string d.frm,.string tn] 107):=zal n0;have m1:OwnS ((WX.drew.alloc (.cells #[.string d.frm,.string tn] 107)).alloc (.cells #[] 107)) WX.heap.size 107 2 zaT (.slice (some ⟨WX.heap.size+1,0,none⟩) 0 0) []:=by
        exact Mbb
       refine NxM hK (fun hHeld=>?_) (.inr (aE.o _ e1));clear hK K;refine OnM 3 false fun K hK=>?_
       refine zak (v:=.slice (some ⟨WX.heap.size+1,0,none⟩) 0 0) (n:=0) (m:=s.children.length) rfl _ _ rfl zgs zbj zdB rfl (xs:=[]) (ys:=s.children) (m1) rfl rfl bo.o (bZ.o _ e1) McG McR McF ?_;intro v4 w4 h1 h2 h3;rw[List.nil_append]at h1;obtain⟨V4,c4',aX,_,_⟩:=h1.sl zbj;rw[<-bo.o]at aX;subst aX;have aC:Below WX.heap.size WX w4:=Below.grown e1 h2 McU (fun j hj=>by simp[za5]at hj;omega);have n2:w4.heap[WX.heap.size]?=some (.cells #[.string d.frm,.string tn] 107):=(h2.block _ McP Mdn).trans n1;exact Mcg
    case rest=>
     obtain⟨rfl,V,c',eD,cq,dX,oo⟩:=hcut;clear xs0 xd0 xr0 s0 s1 s2 s3 s4 s5 s6 d0 d1 d2 d3 d4 d5 d6 r0 r1 r2 r3 r4 r5 r6 rf ls ld lr;obtain⟨s0,s1,s2,s3,s4,s5,s6⟩:=zaF eD;obtain⟨r0,r1,r2,r3,r4,r5,r6⟩:=zaF cq;have rf:=frz cq;have ls:=zab eD;have lr:=zab cq;go_wp2_with fail
     rw[HE.o];have dm:=zcA (a0:=.slice LA laws.length c0) (a1:=.slice V (s.children.length+1) c') (a2:=.slice MA s.marriages.length c2) (a3:=.slice DA s.dead.length c3) (a4:=.slice WA wd.length c4) (a5:=.slice RA rd.length c5) (a6:=.slice GA s.graves.length c6) oo (show w.heap.size<=w.heap.size+2 by omega);refine bodyPost_ret (zbC rfl _ rfl rfl (zcy cq)) rfl ?_;have h':=H.o _ dm;exact⟨_,_,_,_,_,_,_,rfl,rfl,dm,fun _=>⟨wd,rd,LA,V,MA,DA,WA,RA,GA,c0,c',c2,c3,c4,c5,c6,rfl,by rw[List.length_append];rfl,rfl,rfl,rfl,rfl,rfl,⟨h'.laws,(zja dX cq McA).sl zbj,h'.marr,h'.dead,h'.wills,h'.ren,h'.graves,h'.deadc⟩,⟨HK.o.wills,HK.o.shares,HK.o.ren,HK.o.tos⟩⟩⟩
theorem sl_deed{W:World}{b:Nat}{t:TypeId}{fr:Nat×Nat}(d:Deed)(B:Option Addr)(c:Nat)(h:W.heap[b]?=some (.cells #[.int .i64 d.kind,.int .i64 d.day,.string d.place,.string d.frm,.slice B d.to.length c,.int .i64 d.cls,.int .i64 d.years] t fr)):Sl W 7 DV.cells (some ⟨b,0,none⟩) [⟨d,B,c⟩]:=
 zi7 zcf h (by simp[DV.cells])
theorem zkM(laws:List Law)(s:St)(wd rd:List Deed)(LA CA MA DA WA RA GA:Option Addr)(c0 c1 c2 c3 c4 c5 c6:Nat)(d:Deed)(B:Option Addr)(c:Nat)(w:World)(h:StIn w laws s wd rd LA CA MA DA WA RA GA c0 c1 c2 c3 c4 c5 c6)(hk:StLink s wd rd)(hf:StFew s wd rd)(hd:OkD d)(hS:Sl w 3 RPart.cells B d.to)(bS:d.kind=5)(ay:d.to.length<=c):Calls Tryz.prog 144 #[.agg #[.slice LA laws.length c0,.slice CA s.children.length c1,.slice MA s.marriages.length c2,.slice DA s.dead.length c3,.slice WA wd.length c4,.slice RA rd.length c5,.slice GA s.graves.length c6],d.v B c] w (zfE w laws (zb7 s d)):=by
 obtain⟨R,hR⟩:∃R,R=zb7 s d:=⟨_,rfl⟩
 rw[<-hR];have aM:=(hd.one (.inl bS)).1;obtain⟨AZ,tk⟩:=yH2 aM (fun W (hS:Sl W 3 RPart.cells B d.to)=>znx aM hS);have nO:(0:Int)<(d.to.length:Int):=Mcy;have L4:0<d.to.length:=Mcy;unfold zb7 at hR;rw[hk.ren,List.any_map]at hR;change R=(if(zaJ s d.frm||zaJ s (zbf d))=true then(s,28)else if rd.any (renT d.frm (zbf d))=true then(s,5)else({s with renounce:=rd.map (fun d=>(d.frm,zbf d))++[(d.frm,zbf d)]},0))at hR;obtain⟨tn,fI⟩:∃tn,tn=zbf d:=⟨_,rfl⟩
 rw[<-fI]at hR tk;obtain⟨IF,lE⟩:=yH2 fI ay;obtain⟨dvs,wQ,wR,rW⟩:=dv_of h.ren;obtain⟨yK,td,qi⟩:=yH3 wQ wR rW;clear bS aM fI wQ wR rW ay;obtain⟨H,HK,HF,HD,HS,HR⟩:=yH6 (fun W (hB:Below w.heap.size w W)=>h.keep hB) hk hf hd (fun W (hB:Below w.heap.size w W)=>hS.keep hB) hR;unfold Deed.v;clear h hk hf hd hS hR;go_enter Tryz.func144,Tryz.ntmps144
 go_upto_region 1 with fail
 generalize am:World.alloc (World.alloc (World.alloc w _) _) _=W0;obtain⟨aj,av⟩:=zeI am;clear am;have aw:=aj.o.size;obtain⟨⟨xs0,xd0,xr0⟩,⟨s0,s1,s2,s3,s4,s5,s6⟩,⟨d0,d1,d2,d3,d4,d5,d6⟩,⟨r0,r1,r2,r3,r4,r5,r6⟩,rf,ls,ld,lr⟩:=ddF (av.o W0 (Below.refl _ _));have ta:=zHi (fun x W (hB:Below W0.heap.size W0 W)=>sDead x W (H.o W (aj.o.trans (hB.mono aw))) HF.o);obtain⟨b,off,hA,hb,kW⟩:=tk.o W0 (HS.o W0 aj.o);have hr:=HR.o;rw[hA]at d4;go_upto_region 1 with fail
 have fV:=zHi (fun x b (hx:zaJ s x=b) W (hB:Below W0.heap.size W0 W)=>(hx▸ta.o x W hB:Calls Tryz.prog 19 #[.agg #[.slice LA laws.length c0,.slice CA s.children.length c1,.slice MA s.marriages.length c2,.slice DA s.dead.length c3,.slice WA wd.length c4,.slice RA rd.length c5,.slice GA s.graves.length c6],.string x] W (Ret W (.bool b))));clear ta;cases cf:zaJ s d.frm;rotate_left 1
 ·have HE:Hid (R=(s,28)):=Mef;clear hr
  (refine zaj Mcz Mcz ?_
   repeat(first|go_big_quiet_skip|(go_big_quiet_want;go_big_quiet_op;first|go_big_quiet_on|(apply Exists.intro;refine⟨fun _=>?_,?_⟩;((go_at_call 19;exact quietx (fV.o _ _ cf _ Bw)));go_big_quiet_on)))
   refine wpQuiet_nil ?_
   rintro _ ⟨zq,rfl⟩)
  have bm:=zaq W0 zq;exact Mb1
 cases dU:zaJ s tn;rotate_left 1
 ·have HE:Hid (R=(s,28)):=by show _=_;rw[hr,cf,dU];rfl
  clear hr
  (refine zaj Mcz Mcz ?_
   repeat(first|go_big_quiet_skip|(go_big_quiet_want;go_big_quiet_op;first|go_big_quiet_on|(apply Exists.intro;refine⟨fun _=>?_,?_⟩;((go_at_call 19;exact quietx (fV.o _ _ (by first|exact cf|exact dU) _ Bw)));go_big_quiet_on)))
   refine wpQuiet_nil ?_
   rintro _ ⟨zq,rfl⟩)
  have bm:=zaq W0 zq;exact Mb1
 rw[cf,dU,Bool.or_false,if_neg McB]at hr;have bF:Hid (R=if(rd.drop 0).any (renT d.frm tn)=true then(s,5)else({s with renounce:=rd.map (fun d=>(d.frm,zbf d))++[(d.frm,tn)]},0)):=zHi hr;clear hr
 (refine zaj Mcz Mcz ?_
  repeat(first|go_big_quiet_skip|(go_big_quiet_want;go_big_quiet_op;first|go_big_quiet_on|(apply Exists.intro;refine⟨fun _=>?_,?_⟩;((go_at_call 19;exact quietx (fV.o _ _ (by first|exact cf|exact dU) _ Bw)));go_big_quiet_on)))
  refine wpQuiet_nil ?_
  rintro _ ⟨zq,rfl⟩)
 obtain⟨W1,aT⟩:∃W1,W1=W0.ext zq:=⟨_,rfl⟩
 have aS:Below W0.heap.size W0 W1:=Mds;rw[<-aT];have ie:=aS.size;obtain⟨aA,sZ,Ai⟩:=yH3 aS (show b<W0.heap.size/\W0.cell? ⟨b,off,none⟩=some (.string tn) from⟨hb,kW⟩) hA;clear aT aS hb kW cf dU hA;clear xs0 xd0 xr0 s0 s1 s2 s3 s4 s5 s6 d0 d1 d2 d3 d4 d5 d6 r0 r1 r2 r3 r4 r5 r6 rf ls ld lr;go_upto_region 4 with fail
 go_loopw [6] (fun i wr=>∃k:Nat,k<=rd.length/\i=.int .i64 k/\Hid (R=if(rd.drop k).any (renT d.frm tn)=true then(s,5)else({s with renounce:=rd.map (fun d=>(d.frm,zbf d))++[(d.frm,tn)]},0))/\Below W1.heap.size W1 wr) (fun i _=>rd.length-(intOf i).toNat)
 case atStart=>exact⟨0,Nat.zero_le _,rfl,bF,Below.refl _ _⟩
 case round=>
  obtain⟨k,hk,rfl,HX,hB⟩:=hrel;have aG:=hB.size;have cv:=aA.o.trans (hB.mono ie);have KY:=HF.o.ren;obtain⟨⟨xs0,xd0,xr0⟩,⟨s0,s1,s2,s3,s4,s5,s6⟩,⟨d0,d1,d2,d3,d4,d5,d6⟩,⟨r0,r1,r2,r3,r4,r5,r6⟩,rf,ls,ld,lr⟩:=ddF (av.o wr (cv));obtain⟨bw,HB⟩:=yH2 cv hB;have ue:W0.heap.size<=wr.heap.size:=cv.size;by_cases ae:k<rd.length
  ·obtain⟨gb,go,cs,lZ,dJ,dq,ah⟩:=(H.o wr (aj.o.trans (cv.mono aw))).ren.at ae;have hx:=HX.o;rw[List.drop_eq_getElem_cons ae,List.any_cons]at hx;have ai:=HK.o.tos _ (List.getElem_mem ae);obtain⟨au,ak⟩:=yH2 hx ae;generalize rd[k]=x at*;obtain⟨XB,xc,ui,rfl,hP⟩:=dq;obtain⟨kd,dy,pl,fr,ts,cl,yr⟩:=x;simp only at ai ui hP ah;cases ts with
   |nil=>exact absurd rfl ai
   |cons p ts=>
    obtain⟨tb,tof,zJ,Gy,ud⟩:=hP.at (k:=0) (Nat.succ_pos _);obtain⟨pn,pu,pd⟩:=p;have t0:wr.cell? ⟨tb,tof,none⟩=some (.string pn):=MdQ;have yt:zbf ⟨kd,dy,pl,fr,⟨pn,pu,pd⟩::ts,cl,yr⟩=pn:=rfl;have i3:=ah 3 _ rfl;have i4:=ah 4 _ rfl;have ar:(k:Int)<(rd.length:Int):=Mcy;have aQ:(0:Int)<=(k:Int):=Mcy;generalize dL:(⟨pn,pu,pd⟩::ts:List RPart).length=ln at*;have jt:(0:Int)<(ln:Int):=by rw[<-dL];simp
    have CY:0<ln:=Mcy;rw[Ai.o]at d4;rw[lZ]at s5;rw[zJ]at i4;have kW:wr.cell? ⟨b,off,none⟩=some (.string tn):=(zah cv sZ.o.1).trans sZ.o.2;have hb:b<wr.heap.size:=by have:=sZ.o.1;omega
    clear ah ae hx ai hP ud dL ui hB cv;cases dN:zae fr d.frm
    ·have bn:(fr.toList==d.frm.toList)=false:=dN;have HE:Hid (R=if(rd.drop (k+1)).any (renT d.frm tn)=true then(s,5)else({s with renounce:=rd.map (fun d=>(d.frm,zbf d))++[(d.frm,tn)]},0)):=by show _=_;rw[au.o];simp[renT,dN]
     clear dN;exact MO
    ·have bn:(fr.toList==d.frm.toList)=true:=dN;cases iy:zae pn tn
     ·have Do:(pn.toList==tn.toList)=false:=iy;have HE:Hid (R=if(rd.drop (k+1)).any (renT d.frm tn)=true then(s,5)else({s with renounce:=rd.map (fun d=>(d.frm,zbf d))++[(d.frm,tn)]},0)):=by show _=_;rw[au.o];simp[renT,yt,iy]
      clear dN iy;exact MO
     ·have Do:(pn.toList==tn.toList)=true:=iy;have HE:Hid (R=(s,5)):=by show _=_;rw[au.o];simp[renT,yt,dN,iy]
      clear dN iy;go_upto_region 6 with fail
      (refine zaj Mcz Mcz ?_
       repeat(first|go_big_quiet_skip|(go_big_quiet_want;go_big_quiet_op;first|go_big_quiet_on|(apply Exists.intro;refine⟨fun _=>?_,?_⟩;(fail);go_big_quiet_on)))
       refine wpQuiet_nil ?_
       rintro _ ⟨zq,rfl⟩)
      have bm:=zbv bw.o zq;clear xs0 xd0 xr0 s0 s1 s2 s3 s4 s5 s6 d0 d1 d2 d3 d4 d5 d6 r0 r1 r2 r3 r4 r5 r6 rf ls ld lr;clear i3 i4 t0;obtain⟨⟨xs0,xd0,xr0⟩,⟨s0,s1,s2,s3,s4,s5,s6⟩,⟨d0,d1,d2,d3,d4,d5,d6⟩,⟨r0,r1,r2,r3,r4,r5,r6⟩,rf,ls,ld,lr⟩:=ddF (av.o (wr.ext zq) (bm));have bm:=bm;exact Mg
  ·have ar:¬(k:Int)<(rd.length:Int):=Mcy;have hx:=HX.o;rw[List.drop_of_length_le Mcy]at hx;have HE:Hid (R=({s with renounce:=rd.map (fun d=>(d.frm,zbf d))++[(d.frm,tn)]},0)):=Mea;clear hx ae hB cv;go_upto_region 8 with fail
   clear ar;obtain⟨WX,kg⟩:∃WX,WX=wr:=⟨_,rfl⟩
   subst kg;have f9:=bw.o.size;have bo:Hid (rd.length=(dvs).length):=zHi (by rw[<-yK.o,List.length_map]);have tt:Hid ((dvs).length<=1000):=zHi (by rw[<-bo.o];exact HF.o.ren);have bZ:=zHi (fun W (hB:Below WX.heap.size WX W)=>qi.o.keep (aj.o.trans ((bw.o.trans (hB.mono f9)).mono aw)));have aE:=zHi (fun(W:World) (h:Below WX.heap.size WX W)=>(show W.cell? ⟨w.heap.size,5,none⟩=some (.slice RA rd.length c5)/\W.cell? ⟨w.heap.size+1,0,none⟩=some (.int .i64 d.kind)/\W.cell? ⟨w.heap.size+1,1,none⟩=some (.int .i64 d.day)/\W.cell? ⟨w.heap.size+1,2,none⟩=some (.string d.place)/\W.cell? ⟨w.heap.size+1,3,none⟩=some (.string d.frm)/\W.cell? ⟨w.heap.size+1,4,none⟩=some (.slice B d.to.length c)/\W.cell? ⟨w.heap.size+1,5,none⟩=some (.int .i64 d.cls)/\W.cell? ⟨w.heap.size+1,6,none⟩=some (.int .i64 d.years) from⟨(zah h ls).trans s5,(zah h ld).trans d0,(zah h ld).trans d1,(zah h ld).trans d2,(zah h ld).trans d3,(zah h ld).trans d4,(zah h ld).trans d5,(zah h ld).trans d6⟩))
   go_cut [5]from 55 to 63 (fun v wc=>v=v/\∃V c',wc.heap[w.heap.size]?=some (.cells #[.slice LA laws.length c0,.slice CA s.children.length c1,.slice MA s.marriages.length c2,.slice DA s.dead.length c3,.slice WA wd.length c4,.slice V (rd.length+1) c',.slice GA s.graves.length c6] 44)/\wc.heap[w.heap.size+2]?=some (.cells #[.slice none 0 0,.slice none 0 0,.slice none 0 0,.slice none 0 0,.slice none 0 0,.slice none 0 0,.slice none 0 0] 44)/\Ro wc 76 DV.cells V (dvs++[(⟨d,B,c⟩:DV)])/\Below w.heap.size w wc)
   case first=>
    refine zaB 6 (fun bb w'=>bb=true\/(w'.cell? ⟨w.heap.size,5,none⟩=some (.slice RA rd.length c5)/\w'.cell? ⟨w.heap.size+1,0,none⟩=some (.int .i64 d.kind)/\w'.cell? ⟨w.heap.size+1,1,none⟩=some (.int .i64 d.day)/\w'.cell? ⟨w.heap.size+1,2,none⟩=some (.string d.place)/\w'.cell? ⟨w.heap.size+1,3,none⟩=some (.string d.frm)/\w'.cell? ⟨w.heap.size+1,4,none⟩=some (.slice B d.to.length c)/\w'.cell? ⟨w.heap.size+1,5,none⟩=some (.int .i64 d.cls)/\w'.cell? ⟨w.heap.size+1,6,none⟩=some (.int .i64 d.years))) Mcz (.inr (aE.o _ (zaK (Below.refl _ _)))) ?hrest
    case hrest=>
     intro hHeld;clear xs0 xd0 xr0 s0 s1 s2 s3 s4 s5 s6 d0 d1 d2 d3 d4 d5 d6 r0 r1 r2 r3 r4 r5 r6 rf ls ld lr;refine TkM 1 ?_;refine TkM 2 ?_;refine TkM 4 ?_;refine TwM 0 5 (fun K hK=>?_) fun K hK=>?_
     ·go_simp
      have e0:Below WX.heap.size WX (WX.drew.alloc (.cells #[] 76)):=zad (zaK (Below.refl _ _)) _;have m0:OwnS (WX.drew.alloc (.cells #[] 76)) WX.heap.size 76 7 DV.cells (.slice (some ⟨WX.heap.size,0,none⟩) 0 0) []:=zdS zcf WX.drew WX.heap.size (Nat.le_refl _);refine NxM hK (fun hHeld=>?_) (.inr (aE.o _ e0));clear hK K;refine TwM 3 5 (fun K hK=>?_) fun K hK=>?_
      ·refine zak (v:=.slice (some ⟨WX.heap.size,0,none⟩) 0 0) (n:=0) (m:=rd.length) rfl _ _ rfl zgw zcf zgv rfl (xs:=[]) (ys:=dvs) (m0) rfl rfl bo.o (bZ.o _ e0) McG McR McJ ?_;intro v4 w4 h1 h2 h3;rw[List.nil_append]at h1;obtain⟨V4,c4',aX,_,_⟩:=h1.sl zcf;rw[<-bo.o]at aX;subst aX;have aC:Below WX.heap.size WX w4:=Below.grown e0 h2 Mdv (fun j hj=>by simp[za5]at hj;omega);refine NxM hK (fun hHeld=>?_) (.inr (aE.o _ aC));clear hK K;refine OnM 5 false fun K hK=>?_
       go_simp
       have e1:Below WX.heap.size WX (w4.alloc (.cells #[.int .i64 d.kind,.int .i64 d.day,.string d.place,.string d.frm,.slice B d.to.length c,.int .i64 d.cls,.int .i64 d.years] 76)):=zad aC _;have n1:(w4.alloc (.cells #[.int .i64 d.kind,.int .i64 d.day,.string d.place,.string d.frm,.slice B d.to.length c,.int .i64 d.cls,.int .i64 d.years] 76)).heap[w4.heap.size]?=some (.cells #[.int .i64 d.kind,.int .i64 d.day,.string d.place,.string d.frm,.slice B d.to.length c,.int .i64 d.cls,.int .i64 d.years] 76):=zar _ _ _ rfl;have o1:OwnS (w4.alloc (.cells #[.int .i64 d.kind,.int .i64 d.day,.string d.place,.string d.frm,.slice B d.to.length c,.int .i64 d.cls,.int .i64 d.years] 76)) WX.heap.size 76 7 DV.cells (.slice V4 rd.length c4') dvs:=h1.keep (n:=w4.heap.size) (zad (Below.refl _ _) _);refine NxM hK (fun hHeld=>?_) (.inr (aE.o _ e1));clear hK K;have o9:=o1;have n9:=n1;have e9:=e1;exact Mo
      ·go_simp
       have e1:Below WX.heap.size WX ((WX.drew.alloc (.cells #[] 76)).alloc (.cells #[.int .i64 d.kind,.int .i64 d.day,.string d.place,.string d.frm,.slice B d.to.length c,.int .i64 d.cls,.int .i64 d.years] 76)):=zad e0 _;have n1:((WX.drew.alloc (.cells #[] 76)).alloc (.cells #[.int .i64 d.kind,.int .i64 d.day,.string d.place,.string d.frm,.slice B d.to.length c,.int .i64 d.cls,.int .i64 d.years] 76)).heap[WX.heap.size+1]?=some (.cells #[.int .i64 d.kind,.int .i64 d.day,.string d.place,.string d.frm,.slice B d.to.length c,.int .i64 d.cls,.int .i64 d.years] 76):=zar _ _ _ McB;have m1:OwnS ((WX.drew.alloc (.cells #[] 76)).alloc (.cells #[.int .i64 d.kind,.int .i64 d.day,.string d.place,.string d.frm,.slice B d.to.length c,.int .i64 d.cls,.int .i64 d.years] 76)) WX.heap.size 76 7 DV.cells (.slice (some ⟨WX.heap.size,0,none⟩) 0 0) []:=m0.keep (n:=(WX.drew.alloc (.cells #[] 76)).heap.size) (zad (Below.refl _ _) _);refine NxM hK (fun hHeld=>?_) (.inr (aE.o _ e1));clear hK K;refine OnM 3 false fun K hK=>?_
       refine zak (v:=.slice (some ⟨WX.heap.size,0,none⟩) 0 0) (n:=0) (m:=rd.length) rfl _ _ rfl zgw zcf zgv rfl (xs:=[]) (ys:=dvs) (m1) rfl rfl bo.o (bZ.o _ e1) McG McR McF ?_;intro v4 w4 h1 h2 h3;rw[List.nil_append]at h1;obtain⟨V4,c4',aX,_,_⟩:=h1.sl zcf;rw[<-bo.o]at aX;subst aX;have aC:Below WX.heap.size WX w4:=Below.grown e1 h2 McU (fun j hj=>by simp[za5]at hj;omega);have n2:w4.heap[WX.heap.size+1]?=some (.cells #[.int .i64 d.kind,.int .i64 d.day,.string d.place,.string d.frm,.slice B d.to.length c,.int .i64 d.cls,.int .i64 d.years] 76):=(h2.block _ McP Mdn).trans n1;exact Mch
     ·go_simp
      have e0:Below WX.heap.size WX (WX.drew.alloc (.cells #[.int .i64 d.kind,.int .i64 d.day,.string d.place,.string d.frm,.slice B d.to.length c,.int .i64 d.cls,.int .i64 d.years] 76)):=zad (zaK (Below.refl _ _)) _;have n0:(WX.drew.alloc (.cells #[.int .i64 d.kind,.int .i64 d.day,.string d.place,.string d.frm,.slice B d.to.length c,.int .i64 d.cls,.int .i64 d.years] 76)).heap[WX.heap.size]?=some (.cells #[.int .i64 d.kind,.int .i64 d.day,.string d.place,.string d.frm,.slice B d.to.length c,.int .i64 d.cls,.int .i64 d.years] 76):=zar _ _ _ rfl;refine NxM hK (fun hHeld=>?_) (.inr (aE.o _ e0));clear hK K;refine OnM 0 false fun K hK=>?_
      go_simp
      have e1:Below WX.heap.size WX ((WX.drew.alloc (.cells #[.int .i64 d.kind,.int .i64 d.day,.string d.place,.string d.frm,.slice B d.to.length c,.int .i64 d.cls,.int .i64 d.years] 76)).alloc (.cells #[] 76)):=zad e0 _;have n1:((WX.drew.alloc (.cells #[.int .i64 d.kind,.int .i64 d.day,.string d.place,.string d.frm,.slice B d.to.length c,.int .i64 d.cls,.int .i64 d.years] 76)).alloc (.cells #[] 76)).heap[WX.heap.size]?=some (.cells #[.int .i64 d.kind,.int .i64 d.day,.string d.place,.string d.frm,.slice B d.to.length c,.int .i64 d.cls,.int .i64 d.years] 76):=zal n0;have m1:OwnS ((WX.drew.alloc (.cells #[.int .i64 d.kind,.int .i64 d.day,.string d.place,.string d.frm,.slice B d.to.length c,.int .i64 d.cls,.int .i64 d.years] 76)).alloc (.cells #[] 76)) WX.heap.size 76 7 DV.cells (.slice (some ⟨WX.heap.size+1,0,none⟩) 0 0) []:=by
       exact Map
      refine NxM hK (fun hHeld=>?_) (.inr (aE.o _ e1));clear hK K;refine OnM 3 false fun K hK=>?_
      refine zak (v:=.slice (some ⟨WX.heap.size+1,0,none⟩) 0 0) (n:=0) (m:=rd.length) rfl _ _ rfl zgw zcf zgv rfl (xs:=[]) (ys:=dvs) (m1) rfl rfl bo.o (bZ.o _ e1) McG McR McF ?_;intro v4 w4 h1 h2 h3;rw[List.nil_append]at h1;obtain⟨V4,c4',aX,_,_⟩:=h1.sl zcf;rw[<-bo.o]at aX;subst aX;have aC:Below WX.heap.size WX w4:=Below.grown e1 h2 McU (fun j hj=>by simp[za5]at hj;omega);have n2:w4.heap[WX.heap.size]?=some (.cells #[.int .i64 d.kind,.int .i64 d.day,.string d.place,.string d.frm,.slice B d.to.length c,.int .i64 d.cls,.int .i64 d.years] 76):=(h2.block _ McP Mdn).trans n1;exact Mch
   case rest=>
    obtain⟨_,V,c',eD,cq,dX,oo⟩:=hcut;clear xs0 xd0 xr0 s0 s1 s2 s3 s4 s5 s6 d0 d1 d2 d3 d4 d5 d6 r0 r1 r2 r3 r4 r5 r6 rf ls ld lr;obtain⟨s0,s1,s2,s3,s4,s5,s6⟩:=zaF eD;obtain⟨r0,r1,r2,r3,r4,r5,r6⟩:=zaF cq;have rf:=frz cq;have ls:=zab eD;have lr:=zab cq;go_wp2_with fail
    rw[HE.o];have dm:=zcA (a0:=.slice LA laws.length c0) (a1:=.slice CA s.children.length c1) (a2:=.slice MA s.marriages.length c2) (a3:=.slice DA s.dead.length c3) (a4:=.slice WA wd.length c4) (a5:=.slice V (rd.length+1) c') (a6:=.slice GA s.graves.length c6) oo (show w.heap.size<=w.heap.size+2 by omega);refine bodyPost_ret (zbC rfl _ rfl rfl (zcy cq)) rfl ?_;have h':=H.o _ dm;refine⟨_,_,_,_,_,_,_,rfl,rfl,dm,fun _=>⟨wd,rd++[d],LA,CA,MA,DA,WA,V,GA,c0,c1,c2,c3,c4,c',c6,rfl,rfl,rfl,rfl,rfl,by rw[List.length_append];rfl,rfl,⟨h'.laws,h'.kids,h'.marr,h'.dead,h'.wills,?_,h'.graves,h'.deadc⟩,⟨HK.o.wills,HK.o.shares,?_,?_⟩⟩⟩
    ·exact Mab
    ·rw[List.map_append,IF.o];rfl
    ·intro x hx;rcases List.mem_append.1 hx with hx|hx
     ·exact HK.o.tos x hx
     ·rw[List.mem_singleton.1 hx];intro he;have:=AZ.o;rw[he]at this;cases this

/- Walk of the reference's renounce. -/
import Derived.Test.YtjhbofabmpfniaaGreatDoorXK
import Derived.Test.YtjhbofabmpfniaaGreatDoorWR
set_option linter.unusedSimpArgs false
set_option linter.unusedVariables false
set_option maxRecDepth 100000
set_option maxHeartbeats 4000000
namespace Go.Proofs.YtjhbofabmpfniaaGreatDoor
open Go.RowKit Go.Shelf
attribute [local go_sem] World.cell?_alloc_mark zae za3 zam za6 zas zat zau zav zaw zax zay
attribute [local go_sem] zaj zac
def zji (l:List (ByteArray×ByteArray)) (n:ByteArray):Nat:=(l.filter fun c=>zaf c.2 n).length
theorem zpk {l:List (ByteArray×ByteArray)} {n:ByteArray} {k:Nat} (h:k<l.length):zji (l.take (k+1)) n=zji (l.take k) n+if zaf l[k].2 n then 1 else 0:=by
 unfold zji;rw[List.take_add_one,List.getElem?_eq_getElem h,List.filter_append,List.length_append];simp only[Option.toList_some,List.filter_cons,List.filter_nil];cases zaf l[k].2 n<;>rfl
theorem chCnt_le (l:List (ByteArray×ByteArray)) (n:ByteArray):zji l n<=l.length:=List.length_filter_le _ _
theorem any_desc {s:St} {ys:List ByteArray} {a b:ByteArray} (h: ∀y,y∈ys↔Relation.TransGen (fun x y=>y∈zdi s.children x) a y):ys.any (zaf b)=true↔Desc s a b:=by
 rw[List.any_eq_true];constructor
 ·rintro⟨y,hy,he⟩;rw[za2.1 he];exact(h y).1 hy
 ·intro hd;exact⟨b,(h b).2 hd,za2.2 rfl⟩
theorem zpl (laws:List Law) (s:St) (wd rd:List Deed) (LA CA MA DA WA RA GA:Option Addr) (c0 c1 c2 c3 c4 c5 c6:Nat) (d:Deed) (B:Option Addr) (c:Nat) (w:World) (h:StIn w laws s wd rd LA CA MA DA WA RA GA c0 c1 c2 c3 c4 c5 c6) (hk:StLink s wd rd) (hf:StFew s wd rd) (hd:OkD d) (hS:Sl w 3 RPart.cells B d.to) (bQ:d.kind=6):Calls Tryz.prog 185 #[.agg #[.slice LA laws.length c0, .slice CA s.children.length c1, .slice MA s.marriages.length c2, .slice DA s.dead.length c3, .slice WA wd.length c4, .slice RA rd.length c5, .slice GA s.graves.length c6],d.v B c] w (zeX w laws (zcD s d)):=by
 obtain⟨R,hR⟩: ∃R,R=zcD s d:=⟨_,rfl⟩
 rw[<-hR];have aR:=(hd.one (.inr (.inl bQ))).1;have ta:=zHi (fun W (hS:Sl W 3 RPart.cells B d.to)=>zn0 aR hS);have nH:(0:Int)<(d.to.length:Int):=Mcn;unfold zcD at hR;generalize zbf d=tn at*;clear bQ aR;have H:=zHi (fun W (hB:Below w.heap.size w W)=>h.keep hB);have HK:=zHi hk;have HF:=zHi hf;have HD:=zHi hd;have HS:=zHi (fun W (hB:Below w.heap.size w W)=>hS.keep hB);have HR:=zHi hR;unfold Deed.v;clear h hk hf hd hS hR;go_enter Tryz.func185,Tryz.ntmps185
 go_upto_region 1 with fail
 generalize ao:World.alloc (World.alloc (World.alloc w _) _) _=W0;obtain⟨ak,ax⟩:=zeP ao;clear ao;have aw:=ak.o.size;obtain⟨⟨xs0,xd0,xr0⟩,⟨s0,s1,s2,s3,s4,s5,s6⟩,⟨d0,d1,d2,d3,d4,d5,d6⟩,⟨r0,r1,r2,r3,r4,r5,r6⟩,rf,ls,ld,lr⟩:=ddF (ax.o W0 (Below.refl _ _));obtain⟨b,off,hA,hb,jV⟩:=ta.o W0 (HS.o W0 ak.o);have hr:=HR.o;have jQ:=zHi (sKids d.frm W0 (H.o W0 ak.o) HF.o);have bR:=HF.o.kids;have bm:(zai s d.frm).length<=1000:=by
  unfold zai;rw[List.length_map];exact Nat.le_trans (List.length_filter_le _ _) bR
 generalize zai s d.frm=ks at*;rw[hA]at d4;go_upto_region 2 with fail
 cases ca:ks.any (zaf tn);rotate_left 1
 ·have HE:Hid (R=(s,5)):=Mec;clear hr
  go_upto_region 3 with(first
   |(go_at_call 101
     go_must(refine(jQ.o).mono ?_)
     rintro e w2 ⟨v2,rfl,o2,b2⟩;obtain⟨KA,kc,rfl,iR,fH⟩:=o2.sl zaD;have ic:=zHi iR
     clear o2 iR)
   |(go_at_call 83;go_must(refine(zdy ks tn KA kc _ Mcn fH ic.o).mono ?_);rintro e wq ⟨rfl,rfl⟩;rw[ca]))
  have bf:=b2;exact MbR
 rw[ca,if_neg Mcq]at hr
 go_upto_region 6 with(first
  |(go_at_call 101
    go_must(refine(jQ.o).mono ?_)
    rintro e w2 ⟨v2,rfl,o2,b2⟩;obtain⟨KA,kc,rfl,iR,fH⟩:=o2.sl zaD;have ic:=zHi iR;obtain⟨_,_,xr2⟩:=ax.o w2 b2
    clear o2 iR)
  |(go_at_call 83;go_must(refine(zdy ks tn KA kc _ Mcn fH ic.o).mono ?_);rintro e wq ⟨rfl,rfl⟩;rw[ca]))
 have jk:=b2.size;have aB:=zHi b2;clear fH ic b2 ca jV bm xr2;clear xs0 xd0 xr0 s0 s1 s2 s3 s4 s5 s6 d0 d1 d2 d3 d4 d5 d6 r0 r1 r2 r3 r4 r5 r6 rf ls ld lr;obtain⟨⟨xs0,xd0,xr0⟩,⟨s0,s1,s2,s3,s4,s5,s6⟩,⟨d0,d1,d2,d3,d4,d5,d6⟩,⟨r0,r1,r2,r3,r4,r5,r6⟩,rf,ls,ld,lr⟩:=ddF (ax.o w2 (aB.o));have I8:=zHi (H.o w2 (ak.o.trans (aB.o.mono aw))).kids;go_loopw [7,8] (fun n i wr=> ∃k:Nat,k<=s.children.length/\i= .int .i64 k/\n= .int .i64 (zji (s.children.take k) tn)/\w2=wr) (fun _ i _=>s.children.length-(intOf i).toNat)
 case atStart=>exact⟨0,Nat.zero_le _,rfl,rfl,rfl⟩
 case round=>
  obtain⟨k,hk,rfl,rfl,rfl⟩:=hrel;have wF:=chCnt_le (s.children.take k) tn;rw[List.length_take]at wF;have CK:zji (s.children.take k) tn<=1000:=Mcn;by_cases aa:k<s.children.length
  ·have bU:=zpk (n:=tn) aa;generalize zji (s.children.take k) tn=m at*;obtain⟨cb,co,lV,jV,ah⟩:=I8.o.at aa;have am:=zHi aa;generalize s.children[k]=y at*;obtain⟨y1,y2⟩:=y;simp only at bU;have i1:w2.cell? ⟨cb,co+k*2+1,none⟩=some (.string y2):=ah 1 _ rfl;have ar:(k:Int)<(s.children.length:Int):=Mcn;have aT:(0:Int)<=(k:Int):=Mcn;rw[lV]at s1;clear ah aa;cases hs:zaf y2 tn
   ·have bp:(y2.toList==tn.toList)=false:=hs;have ej:Hid (zji (s.children.take (k+1)) tn=m):=by show _=_;rw[bU,hs];rfl
    clear bU hs;go_wp2_with fail
    go_round
    case rel=>exact⟨k+1,am.o,by go_num,by rw[ej.o],by first|exact True.intro|rfl⟩
    case measure=>have:=am.o;simp only[intOf];omega
   ·have bp:(y2.toList==tn.toList)=true:=hs;have ej:Hid (zji (s.children.take (k+1)) tn=m+1):=by show _=_;rw[bU,hs];rfl
    clear bU hs;go_wp2_with fail
    go_round
    case rel=>exact⟨k+1,am.o,by go_num,by rw[ej.o];go_num,by first|exact True.intro|rfl⟩
    case measure=>have:=am.o;simp only[intOf];omega
  ·have ar: ¬(k:Int)<(s.children.length:Int):=Mcn;rw[List.take_of_length_le Mcn]at*;have oJ:(zbR s tn).length=zji s.children tn:=List.length_map _;rw[oJ]at hr;clear oJ wF aa;generalize zji s.children tn=m at*;by_cases hs:(2:Int)<=(m:Int)
   ·have HE:Hid (R=(s,16)):=by show _=_;rw[hr,if_pos (by simpa using(show 2<=m by omega))]
    clear hr;go_upto_region 11 with fail
    have bf:=aB.o;exact Mg
   rw[if_neg (by simpa using(show¬2<=m by omega))]at hr;have br:=zHi hr;clear hr;go_upto_region 12 with fail
   clear hs CK ar;have bX:=zHi (fun(W:World) (h:Below w2.heap.size w2 W)=>(show W.cell? ⟨w.heap.size,0,none⟩=some (.slice LA laws.length c0)/\W.cell? ⟨w.heap.size,1,none⟩=some (.slice CA s.children.length c1)/\W.cell? ⟨w.heap.size,2,none⟩=some (.slice MA s.marriages.length c2)/\W.cell? ⟨w.heap.size,3,none⟩=some (.slice DA s.dead.length c3)/\W.cell? ⟨w.heap.size,4,none⟩=some (.slice WA wd.length c4)/\W.cell? ⟨w.heap.size,5,none⟩=some (.slice RA rd.length c5)/\W.cell? ⟨w.heap.size,6,none⟩=some (.slice GA s.graves.length c6)/\W.cell? ⟨w.heap.size+1,3,none⟩=some (.string d.frm) from⟨(zah h ls).trans s0,(zah h ls).trans s1,(zah h ls).trans s2,(zah h ls).trans s3,(zah h ls).trans s4,(zah h ls).trans s5,(zah h ls).trans s6,(zah h ld).trans d3⟩));clear xs0 xd0 xr0 s0 s1 s2 s3 s4 s5 s6 d0 d1 d2 d3 d4 d5 d6 r0 r1 r2 r3 r4 r5 r6 rf ls ld lr;have dD:=zHi (fun W (hB:Below w2.heap.size w2 W)=>sDesc tn W (H.o W (ak.o.trans ((aB.o.trans (hB.mono jk)).mono aw))) HF.o);unfold DescR at dD
   refine zaC 5 (fun bb w'=>bb=true\/(w'.cell? ⟨w.heap.size,0,none⟩=some (.slice LA laws.length c0)/\w'.cell? ⟨w.heap.size,1,none⟩=some (.slice CA s.children.length c1)/\w'.cell? ⟨w.heap.size,2,none⟩=some (.slice MA s.marriages.length c2)/\w'.cell? ⟨w.heap.size,3,none⟩=some (.slice DA s.dead.length c3)/\w'.cell? ⟨w.heap.size,4,none⟩=some (.slice WA wd.length c4)/\w'.cell? ⟨w.heap.size,5,none⟩=some (.slice RA rd.length c5)/\w'.cell? ⟨w.heap.size,6,none⟩=some (.slice GA s.graves.length c6)/\w'.cell? ⟨w.heap.size+1,3,none⟩=some (.string d.frm))) Mco (.inr (bX.o _ (zaH (Below.refl _ _)))) ?hrest
   case hrest=>
    intro hHeld;refine TkM 0 ?_;refine TkM 1 ?_;refine TkM 3 ?_;refine TkM 4 ?_;refine OnM 2 false fun K hK=> ?_
    go_simp
    refine(dD.o _ (zaH (Below.refl _ _))).mono ?_;rintro e w4 ⟨v4,ys,rfl,o4,bH,_,oU,b4⟩;obtain⟨YA,yc,rfl,oV,ud⟩:=o4.sl zaD;have aC:Below w2.heap.size w2 w4:=(zaH (Below.refl _ _)).trans b4;have qS:=zHi oV;have Av:=zHi (any_desc (s:=s) (b:=d.frm) bH);refine NxM hK (fun hHeld=> ?_) (.inr (bX.o _ aC));clear hK K;refine OnM 5 true fun K hK=> ?_
    go_simp
    refine(zdy ys d.frm YA yc _ Mcn ud qS.o).mono ?_;rintro e wq ⟨rfl,rfl⟩;refine NxM hK fun hHeld=> ?_
    clear hK K;refine zaN Mco ?_ _;clear hHeld o4 bH oV oU b4 ud dD bX;have EO:=aC.size;have bx:=zHi (aB.o.trans (aC.mono jk));obtain⟨⟨xs0,xd0,xr0⟩,⟨s0,s1,s2,s3,s4,s5,s6⟩,⟨d0,d1,d2,d3,d4,d5,d6⟩,⟨r0,r1,r2,r3,r4,r5,r6⟩,rf,ls,ld,lr⟩:=ddF (ax.o w4 (bx.o));by_cases jx:Desc s tn d.frm
    ·have HE:Hid (R=(s,25)):=by show _=_;rw[br.o,if_pos (by simpa using jx)]
     have dX:ys.any (zaf d.frm)=true:=Av.o.2 jx;rw[dX];go_upto_region 13 with fail
     have bf:=bx.o;exact Mg
    have HE:Hid (R=({s with children:=s.children++[(d.frm,tn)]},0)):=by show _=_;rw[br.o,if_neg (by simpa using jx)]
    have dX:ys.any (zaf d.frm)=false:=by
     rw[Bool.eq_false_iff];exact fun h=>jx (Av.o.1 h)
    rw[dX];clear jx dX Av br;go_upto_region 14 with fail
    obtain⟨WX,kp⟩: ∃WX,WX=w4:=⟨_,rfl⟩
    subst kp;have dU:=bx.o.size;have bs:Hid (s.children.length=(s.children).length):=zHi rfl;have tg:Hid ((s.children).length<=1000):=zHi HF.o.kids;have cf:=zHi (fun W (hB:Below WX.heap.size WX W)=>(H.o W (ak.o.trans ((bx.o.trans (hB.mono dU)).mono aw))).kids);have aG:=zHi (fun(W:World) (h:Below WX.heap.size WX W)=>(show W.cell? ⟨w.heap.size,1,none⟩=some (.slice CA s.children.length c1)/\W.cell? ⟨w.heap.size+1,3,none⟩=some (.string d.frm) from⟨(zah h ls).trans s1,(zah h ld).trans d3⟩));go_cut [5]from 48 to 59 (fun v wc=>v= .int .i64 0/\ ∃V c',wc.heap[w.heap.size]?=some (.cells #[.slice LA laws.length c0, .slice V (s.children.length+1) c', .slice MA s.marriages.length c2, .slice DA s.dead.length c3, .slice WA wd.length c4, .slice RA rd.length c5, .slice GA s.graves.length c6] 36)/\wc.heap[w.heap.size+2]?=some (.cells #[.slice none 0 0, .slice none 0 0, .slice none 0 0, .slice none 0 0, .slice none 0 0, .slice none 0 0, .slice none 0 0] 36)/\Ro wc 163 zaT V (s.children++[(d.frm,tn)])/\Below w.heap.size w wc)
    case first=>
     refine zaC 9 (fun bb w'=>bb=true\/(w'.cell? ⟨w.heap.size,1,none⟩=some (.slice CA s.children.length c1)/\w'.cell? ⟨w.heap.size+1,3,none⟩=some (.string d.frm))) Mco (.inr (aG.o _ (zaH (Below.refl _ _)))) ?hrest
     case hrest=>
      intro hHeld;clear xs0 xd0 xr0 s0 s1 s2 s3 s4 s5 s6 d0 d1 d2 d3 d4 d5 d6 r0 r1 r2 r3 r4 r5 r6 rf ls ld lr;refine TkM 1 ?_;refine TkM 2 ?_;refine TkM 4 ?_;refine TkM 5 ?_;refine TkM 6 ?_;refine TkM 7 ?_;refine TwM 0 8 (fun K hK=> ?_) fun K hK=> ?_
      ·go_simp
       have e0:Below WX.heap.size WX (WX.drew.alloc (.cells #[] 163)):=zad (zaH (Below.refl _ _)) _;have m0:OwnS (WX.drew.alloc (.cells #[] 163)) WX.heap.size 163 2 zaT (.slice (some ⟨WX.heap.size,0,none⟩) 0 0) []:=zdY zbi WX.drew WX.heap.size (Nat.le_refl _);refine NxM hK (fun hHeld=> ?_) (.inr (aG.o _ e0));clear hK K;refine TwM 3 8 (fun K hK=> ?_) fun K hK=> ?_
       ·refine zak (v:= .slice (some ⟨WX.heap.size,0,none⟩) 0 0) (n:=0) (m:=s.children.length) rfl _ _ rfl zg1 zbi zdC rfl (xs:=[]) (ys:=s.children) (m0) rfl rfl bs.o (cf.o _ e0) Mcv McG Mcy ?_;intro v4 w4 h1 h2 h3;rw[List.nil_append]at h1;obtain⟨V4,c4',b8,_,_⟩:=h1.sl zbi;rw[<-bs.o]at b8;subst b8;have aC:Below WX.heap.size WX w4:=Below.grown e0 h2 Mdn (fun j hj=>by simp[zaA]at hj;omega);refine NxM hK (fun hHeld=> ?_) (.inr (aG.o _ aC));clear hK K;refine OnM 8 false fun K hK=> ?_
        go_simp
        have e1:Below WX.heap.size WX (w4.alloc (.cells #[.string d.frm, .string tn] 163)):=zad aC _;have n1:(w4.alloc (.cells #[.string d.frm, .string tn] 163)).heap[w4.heap.size]?=some (.cells #[.string d.frm, .string tn] 163):=zar _ _ _ rfl;have o1:OwnS (w4.alloc (.cells #[.string d.frm, .string tn] 163)) WX.heap.size 163 2 zaT (.slice V4 s.children.length c4') s.children:=h1.keep (n:=w4.heap.size) (zad (Below.refl _ _) _);refine NxM hK (fun hHeld=> ?_) (.inr (aG.o _ e1));clear hK K;have o9:=o1;have n9:=n1;have e9:=e1;exact Mn
       ·go_simp
        have e1:Below WX.heap.size WX ((WX.drew.alloc (.cells #[] 163)).alloc (.cells #[.string d.frm, .string tn] 163)):=zad e0 _;have n1:((WX.drew.alloc (.cells #[] 163)).alloc (.cells #[.string d.frm, .string tn] 163)).heap[WX.heap.size+1]?=some (.cells #[.string d.frm, .string tn] 163):=zar _ _ _ Mcq;have m1:OwnS ((WX.drew.alloc (.cells #[] 163)).alloc (.cells #[.string d.frm, .string tn] 163)) WX.heap.size 163 2 zaT (.slice (some ⟨WX.heap.size,0,none⟩) 0 0) []:=m0.keep (n:=(WX.drew.alloc (.cells #[] 163)).heap.size) (zad (Below.refl _ _) _);refine NxM hK (fun hHeld=> ?_) (.inr (aG.o _ e1));clear hK K;refine OnM 3 false fun K hK=> ?_
        refine zak (v:= .slice (some ⟨WX.heap.size,0,none⟩) 0 0) (n:=0) (m:=s.children.length) rfl _ _ rfl zg1 zbi zdC rfl (xs:=[]) (ys:=s.children) (m1) rfl rfl bs.o (cf.o _ e1) Mcv McG Mcu ?_;intro v4 w4 h1 h2 h3;rw[List.nil_append]at h1;obtain⟨V4,c4',b8,_,_⟩:=h1.sl zbi;rw[<-bs.o]at b8;subst b8;have aC:Below WX.heap.size WX w4:=Below.grown e1 h2 McI (fun j hj=>by simp[zaA]at hj;omega);have n2:w4.heap[WX.heap.size+1]?=some (.cells #[.string d.frm, .string tn] 163):=(h2.block _ McE Mdg).trans n1;exact Mb6
      ·go_simp
       have e0:Below WX.heap.size WX (WX.drew.alloc (.cells #[.string d.frm, .string tn] 163)):=zad (zaH (Below.refl _ _)) _;have n0:(WX.drew.alloc (.cells #[.string d.frm, .string tn] 163)).heap[WX.heap.size]?=some (.cells #[.string d.frm, .string tn] 163):=zar _ _ _ rfl;refine NxM hK (fun hHeld=> ?_) (.inr (aG.o _ e0));clear hK K;refine OnM 0 false fun K hK=> ?_
       go_simp
       have e1:Below WX.heap.size WX ((WX.drew.alloc (.cells #[.string d.frm, .string tn] 163)).alloc (.cells #[] 163)):=zad e0 _;have n1:((WX.drew.alloc (.cells #[.string d.frm, .string tn] 163)).alloc (.cells #[] 163)).heap[WX.heap.size]?=some (.cells #[.string d.frm, .string tn] 163):=zal n0;have m1:OwnS ((WX.drew.alloc (.cells #[.string d.frm, .string tn] 163)).alloc (.cells #[] 163)) WX.heap.size 163 2 zaT (.slice (some ⟨WX.heap.size+1,0,none⟩) 0 0) []:=by
        exact Mba
       refine NxM hK (fun hHeld=> ?_) (.inr (aG.o _ e1));clear hK K;refine OnM 3 false fun K hK=> ?_
       refine zak (v:= .slice (some ⟨WX.heap.size+1,0,none⟩) 0 0) (n:=0) (m:=s.children.length) rfl _ _ rfl zg1 zbi zdC rfl (xs:=[]) (ys:=s.children) (m1) rfl rfl bs.o (cf.o _ e1) Mcv McG Mcu ?_;intro v4 w4 h1 h2 h3;rw[List.nil_append]at h1;obtain⟨V4,c4',b8,_,_⟩:=h1.sl zbi;rw[<-bs.o]at b8;subst b8;have aC:Below WX.heap.size WX w4:=Below.grown e1 h2 McI (fun j hj=>by simp[zaA]at hj;omega);have n2:w4.heap[WX.heap.size]?=some (.cells #[.string d.frm, .string tn] 163):=(h2.block _ McE Mdg).trans n1;exact Mb6
    case rest=>
     obtain⟨rfl,V,c',eM,cu,eb,ob⟩:=hcut;clear xs0 xd0 xr0 s0 s1 s2 s3 s4 s5 s6 d0 d1 d2 d3 d4 d5 d6 r0 r1 r2 r3 r4 r5 r6 rf ls ld lr;obtain⟨s0,s1,s2,s3,s4,s5,s6⟩:=zaG eM;obtain⟨r0,r1,r2,r3,r4,r5,r6⟩:=zaG cu;have rf:=frz cu;have ls:=zab eM;have lr:=zab cu;go_wp2_with fail
     rw[HE.o];have dh:=zc9 (a0:= .slice LA laws.length c0) (a1:= .slice V (s.children.length+1) c') (a2:= .slice MA s.marriages.length c2) (a3:= .slice DA s.dead.length c3) (a4:= .slice WA wd.length c4) (a5:= .slice RA rd.length c5) (a6:= .slice GA s.graves.length c6) ob (show w.heap.size<=w.heap.size+2 by omega);refine bodyPost_ret (zbB rfl _ rfl rfl (zc0 cu)) rfl ?_;have h':=H.o _ dh;exact⟨_,_,_,_,_,_,_,rfl,rfl,dh,fun _=>⟨wd,rd,LA,V,MA,DA,WA,RA,GA,c0,c',c2,c3,c4,c5,c6,rfl,by rw[List.length_append];rfl,rfl,rfl,rfl,rfl,rfl,⟨h'.laws,(zjh eb cu Mcp).sl zbi,h'.marr,h'.dead,h'.wills,h'.ren,h'.graves,h'.deadc⟩,⟨HK.o.wills,HK.o.shares,HK.o.ren,HK.o.tos⟩⟩⟩
theorem sl_deed {W:World} {b:Nat} {t:TypeId} {fr:Nat×Nat} (d:Deed) (B:Option Addr) (c:Nat) (h:W.heap[b]?=some (.cells #[.int .i64 d.kind, .int .i64 d.day, .string d.place, .string d.frm, .slice B d.to.length c, .int .i64 d.cls, .int .i64 d.years] t fr)):Sl W 7 DV.cells (some ⟨b,0,none⟩) [⟨d,B,c⟩]:=
 zfr zb0 h (by simp[DV.cells])
theorem zkU (laws:List Law) (s:St) (wd rd:List Deed) (LA CA MA DA WA RA GA:Option Addr) (c0 c1 c2 c3 c4 c5 c6:Nat) (d:Deed) (B:Option Addr) (c:Nat) (w:World) (h:StIn w laws s wd rd LA CA MA DA WA RA GA c0 c1 c2 c3 c4 c5 c6) (hk:StLink s wd rd) (hf:StFew s wd rd) (hd:OkD d) (hS:Sl w 3 RPart.cells B d.to) (bQ:d.kind=5) (au:d.to.length<=c):Calls Tryz.prog 184 #[.agg #[.slice LA laws.length c0, .slice CA s.children.length c1, .slice MA s.marriages.length c2, .slice DA s.dead.length c3, .slice WA wd.length c4, .slice RA rd.length c5, .slice GA s.graves.length c6],d.v B c] w (zeX w laws (zb9 s d)):=by
 obtain⟨R,hR⟩: ∃R,R=zb9 s d:=⟨_,rfl⟩
 rw[<-hR];have aR:=(hd.one (.inl bQ)).1;have Bl:=zHi aR;have ta:=zHi (fun W (hS:Sl W 3 RPart.cells B d.to)=>zn0 aR hS);have nH:(0:Int)<(d.to.length:Int):=Mcn;have KY:0<d.to.length:=Mcn;unfold zb9 at hR;rw[hk.ren,List.any_map]at hR;change R=(if(zaK s d.frm||zaK s (zbf d))=true then(s,28)else if rd.any (renT d.frm (zbf d))=true then(s,5)else({s with renounce:=rd.map (fun d=>(d.frm,zbf d))++[(d.frm,zbf d)]},0))at hR;obtain⟨tn,fM⟩: ∃tn,tn=zbf d:=⟨_,rfl⟩
 rw[<-fM]at hR ta;have Iy:=zHi fM;have lz:=zHi au;obtain⟨dvs,wL,wM,rU⟩:=dv_of h.ren;have yN:=zHi wL;have sS:=zHi wM;have qk:=zHi rU;clear bQ aR fM wL wM rU au;have H:=zHi (fun W (hB:Below w.heap.size w W)=>h.keep hB);have HK:=zHi hk;have HF:=zHi hf;have HD:=zHi hd;have HS:=zHi (fun W (hB:Below w.heap.size w W)=>hS.keep hB);have HR:=zHi hR;unfold Deed.v;clear h hk hf hd hS hR;go_enter Tryz.func184,Tryz.ntmps184
 go_upto_region 1 with fail
 generalize ao:World.alloc (World.alloc (World.alloc w _) _) _=W0;obtain⟨ak,ax⟩:=zeP ao;clear ao;have aw:=ak.o.size;obtain⟨⟨xs0,xd0,xr0⟩,⟨s0,s1,s2,s3,s4,s5,s6⟩,⟨d0,d1,d2,d3,d4,d5,d6⟩,⟨r0,r1,r2,r3,r4,r5,r6⟩,rf,ls,ld,lr⟩:=ddF (ax.o W0 (Below.refl _ _));have sR:=zHi (fun x W (hB:Below W0.heap.size W0 W)=>sDead x W (H.o W (ak.o.trans (hB.mono aw))) HF.o);obtain⟨b,off,hA,hb,jV⟩:=ta.o W0 (HS.o W0 ak.o);have hr:=HR.o;rw[hA]at d4;go_upto_region 1 with fail
 have fX:=zHi (fun x b (hx:zaK s x=b) W (hB:Below W0.heap.size W0 W)=>(hx▸sR.o x W hB:Calls Tryz.prog 32 #[.agg #[.slice LA laws.length c0, .slice CA s.children.length c1, .slice MA s.marriages.length c2, .slice DA s.dead.length c3, .slice WA wd.length c4, .slice RA rd.length c5, .slice GA s.graves.length c6], .string x] W (Ret W (.bool b))));clear sR;cases ca:zaK s d.frm;rotate_left 1
 ·have HE:Hid (R=(s,28)):=Mec;clear hr
  (refine zan Mco Mco ?_
   repeat(first|go_big_quiet_skip|(go_big_quiet_want;go_big_quiet_op;first|go_big_quiet_on|(apply Exists.intro;refine⟨fun _=> ?_,?_⟩;((go_at_call 32;exact quietx (fX.o _ _ ca _ Bw)));go_big_quiet_on)))
   refine wpQuiet_nil ?_
   rintro _ ⟨zq,rfl⟩)
  have bf:=zaq W0 zq;exact MbR
 cases dX:zaK s tn;rotate_left 1
 ·have HE:Hid (R=(s,28)):=by show _=_;rw[hr,ca,dX];rfl
  clear hr
  (refine zan Mco Mco ?_
   repeat(first|go_big_quiet_skip|(go_big_quiet_want;go_big_quiet_op;first|go_big_quiet_on|(apply Exists.intro;refine⟨fun _=> ?_,?_⟩;((go_at_call 32;exact quietx (fX.o _ _ (by first|exact ca|exact dX) _ Bw)));go_big_quiet_on)))
   refine wpQuiet_nil ?_
   rintro _ ⟨zq,rfl⟩)
  have bf:=zaq W0 zq;exact MbR
 rw[ca,dX,Bool.or_false,if_neg Mcq]at hr;have br:Hid (R=if(rd.drop 0).any (renT d.frm tn)=true then(s,5)else({s with renounce:=rd.map (fun d=>(d.frm,zbf d))++[(d.frm,tn)]},0)):=zHi hr;clear hr
 (refine zan Mco Mco ?_
  repeat(first|go_big_quiet_skip|(go_big_quiet_want;go_big_quiet_op;first|go_big_quiet_on|(apply Exists.intro;refine⟨fun _=> ?_,?_⟩;((go_at_call 32;exact quietx (fX.o _ _ (by first|exact ca|exact dX) _ Bw)));go_big_quiet_on)))
  refine wpQuiet_nil ?_
  rintro _ ⟨zq,rfl⟩)
 obtain⟨W1,aM⟩: ∃W1,W1=W0.ext zq:=⟨_,rfl⟩
 have aS:Below W0.heap.size W0 W1:=Mdb;rw[<-aM];have gw:=aS.size;have aA:=zHi aS;have sP:=zHi (show b<W0.heap.size/\W0.cell? ⟨b,off,none⟩=some (.string tn) from⟨hb,jV⟩);have At:=zHi hA;clear aM aS hb jV ca dX hA;clear xs0 xd0 xr0 s0 s1 s2 s3 s4 s5 s6 d0 d1 d2 d3 d4 d5 d6 r0 r1 r2 r3 r4 r5 r6 rf ls ld lr;go_upto_region 4 with fail
 go_loopw [6] (fun i wr=> ∃k:Nat,k<=rd.length/\i= .int .i64 k/\Hid (R=if(rd.drop k).any (renT d.frm tn)=true then(s,5)else({s with renounce:=rd.map (fun d=>(d.frm,zbf d))++[(d.frm,tn)]},0))/\Below W1.heap.size W1 wr) (fun i _=>rd.length-(intOf i).toNat)
 case atStart=>exact⟨0,Nat.zero_le _,rfl,br,Below.refl _ _⟩
 case round=>
  obtain⟨k,hk,rfl,HX,hB⟩:=hrel;have aE:=hB.size;have cw:=aA.o.trans (hB.mono gw);have KS:=HF.o.ren;obtain⟨⟨xs0,xd0,xr0⟩,⟨s0,s1,s2,s3,s4,s5,s6⟩,⟨d0,d1,d2,d3,d4,d5,d6⟩,⟨r0,r1,r2,r3,r4,r5,r6⟩,rf,ls,ld,lr⟩:=ddF (ax.o wr (cw));have bx:=zHi cw;have HB:=zHi hB;have u7:W0.heap.size<=wr.heap.size:=cw.size;by_cases aa:k<rd.length
  ·obtain⟨gb,go,cs,lY,dM,dl,ah⟩:=(H.o wr (ak.o.trans (cw.mono aw))).ren.at aa;have hx:=HX.o;rw[List.drop_eq_getElem_cons aa,List.any_cons]at hx;have ai:=HK.o.tos _ (List.getElem_mem aa);have av:=zHi hx;have am:=zHi aa;generalize rd[k]=x at*;obtain⟨XB,xc,ub,rfl,hP⟩:=dl;obtain⟨kd,dy,pl,fr,ts,cl,yr⟩:=x;simp only at ai ub hP ah;cases ts with
   |nil=>exact absurd rfl ai
   |cons p ts=>
    obtain⟨tb,tof,zN,Gv,u4⟩:=hP.at (k:=0) (Nat.succ_pos _);obtain⟨pn,pu,pd⟩:=p;have t0:wr.cell? ⟨tb,tof,none⟩=some (.string pn):=MdI;have yq:zbf ⟨kd,dy,pl,fr,⟨pn,pu,pd⟩::ts,cl,yr⟩=pn:=rfl;have i3:=ah 3 _ rfl;have i4:=ah 4 _ rfl;have ar:(k:Int)<(rd.length:Int):=Mcn;have aT:(0:Int)<=(k:Int):=Mcn;generalize eJ:(⟨pn,pu,pd⟩::ts:List RPart).length=ln at*;have jE:(0:Int)<(ln:Int):=by rw[<-eJ];simp
    have Dm:0<ln:=Mcn;rw[At.o]at d4;rw[lY]at s5;rw[zN]at i4;have jV:wr.cell? ⟨b,off,none⟩=some (.string tn):=(zah cw sP.o.1).trans sP.o.2;have hb:b<wr.heap.size:=by have:=sP.o.1;omega
    clear ah aa hx ai hP u4 eJ ub hB cw;cases dt:zaf fr d.frm
    ·have bp:(fr.toList==d.frm.toList)=false:=dt;have HE:Hid (R=if(rd.drop (k+1)).any (renT d.frm tn)=true then(s,5)else({s with renounce:=rd.map (fun d=>(d.frm,zbf d))++[(d.frm,tn)]},0)):=by show _=_;rw[av.o];simp[renT,dt]
     clear dt;exact MR
    ·have bp:(fr.toList==d.frm.toList)=true:=dt;cases fV:zaf pn tn
     ·have xY:(pn.toList==tn.toList)=false:=fV;have HE:Hid (R=if(rd.drop (k+1)).any (renT d.frm tn)=true then(s,5)else({s with renounce:=rd.map (fun d=>(d.frm,zbf d))++[(d.frm,tn)]},0)):=by show _=_;rw[av.o];simp[renT,yq,fV]
      clear dt fV;exact MR
     ·have xY:(pn.toList==tn.toList)=true:=fV;have HE:Hid (R=(s,5)):=by show _=_;rw[av.o];simp[renT,yq,dt,fV]
      clear dt fV;go_upto_region 6 with fail
      (refine zan Mco Mco ?_
       repeat(first|go_big_quiet_skip|(go_big_quiet_want;go_big_quiet_op;first|go_big_quiet_on|(apply Exists.intro;refine⟨fun _=> ?_,?_⟩;(fail);go_big_quiet_on)))
       refine wpQuiet_nil ?_
       rintro _ ⟨zq,rfl⟩)
      have bf:=zb6 bx.o zq;clear xs0 xd0 xr0 s0 s1 s2 s3 s4 s5 s6 d0 d1 d2 d3 d4 d5 d6 r0 r1 r2 r3 r4 r5 r6 rf ls ld lr;clear i3 i4 t0;obtain⟨⟨xs0,xd0,xr0⟩,⟨s0,s1,s2,s3,s4,s5,s6⟩,⟨d0,d1,d2,d3,d4,d5,d6⟩,⟨r0,r1,r2,r3,r4,r5,r6⟩,rf,ls,ld,lr⟩:=ddF (ax.o (wr.ext zq) (bf));have bf:=bf;exact Mg
  ·have ar: ¬(k:Int)<(rd.length:Int):=Mcn;have hx:=HX.o;rw[List.drop_of_length_le Mcn]at hx;have HE:Hid (R=({s with renounce:=rd.map (fun d=>(d.frm,zbf d))++[(d.frm,tn)]},0)):=Md7;clear hx aa hB cw;go_upto_region 8 with fail
   clear ar;obtain⟨WX,kp⟩: ∃WX,WX=wr:=⟨_,rfl⟩
   subst kp;have dU:=bx.o.size;have bs:Hid (rd.length=(dvs).length):=zHi (by rw[<-yN.o,List.length_map]);have tg:Hid ((dvs).length<=1000):=zHi (by rw[<-bs.o];exact HF.o.ren);have cf:=zHi (fun W (hB:Below WX.heap.size WX W)=>qk.o.keep (ak.o.trans ((bx.o.trans (hB.mono dU)).mono aw)));have aG:=zHi (fun(W:World) (h:Below WX.heap.size WX W)=>(show W.cell? ⟨w.heap.size,5,none⟩=some (.slice RA rd.length c5)/\W.cell? ⟨w.heap.size+1,0,none⟩=some (.int .i64 d.kind)/\W.cell? ⟨w.heap.size+1,1,none⟩=some (.int .i64 d.day)/\W.cell? ⟨w.heap.size+1,2,none⟩=some (.string d.place)/\W.cell? ⟨w.heap.size+1,3,none⟩=some (.string d.frm)/\W.cell? ⟨w.heap.size+1,4,none⟩=some (.slice B d.to.length c)/\W.cell? ⟨w.heap.size+1,5,none⟩=some (.int .i64 d.cls)/\W.cell? ⟨w.heap.size+1,6,none⟩=some (.int .i64 d.years) from⟨(zah h ls).trans s5,(zah h ld).trans d0,(zah h ld).trans d1,(zah h ld).trans d2,(zah h ld).trans d3,(zah h ld).trans d4,(zah h ld).trans d5,(zah h ld).trans d6⟩))
   go_cut [5]from 55 to 63 (fun v wc=>v=v/\ ∃V c',wc.heap[w.heap.size]?=some (.cells #[.slice LA laws.length c0, .slice CA s.children.length c1, .slice MA s.marriages.length c2, .slice DA s.dead.length c3, .slice WA wd.length c4, .slice V (rd.length+1) c', .slice GA s.graves.length c6] 36)/\wc.heap[w.heap.size+2]?=some (.cells #[.slice none 0 0, .slice none 0 0, .slice none 0 0, .slice none 0 0, .slice none 0 0, .slice none 0 0, .slice none 0 0] 36)/\Ro wc 52 DV.cells V (dvs++[(⟨d,B,c⟩:DV)])/\Below w.heap.size w wc)
   case first=>
    refine zaC 6 (fun bb w'=>bb=true\/(w'.cell? ⟨w.heap.size,5,none⟩=some (.slice RA rd.length c5)/\w'.cell? ⟨w.heap.size+1,0,none⟩=some (.int .i64 d.kind)/\w'.cell? ⟨w.heap.size+1,1,none⟩=some (.int .i64 d.day)/\w'.cell? ⟨w.heap.size+1,2,none⟩=some (.string d.place)/\w'.cell? ⟨w.heap.size+1,3,none⟩=some (.string d.frm)/\w'.cell? ⟨w.heap.size+1,4,none⟩=some (.slice B d.to.length c)/\w'.cell? ⟨w.heap.size+1,5,none⟩=some (.int .i64 d.cls)/\w'.cell? ⟨w.heap.size+1,6,none⟩=some (.int .i64 d.years))) Mco (.inr (aG.o _ (zaH (Below.refl _ _)))) ?hrest
    case hrest=>
     intro hHeld;clear xs0 xd0 xr0 s0 s1 s2 s3 s4 s5 s6 d0 d1 d2 d3 d4 d5 d6 r0 r1 r2 r3 r4 r5 r6 rf ls ld lr;refine TkM 1 ?_;refine TkM 2 ?_;refine TkM 4 ?_;refine TwM 0 5 (fun K hK=> ?_) fun K hK=> ?_
     ·go_simp
      have e0:Below WX.heap.size WX (WX.drew.alloc (.cells #[] 52)):=zad (zaH (Below.refl _ _)) _;have m0:OwnS (WX.drew.alloc (.cells #[] 52)) WX.heap.size 52 7 DV.cells (.slice (some ⟨WX.heap.size,0,none⟩) 0 0) []:=zdY zb0 WX.drew WX.heap.size (Nat.le_refl _);refine NxM hK (fun hHeld=> ?_) (.inr (aG.o _ e0));clear hK K;refine TwM 3 5 (fun K hK=> ?_) fun K hK=> ?_
      ·refine zak (v:= .slice (some ⟨WX.heap.size,0,none⟩) 0 0) (n:=0) (m:=rd.length) rfl _ _ rfl zeW zb0 zeV rfl (xs:=[]) (ys:=dvs) (m0) rfl rfl bs.o (cf.o _ e0) Mcv McG Mcy ?_;intro v4 w4 h1 h2 h3;rw[List.nil_append]at h1;obtain⟨V4,c4',b8,_,_⟩:=h1.sl zb0;rw[<-bs.o]at b8;subst b8;have aC:Below WX.heap.size WX w4:=Below.grown e0 h2 Mdn (fun j hj=>by simp[zaA]at hj;omega);refine NxM hK (fun hHeld=> ?_) (.inr (aG.o _ aC));clear hK K;refine OnM 5 false fun K hK=> ?_
       go_simp
       have e1:Below WX.heap.size WX (w4.alloc (.cells #[.int .i64 d.kind, .int .i64 d.day, .string d.place, .string d.frm, .slice B d.to.length c, .int .i64 d.cls, .int .i64 d.years] 52)):=zad aC _;have n1:(w4.alloc (.cells #[.int .i64 d.kind, .int .i64 d.day, .string d.place, .string d.frm, .slice B d.to.length c, .int .i64 d.cls, .int .i64 d.years] 52)).heap[w4.heap.size]?=some (.cells #[.int .i64 d.kind, .int .i64 d.day, .string d.place, .string d.frm, .slice B d.to.length c, .int .i64 d.cls, .int .i64 d.years] 52):=zar _ _ _ rfl;have o1:OwnS (w4.alloc (.cells #[.int .i64 d.kind, .int .i64 d.day, .string d.place, .string d.frm, .slice B d.to.length c, .int .i64 d.cls, .int .i64 d.years] 52)) WX.heap.size 52 7 DV.cells (.slice V4 rd.length c4') dvs:=h1.keep (n:=w4.heap.size) (zad (Below.refl _ _) _);refine NxM hK (fun hHeld=> ?_) (.inr (aG.o _ e1));clear hK K;have o9:=o1;have n9:=n1;have e9:=e1;exact Mo
      ·go_simp
       have e1:Below WX.heap.size WX ((WX.drew.alloc (.cells #[] 52)).alloc (.cells #[.int .i64 d.kind, .int .i64 d.day, .string d.place, .string d.frm, .slice B d.to.length c, .int .i64 d.cls, .int .i64 d.years] 52)):=zad e0 _;have n1:((WX.drew.alloc (.cells #[] 52)).alloc (.cells #[.int .i64 d.kind, .int .i64 d.day, .string d.place, .string d.frm, .slice B d.to.length c, .int .i64 d.cls, .int .i64 d.years] 52)).heap[WX.heap.size+1]?=some (.cells #[.int .i64 d.kind, .int .i64 d.day, .string d.place, .string d.frm, .slice B d.to.length c, .int .i64 d.cls, .int .i64 d.years] 52):=zar _ _ _ Mcq;have m1:OwnS ((WX.drew.alloc (.cells #[] 52)).alloc (.cells #[.int .i64 d.kind, .int .i64 d.day, .string d.place, .string d.frm, .slice B d.to.length c, .int .i64 d.cls, .int .i64 d.years] 52)) WX.heap.size 52 7 DV.cells (.slice (some ⟨WX.heap.size,0,none⟩) 0 0) []:=m0.keep (n:=(WX.drew.alloc (.cells #[] 52)).heap.size) (zad (Below.refl _ _) _);refine NxM hK (fun hHeld=> ?_) (.inr (aG.o _ e1));clear hK K;refine OnM 3 false fun K hK=> ?_
       refine zak (v:= .slice (some ⟨WX.heap.size,0,none⟩) 0 0) (n:=0) (m:=rd.length) rfl _ _ rfl zeW zb0 zeV rfl (xs:=[]) (ys:=dvs) (m1) rfl rfl bs.o (cf.o _ e1) Mcv McG Mcu ?_;intro v4 w4 h1 h2 h3;rw[List.nil_append]at h1;obtain⟨V4,c4',b8,_,_⟩:=h1.sl zb0;rw[<-bs.o]at b8;subst b8;have aC:Below WX.heap.size WX w4:=Below.grown e1 h2 McI (fun j hj=>by simp[zaA]at hj;omega);have n2:w4.heap[WX.heap.size+1]?=some (.cells #[.int .i64 d.kind, .int .i64 d.day, .string d.place, .string d.frm, .slice B d.to.length c, .int .i64 d.cls, .int .i64 d.years] 52):=(h2.block _ McE Mdg).trans n1;exact Mb7
     ·go_simp
      have e0:Below WX.heap.size WX (WX.drew.alloc (.cells #[.int .i64 d.kind, .int .i64 d.day, .string d.place, .string d.frm, .slice B d.to.length c, .int .i64 d.cls, .int .i64 d.years] 52)):=zad (zaH (Below.refl _ _)) _;have n0:(WX.drew.alloc (.cells #[.int .i64 d.kind, .int .i64 d.day, .string d.place, .string d.frm, .slice B d.to.length c, .int .i64 d.cls, .int .i64 d.years] 52)).heap[WX.heap.size]?=some (.cells #[.int .i64 d.kind, .int .i64 d.day, .string d.place, .string d.frm, .slice B d.to.length c, .int .i64 d.cls, .int .i64 d.years] 52):=zar _ _ _ rfl;refine NxM hK (fun hHeld=> ?_) (.inr (aG.o _ e0));clear hK K;refine OnM 0 false fun K hK=> ?_
      go_simp
      have e1:Below WX.heap.size WX ((WX.drew.alloc (.cells #[.int .i64 d.kind, .int .i64 d.day, .string d.place, .string d.frm, .slice B d.to.length c, .int .i64 d.cls, .int .i64 d.years] 52)).alloc (.cells #[] 52)):=zad e0 _;have n1:((WX.drew.alloc (.cells #[.int .i64 d.kind, .int .i64 d.day, .string d.place, .string d.frm, .slice B d.to.length c, .int .i64 d.cls, .int .i64 d.years] 52)).alloc (.cells #[] 52)).heap[WX.heap.size]?=some (.cells #[.int .i64 d.kind, .int .i64 d.day, .string d.place, .string d.frm, .slice B d.to.length c, .int .i64 d.cls, .int .i64 d.years] 52):=zal n0;have m1:OwnS ((WX.drew.alloc (.cells #[.int .i64 d.kind, .int .i64 d.day, .string d.place, .string d.frm, .slice B d.to.length c, .int .i64 d.cls, .int .i64 d.years] 52)).alloc (.cells #[] 52)) WX.heap.size 52 7 DV.cells (.slice (some ⟨WX.heap.size+1,0,none⟩) 0 0) []:=by
       exact Mav
      refine NxM hK (fun hHeld=> ?_) (.inr (aG.o _ e1));clear hK K;refine OnM 3 false fun K hK=> ?_
      refine zak (v:= .slice (some ⟨WX.heap.size+1,0,none⟩) 0 0) (n:=0) (m:=rd.length) rfl _ _ rfl zeW zb0 zeV rfl (xs:=[]) (ys:=dvs) (m1) rfl rfl bs.o (cf.o _ e1) Mcv McG Mcu ?_;intro v4 w4 h1 h2 h3;rw[List.nil_append]at h1;obtain⟨V4,c4',b8,_,_⟩:=h1.sl zb0;rw[<-bs.o]at b8;subst b8;have aC:Below WX.heap.size WX w4:=Below.grown e1 h2 McI (fun j hj=>by simp[zaA]at hj;omega);have n2:w4.heap[WX.heap.size]?=some (.cells #[.int .i64 d.kind, .int .i64 d.day, .string d.place, .string d.frm, .slice B d.to.length c, .int .i64 d.cls, .int .i64 d.years] 52):=(h2.block _ McE Mdg).trans n1;exact Mb7
   case rest=>
    obtain⟨_,V,c',eM,cu,eb,ob⟩:=hcut;clear xs0 xd0 xr0 s0 s1 s2 s3 s4 s5 s6 d0 d1 d2 d3 d4 d5 d6 r0 r1 r2 r3 r4 r5 r6 rf ls ld lr;obtain⟨s0,s1,s2,s3,s4,s5,s6⟩:=zaG eM;obtain⟨r0,r1,r2,r3,r4,r5,r6⟩:=zaG cu;have rf:=frz cu;have ls:=zab eM;have lr:=zab cu;go_wp2_with fail
    rw[HE.o];have dh:=zc9 (a0:= .slice LA laws.length c0) (a1:= .slice CA s.children.length c1) (a2:= .slice MA s.marriages.length c2) (a3:= .slice DA s.dead.length c3) (a4:= .slice WA wd.length c4) (a5:= .slice V (rd.length+1) c') (a6:= .slice GA s.graves.length c6) ob (show w.heap.size<=w.heap.size+2 by omega);refine bodyPost_ret (zbB rfl _ rfl rfl (zc0 cu)) rfl ?_;have h':=H.o _ dh;refine⟨_,_,_,_,_,_,_,rfl,rfl,dh,fun _=>⟨wd,rd++[d],LA,CA,MA,DA,WA,V,GA,c0,c1,c2,c3,c4,c',c6,rfl,rfl,rfl,rfl,rfl,by rw[List.length_append];rfl,rfl,⟨h'.laws,h'.kids,h'.marr,h'.dead,h'.wills,?_,h'.graves,h'.deadc⟩,⟨HK.o.wills,HK.o.shares,?_,?_⟩⟩⟩
    ·exact Mag
    ·rw[List.map_append,Iy.o];rfl
    ·intro x hx;rcases List.mem_append.1 hx with hx|hx
     ·exact HK.o.tos x hx
     ·rw[List.mem_singleton.1 hx];intro he;have:=Bl.o;rw[he]at this;cases this
end Go.Proofs.YtjhbofabmpfniaaGreatDoor

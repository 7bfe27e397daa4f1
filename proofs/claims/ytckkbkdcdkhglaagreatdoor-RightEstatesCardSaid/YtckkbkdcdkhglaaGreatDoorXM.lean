/- Walk of the reference's renounce. -/
import Derived.Test.YtckkbkdcdkhglaaGreatDoorXK
set_option linter.unusedSimpArgs false
set_option linter.unusedVariables false
set_option maxRecDepth 100000
set_option maxHeartbeats 4000000
namespace Go.Proofs.YtckkbkdcdkhglaaGreatDoor
open Go.RowKit Go.Shelf
attribute [local go_sem] World.cell?_alloc_mark zag za5 zaq za8 zaw zax zay zaz za0 za1 za2
attribute [local go_sem] zap zad
def zje (l:List (ByteArray×ByteArray)) (n:ByteArray):Nat:=(l.filter fun c=>zae c.2 n).length
theorem zpi {l:List (ByteArray×ByteArray)} {n:ByteArray} {k:Nat} (h:k<l.length):zje (l.take (k+1)) n=zje (l.take k) n+if zae l[k].2 n then 1 else 0:=by
 unfold zje;rw[List.take_add_one,List.getElem?_eq_getElem h,List.filter_append,List.length_append];simp only[Option.toList_some,List.filter_cons,List.filter_nil];cases zae l[k].2 n<;>rfl
theorem chCnt_le (l:List (ByteArray×ByteArray)) (n:ByteArray):zje l n<=l.length:=List.length_filter_le _ _
theorem any_desc {s:St} {ys:List ByteArray} {a b:ByteArray} (h: ∀y,y∈ys↔Relation.TransGen (fun x y=>y∈zdh s.children x) a y):ys.any (zae b)=true↔Desc s a b:=by
 rw[List.any_eq_true];constructor
 ·rintro⟨y,hy,he⟩;rw[zat.1 he];exact(h y).1 hy
 ·intro hd;exact⟨b,(h b).2 hd,zat.2 rfl⟩
theorem zpj (laws:List Law) (s:St) (wd rd:List Deed) (LA CA MA DA WA RA GA:Option Addr) (c0 c1 c2 c3 c4 c5 c6:Nat) (d:Deed) (B:Option Addr) (c:Nat) (w:World) (h:StIn w laws s wd rd LA CA MA DA WA RA GA c0 c1 c2 c3 c4 c5 c6) (hk:StLink s wd rd) (hf:StFew s wd rd) (hd:OkD d) (hS:Sl w 3 RPart.cells B d.to) (cf:d.kind=6):Calls Tryz.prog 138 #[.agg #[.slice LA laws.length c0, .slice CA s.children.length c1, .slice MA s.marriages.length c2, .slice DA s.dead.length c3, .slice WA wd.length c4, .slice RA rd.length c5, .slice GA s.graves.length c6],d.v B c] w (zfH w laws (zcD s d)):=by
 obtain⟨R,hR⟩: ∃R,R=zcD s d:=⟨_,rfl⟩
 rw[<-hR];have aR:=(hd.one (.inr (.inl cf))).1;have ta:=zHi (fun W (hS:Sl W 3 RPart.cells B d.to)=>znu aR hS);have nL:(0:Int)<(d.to.length:Int):=Mcl;unfold zcD at hR;generalize zbh d=tn at*;clear cf aR;have H:=zHi (fun W (hB:Below w.heap.size w W)=>h.keep hB);have HK:=zHi hk;have HF:=zHi hf;have HD:=zHi hd;have HS:=zHi (fun W (hB:Below w.heap.size w W)=>hS.keep hB);have HR:=zHi hR;unfold Deed.v;clear h hk hf hd hS hR;go_enter Tryz.func138,Tryz.ntmps138
 go_upto_region 1 with fail
 generalize ao:World.alloc (World.alloc (World.alloc w _) _) _=W0;obtain⟨ak,ax⟩:=zeK ao;clear ao;have aw:=ak.o.size;obtain⟨⟨xs0,xd0,xr0⟩,⟨s0,s1,s2,s3,s4,s5,s6⟩,⟨d0,d1,d2,d3,d4,d5,d6⟩,⟨r0,r1,r2,r3,r4,r5,r6⟩,rf,ls,ld,lr⟩:=ddF (ax.o W0 (Below.refl _ _));obtain⟨b,off,hA,hb,kU⟩:=ta.o W0 (HS.o W0 ak.o);have hr:=HR.o;have jV:=zHi (sKids d.frm W0 (H.o W0 ak.o) HF.o);have bV:=HF.o.kids;have bo:(zai s d.frm).length<=1000:=by
  unfold zai;rw[List.length_map];exact Nat.le_trans (List.length_filter_le _ _) bV
 generalize zai s d.frm=ks at*;rw[hA]at d4;go_upto_region 2 with fail
 cases cd:ks.any (zae tn);rotate_left 1
 ·have HE:Hid (R=(s,5)):=Md5;clear hr
  go_upto_region 3 with(first
   |(go_at_call 81
     go_must(refine(jV.o).mono ?_)
     rintro e w2 ⟨v2,rfl,o2,b2⟩;obtain⟨KA,kc,rfl,iS,fN⟩:=o2.sl zaB;have ii:=zHi iS
     clear o2 iS)
   |(go_at_call 34;go_must(refine(zd0 ks tn KA kc _ Mcl fN ii.o).mono ?_);rintro e wq ⟨rfl,rfl⟩;rw[cd]))
  have bs:=b2;exact MbO
 rw[cd,if_neg Mco]at hr
 go_upto_region 6 with(first
  |(go_at_call 81
    go_must(refine(jV.o).mono ?_)
    rintro e w2 ⟨v2,rfl,o2,b2⟩;obtain⟨KA,kc,rfl,iS,fN⟩:=o2.sl zaB;have ii:=zHi iS;obtain⟨_,_,xr2⟩:=ax.o w2 b2
    clear o2 iS)
  |(go_at_call 34;go_must(refine(zd0 ks tn KA kc _ Mcl fN ii.o).mono ?_);rintro e wq ⟨rfl,rfl⟩;rw[cd]))
 have kR:=b2.size;have aS:=zHi b2;clear fN ii b2 cd kU bo xr2;clear xs0 xd0 xr0 s0 s1 s2 s3 s4 s5 s6 d0 d1 d2 d3 d4 d5 d6 r0 r1 r2 r3 r4 r5 r6 rf ls ld lr;obtain⟨⟨xs0,xd0,xr0⟩,⟨s0,s1,s2,s3,s4,s5,s6⟩,⟨d0,d1,d2,d3,d4,d5,d6⟩,⟨r0,r1,r2,r3,r4,r5,r6⟩,rf,ls,ld,lr⟩:=ddF (ax.o w2 (aS.o));have Ht:=zHi (H.o w2 (ak.o.trans (aS.o.mono aw))).kids;go_loopw [7,8] (fun n i wr=> ∃k:Nat,k<=s.children.length/\i= .int .i64 k/\n= .int .i64 (zje (s.children.take k) tn)/\w2=wr) (fun _ i _=>s.children.length-(intOf i).toNat)
 case atStart=>exact⟨0,Nat.zero_le _,rfl,rfl,rfl⟩
 case round=>
  obtain⟨k,hk,rfl,rfl,rfl⟩:=hrel;have wI:=chCnt_le (s.children.take k) tn;rw[List.length_take]at wI;have Cv:zje (s.children.take k) tn<=1000:=Mcl;by_cases aa:k<s.children.length
  ·have bW:=zpi (n:=tn) aa;generalize zje (s.children.take k) tn=m at*;obtain⟨cb,co,lZ,kU,ah⟩:=Ht.o.at aa;have aq:=zHi aa;generalize s.children[k]=y at*;obtain⟨y1,y2⟩:=y;simp only at bW;have i1:w2.cell? ⟨cb,co+k*2+1,none⟩=some (.string y2):=ah 1 _ rfl;have ar:(k:Int)<(s.children.length:Int):=Mcl;have aT:(0:Int)<=(k:Int):=Mcl;rw[lZ]at s1;clear ah aa;cases hs:zae y2 tn
   ·have br:(y2.toList==tn.toList)=false:=hs;have eu:Hid (zje (s.children.take (k+1)) tn=m):=by show _=_;rw[bW,hs];rfl
    clear bW hs;go_wp2_with fail
    go_round
    case rel=>exact⟨k+1,aq.o,by go_num,by rw[eu.o],by first|exact True.intro|rfl⟩
    case measure=>have:=aq.o;simp only[intOf];omega
   ·have br:(y2.toList==tn.toList)=true:=hs;have eu:Hid (zje (s.children.take (k+1)) tn=m+1):=by show _=_;rw[bW,hs];rfl
    clear bW hs;go_wp2_with fail
    go_round
    case rel=>exact⟨k+1,aq.o,by go_num,by rw[eu.o];go_num,by first|exact True.intro|rfl⟩
    case measure=>have:=aq.o;simp only[intOf];omega
  ·have ar: ¬(k:Int)<(s.children.length:Int):=Mcl;rw[List.take_of_length_le Mcl]at*;have oL:(zbQ s tn).length=zje s.children tn:=List.length_map _;rw[oL]at hr;clear oL wI aa;generalize zje s.children tn=m at*;by_cases hs:(2:Int)<=(m:Int)
   ·have HE:Hid (R=(s,16)):=by show _=_;rw[hr,if_pos (by simpa using(show 2<=m by omega))]
    clear hr;go_upto_region 11 with fail
    have bs:=aS.o;exact Mg
   rw[if_neg (by simpa using(show¬2<=m by omega))]at hr;have bx:=zHi hr;clear hr;go_upto_region 12 with fail
   clear hs Cv ar;have bY:=zHi (fun(W:World) (h:Below w2.heap.size w2 W)=>(show W.cell? ⟨w.heap.size,0,none⟩=some (.slice LA laws.length c0)/\W.cell? ⟨w.heap.size,1,none⟩=some (.slice CA s.children.length c1)/\W.cell? ⟨w.heap.size,2,none⟩=some (.slice MA s.marriages.length c2)/\W.cell? ⟨w.heap.size,3,none⟩=some (.slice DA s.dead.length c3)/\W.cell? ⟨w.heap.size,4,none⟩=some (.slice WA wd.length c4)/\W.cell? ⟨w.heap.size,5,none⟩=some (.slice RA rd.length c5)/\W.cell? ⟨w.heap.size,6,none⟩=some (.slice GA s.graves.length c6)/\W.cell? ⟨w.heap.size+1,3,none⟩=some (.string d.frm) from⟨(zah h ls).trans s0,(zah h ls).trans s1,(zah h ls).trans s2,(zah h ls).trans s3,(zah h ls).trans s4,(zah h ls).trans s5,(zah h ls).trans s6,(zah h ld).trans d3⟩));clear xs0 xd0 xr0 s0 s1 s2 s3 s4 s5 s6 d0 d1 d2 d3 d4 d5 d6 r0 r1 r2 r3 r4 r5 r6 rf ls ld lr;have g9:=zHi (fun W (hB:Below w2.heap.size w2 W)=>sDesc tn W (H.o W (ak.o.trans ((aS.o.trans (hB.mono kR)).mono aw))) HF.o);unfold DescR at g9
   refine zaC 5 (fun bb w'=>bb=true\/(w'.cell? ⟨w.heap.size,0,none⟩=some (.slice LA laws.length c0)/\w'.cell? ⟨w.heap.size,1,none⟩=some (.slice CA s.children.length c1)/\w'.cell? ⟨w.heap.size,2,none⟩=some (.slice MA s.marriages.length c2)/\w'.cell? ⟨w.heap.size,3,none⟩=some (.slice DA s.dead.length c3)/\w'.cell? ⟨w.heap.size,4,none⟩=some (.slice WA wd.length c4)/\w'.cell? ⟨w.heap.size,5,none⟩=some (.slice RA rd.length c5)/\w'.cell? ⟨w.heap.size,6,none⟩=some (.slice GA s.graves.length c6)/\w'.cell? ⟨w.heap.size+1,3,none⟩=some (.string d.frm))) Mcm (.inr (bY.o _ (zaM (Below.refl _ _)))) ?hrest
   case hrest=>
    intro hHeld;refine TkM 0 ?_;refine TkM 1 ?_;refine TkM 3 ?_;refine TkM 4 ?_;refine OnM 2 false fun K hK=> ?_
    go_simp
    refine(g9.o _ (zaM (Below.refl _ _))).mono ?_;rintro e w4 ⟨v4,ys,rfl,o4,bI,_,yB,b4⟩;obtain⟨YA,yc,rfl,oU,ui⟩:=o4.sl zaB;have aD:Below w2.heap.size w2 w4:=(zaM (Below.refl _ _)).trans b4;have qO:=zHi oU;have Ak:=zHi (any_desc (s:=s) (b:=d.frm) bI);refine NxM hK (fun hHeld=> ?_) (.inr (bY.o _ aD));clear hK K;refine OnM 5 true fun K hK=> ?_
    go_simp
    refine(zd0 ys d.frm YA yc _ Mcl ui qO.o).mono ?_;rintro e wq ⟨rfl,rfl⟩;refine NxM hK fun hHeld=> ?_
    clear hK K;refine zaQ Mcm ?_ _;clear hHeld o4 bI oU yB b4 ui g9 bY;have Es:=aD.size;have bA:=zHi (aS.o.trans (aD.mono kR));obtain⟨⟨xs0,xd0,xr0⟩,⟨s0,s1,s2,s3,s4,s5,s6⟩,⟨d0,d1,d2,d3,d4,d5,d6⟩,⟨r0,r1,r2,r3,r4,r5,r6⟩,rf,ls,ld,lr⟩:=ddF (ax.o w4 (bA.o));by_cases jr:Desc s tn d.frm
    ·have HE:Hid (R=(s,25)):=by show _=_;rw[bx.o,if_pos (by simpa using jr)]
     have dY:ys.any (zae d.frm)=true:=Ak.o.2 jr;rw[dY];go_upto_region 13 with fail
     have bs:=bA.o;exact Mg
    have HE:Hid (R=({s with children:=s.children++[(d.frm,tn)]},0)):=by show _=_;rw[bx.o,if_neg (by simpa using jr)]
    have dY:ys.any (zae d.frm)=false:=by
     rw[Bool.eq_false_iff];exact fun h=>jr (Ak.o.1 h)
    rw[dY];clear jr dY Ak bx;go_upto_region 14 with fail
    obtain⟨WX,kg⟩: ∃WX,WX=w4:=⟨_,rfl⟩
    subst kg;have dQ:=bA.o.size;have bu:Hid (s.children.length=(s.children).length):=zHi rfl;have tg:Hid ((s.children).length<=1000):=zHi HF.o.kids;have bZ:=zHi (fun W (hB:Below WX.heap.size WX W)=>(H.o W (ak.o.trans ((bA.o.trans (hB.mono dQ)).mono aw))).kids);have aL:=zHi (fun(W:World) (h:Below WX.heap.size WX W)=>(show W.cell? ⟨w.heap.size,1,none⟩=some (.slice CA s.children.length c1)/\W.cell? ⟨w.heap.size+1,3,none⟩=some (.string d.frm) from⟨(zah h ls).trans s1,(zah h ld).trans d3⟩));go_cut [5]from 48 to 59 (fun v wc=>v= .int .i64 0/\ ∃V c',wc.heap[w.heap.size]?=some (.cells #[.slice LA laws.length c0, .slice V (s.children.length+1) c', .slice MA s.marriages.length c2, .slice DA s.dead.length c3, .slice WA wd.length c4, .slice RA rd.length c5, .slice GA s.graves.length c6] 40)/\wc.heap[w.heap.size+2]?=some (.cells #[.slice none 0 0, .slice none 0 0, .slice none 0 0, .slice none 0 0, .slice none 0 0, .slice none 0 0, .slice none 0 0] 40)/\Ro wc 136 zaT V (s.children++[(d.frm,tn)])/\Below w.heap.size w wc)
    case first=>
     refine zaC 9 (fun bb w'=>bb=true\/(w'.cell? ⟨w.heap.size,1,none⟩=some (.slice CA s.children.length c1)/\w'.cell? ⟨w.heap.size+1,3,none⟩=some (.string d.frm))) Mcm (.inr (aL.o _ (zaM (Below.refl _ _)))) ?hrest
     case hrest=>
      intro hHeld;clear xs0 xd0 xr0 s0 s1 s2 s3 s4 s5 s6 d0 d1 d2 d3 d4 d5 d6 r0 r1 r2 r3 r4 r5 r6 rf ls ld lr;refine TkM 1 ?_;refine TkM 2 ?_;refine TkM 4 ?_;refine TkM 5 ?_;refine TkM 6 ?_;refine TkM 7 ?_;refine TwM 0 8 (fun K hK=> ?_) fun K hK=> ?_
      ·go_simp
       have e0:Below WX.heap.size WX (WX.drew.alloc (.cells #[] 136)):=zac (zaM (Below.refl _ _)) _;have m0:OwnS (WX.drew.alloc (.cells #[] 136)) WX.heap.size 136 2 zaT (.slice (some ⟨WX.heap.size,0,none⟩) 0 0) []:=zdT zbk WX.drew WX.heap.size (Nat.le_refl _);refine NxM hK (fun hHeld=> ?_) (.inr (aL.o _ e0));clear hK K;refine TwM 3 8 (fun K hK=> ?_) fun K hK=> ?_
       ·refine zal (v:= .slice (some ⟨WX.heap.size,0,none⟩) 0 0) (n:=0) (m:=s.children.length) rfl _ _ rfl zgo zbk zdB rfl (xs:=[]) (ys:=s.children) (m0) rfl rfl bu.o (bZ.o _ e0) Mct McE Mcw ?_;intro v4 w4 h1 h2 h3;rw[List.nil_append]at h1;obtain⟨V4,c4',b8,_,_⟩:=h1.sl zbk;rw[<-bu.o]at b8;subst b8;have aD:Below WX.heap.size WX w4:=Below.grown e0 h2 Mdl (fun j hj=>by simp[za7]at hj;omega);refine NxM hK (fun hHeld=> ?_) (.inr (aL.o _ aD));clear hK K;refine OnM 8 false fun K hK=> ?_
        go_simp
        have e1:Below WX.heap.size WX (w4.alloc (.cells #[.string d.frm, .string tn] 136)):=zac aD _;have n1:(w4.alloc (.cells #[.string d.frm, .string tn] 136)).heap[w4.heap.size]?=some (.cells #[.string d.frm, .string tn] 136):=zar _ _ _ rfl;have o1:OwnS (w4.alloc (.cells #[.string d.frm, .string tn] 136)) WX.heap.size 136 2 zaT (.slice V4 s.children.length c4') s.children:=h1.keep (n:=w4.heap.size) (zac (Below.refl _ _) _);refine NxM hK (fun hHeld=> ?_) (.inr (aL.o _ e1));clear hK K;have o9:=o1;have n9:=n1;have e9:=e1;exact Mn
       ·go_simp
        have e1:Below WX.heap.size WX ((WX.drew.alloc (.cells #[] 136)).alloc (.cells #[.string d.frm, .string tn] 136)):=zac e0 _;have n1:((WX.drew.alloc (.cells #[] 136)).alloc (.cells #[.string d.frm, .string tn] 136)).heap[WX.heap.size+1]?=some (.cells #[.string d.frm, .string tn] 136):=zar _ _ _ Mco;have m1:OwnS ((WX.drew.alloc (.cells #[] 136)).alloc (.cells #[.string d.frm, .string tn] 136)) WX.heap.size 136 2 zaT (.slice (some ⟨WX.heap.size,0,none⟩) 0 0) []:=m0.keep (n:=(WX.drew.alloc (.cells #[] 136)).heap.size) (zac (Below.refl _ _) _);refine NxM hK (fun hHeld=> ?_) (.inr (aL.o _ e1));clear hK K;refine OnM 3 false fun K hK=> ?_
        refine zal (v:= .slice (some ⟨WX.heap.size,0,none⟩) 0 0) (n:=0) (m:=s.children.length) rfl _ _ rfl zgo zbk zdB rfl (xs:=[]) (ys:=s.children) (m1) rfl rfl bu.o (bZ.o _ e1) Mct McE Mcs ?_;intro v4 w4 h1 h2 h3;rw[List.nil_append]at h1;obtain⟨V4,c4',b8,_,_⟩:=h1.sl zbk;rw[<-bu.o]at b8;subst b8;have aD:Below WX.heap.size WX w4:=Below.grown e1 h2 McG (fun j hj=>by simp[za7]at hj;omega);have n2:w4.heap[WX.heap.size+1]?=some (.cells #[.string d.frm, .string tn] 136):=(h2.block _ McC Mdd).trans n1;exact Mb4
      ·go_simp
       have e0:Below WX.heap.size WX (WX.drew.alloc (.cells #[.string d.frm, .string tn] 136)):=zac (zaM (Below.refl _ _)) _;have n0:(WX.drew.alloc (.cells #[.string d.frm, .string tn] 136)).heap[WX.heap.size]?=some (.cells #[.string d.frm, .string tn] 136):=zar _ _ _ rfl;refine NxM hK (fun hHeld=> ?_) (.inr (aL.o _ e0));clear hK K;refine OnM 0 false fun K hK=> ?_
       go_simp
       have e1:Below WX.heap.size WX ((WX.drew.alloc (.cells #[.string d.frm, .string tn] 136)).alloc (.cells #[] 136)):=zac e0 _;have n1:((WX.drew.alloc (.cells #[.string d.frm, .string tn] 136)).alloc (.cells #[] 136)).heap[WX.heap.size]?=some (.cells #[.string d.frm, .string tn] 136):=zak n0;have m1:OwnS ((WX.drew.alloc (.cells #[.string d.frm, .string tn] 136)).alloc (.cells #[] 136)) WX.heap.size 136 2 zaT (.slice (some ⟨WX.heap.size+1,0,none⟩) 0 0) []:=by
        exact Mbb
       refine NxM hK (fun hHeld=> ?_) (.inr (aL.o _ e1));clear hK K;refine OnM 3 false fun K hK=> ?_
       refine zal (v:= .slice (some ⟨WX.heap.size+1,0,none⟩) 0 0) (n:=0) (m:=s.children.length) rfl _ _ rfl zgo zbk zdB rfl (xs:=[]) (ys:=s.children) (m1) rfl rfl bu.o (bZ.o _ e1) Mct McE Mcs ?_;intro v4 w4 h1 h2 h3;rw[List.nil_append]at h1;obtain⟨V4,c4',b8,_,_⟩:=h1.sl zbk;rw[<-bu.o]at b8;subst b8;have aD:Below WX.heap.size WX w4:=Below.grown e1 h2 McG (fun j hj=>by simp[za7]at hj;omega);have n2:w4.heap[WX.heap.size]?=some (.cells #[.string d.frm, .string tn] 136):=(h2.block _ McC Mdd).trans n1;exact Mb4
    case rest=>
     obtain⟨rfl,V,c',eQ,cv,ee,oe⟩:=hcut;clear xs0 xd0 xr0 s0 s1 s2 s3 s4 s5 s6 d0 d1 d2 d3 d4 d5 d6 r0 r1 r2 r3 r4 r5 r6 rf ls ld lr;obtain⟨s0,s1,s2,s3,s4,s5,s6⟩:=zaG eQ;obtain⟨r0,r1,r2,r3,r4,r5,r6⟩:=zaG cv;have rf:=frz cv;have ls:=zab eQ;have lr:=zab cv;go_wp2_with fail
     rw[HE.o];have dq:=zc9 (a0:= .slice LA laws.length c0) (a1:= .slice V (s.children.length+1) c') (a2:= .slice MA s.marriages.length c2) (a3:= .slice DA s.dead.length c3) (a4:= .slice WA wd.length c4) (a5:= .slice RA rd.length c5) (a6:= .slice GA s.graves.length c6) oe (show w.heap.size<=w.heap.size+2 by omega);refine bodyPost_ret (zbA rfl _ rfl rfl (zc0 cv)) rfl ?_;have h':=H.o _ dq;exact⟨_,_,_,_,_,_,_,rfl,rfl,dq,fun _=>⟨wd,rd,LA,V,MA,DA,WA,RA,GA,c0,c',c2,c3,c4,c5,c6,rfl,by rw[List.length_append];rfl,rfl,rfl,rfl,rfl,rfl,⟨h'.laws,(zjd ee cv Mcn).sl zbk,h'.marr,h'.dead,h'.wills,h'.ren,h'.graves,h'.deadc⟩,⟨HK.o.wills,HK.o.shares,HK.o.ren,HK.o.tos⟩⟩⟩
theorem sl_deed {W:World} {b:Nat} {t:TypeId} {fr:Nat×Nat} (d:Deed) (B:Option Addr) (c:Nat) (h:W.heap[b]?=some (.cells #[.int .i64 d.kind, .int .i64 d.day, .string d.place, .string d.frm, .slice B d.to.length c, .int .i64 d.cls, .int .i64 d.years] t fr)):Sl W 7 DV.cells (some ⟨b,0,none⟩) [⟨d,B,c⟩]:=
 zi8 zcj h (by simp[DV.cells])
theorem zkS (laws:List Law) (s:St) (wd rd:List Deed) (LA CA MA DA WA RA GA:Option Addr) (c0 c1 c2 c3 c4 c5 c6:Nat) (d:Deed) (B:Option Addr) (c:Nat) (w:World) (h:StIn w laws s wd rd LA CA MA DA WA RA GA c0 c1 c2 c3 c4 c5 c6) (hk:StLink s wd rd) (hf:StFew s wd rd) (hd:OkD d) (hS:Sl w 3 RPart.cells B d.to) (cf:d.kind=5) (ay:d.to.length<=c):Calls Tryz.prog 137 #[.agg #[.slice LA laws.length c0, .slice CA s.children.length c1, .slice MA s.marriages.length c2, .slice DA s.dead.length c3, .slice WA wd.length c4, .slice RA rd.length c5, .slice GA s.graves.length c6],d.v B c] w (zfH w laws (zb7 s d)):=by
 obtain⟨R,hR⟩: ∃R,R=zb7 s d:=⟨_,rfl⟩
 rw[<-hR];have aR:=(hd.one (.inl cf)).1;have AY:=zHi aR;have ta:=zHi (fun W (hS:Sl W 3 RPart.cells B d.to)=>znu aR hS);have nL:(0:Int)<(d.to.length:Int):=Mcl;have KF:0<d.to.length:=Mcl;unfold zb7 at hR;rw[hk.ren,List.any_map]at hR;change R=(if(zaH s d.frm||zaH s (zbh d))=true then(s,28)else if rd.any (renT d.frm (zbh d))=true then(s,5)else({s with renounce:=rd.map (fun d=>(d.frm,zbh d))++[(d.frm,zbh d)]},0))at hR;obtain⟨tn,fS⟩: ∃tn,tn=zbh d:=⟨_,rfl⟩
 rw[<-fS]at hR ta;have Im:=zHi fS;have lA:=zHi ay;obtain⟨dvs,wO,wP,rR⟩:=dv_of h.ren;have yM:=zHi wO;have sP:=zHi wP;have qe:=zHi rR;clear cf aR fS wO wP rR ay;have H:=zHi (fun W (hB:Below w.heap.size w W)=>h.keep hB);have HK:=zHi hk;have HF:=zHi hf;have HD:=zHi hd;have HS:=zHi (fun W (hB:Below w.heap.size w W)=>hS.keep hB);have HR:=zHi hR;unfold Deed.v;clear h hk hf hd hS hR;go_enter Tryz.func137,Tryz.ntmps137
 go_upto_region 1 with fail
 generalize ao:World.alloc (World.alloc (World.alloc w _) _) _=W0;obtain⟨ak,ax⟩:=zeK ao;clear ao;have aw:=ak.o.size;obtain⟨⟨xs0,xd0,xr0⟩,⟨s0,s1,s2,s3,s4,s5,s6⟩,⟨d0,d1,d2,d3,d4,d5,d6⟩,⟨r0,r1,r2,r3,r4,r5,r6⟩,rf,ls,ld,lr⟩:=ddF (ax.o W0 (Below.refl _ _));have sO:=zHi (fun x W (hB:Below W0.heap.size W0 W)=>sDead x W (H.o W (ak.o.trans (hB.mono aw))) HF.o);obtain⟨b,off,hA,hb,kU⟩:=ta.o W0 (HS.o W0 ak.o);have hr:=HR.o;rw[hA]at d4;go_upto_region 1 with fail
 have gn:=zHi (fun x b (hx:zaH s x=b) W (hB:Below W0.heap.size W0 W)=>(hx▸sO.o x W hB:Calls Tryz.prog 17 #[.agg #[.slice LA laws.length c0, .slice CA s.children.length c1, .slice MA s.marriages.length c2, .slice DA s.dead.length c3, .slice WA wd.length c4, .slice RA rd.length c5, .slice GA s.graves.length c6], .string x] W (Ret W (.bool b))));clear sO;cases cd:zaH s d.frm;rotate_left 1
 ·have HE:Hid (R=(s,28)):=Md5;clear hr
  (refine zaj Mcm Mcm ?_
   repeat(first|go_big_quiet_skip|(go_big_quiet_want;go_big_quiet_op;first|go_big_quiet_on|(apply Exists.intro;refine⟨fun _=> ?_,?_⟩;((go_at_call 17;exact quietx (gn.o _ _ cd _ Bw)));go_big_quiet_on)))
   refine wpQuiet_nil ?_
   rintro _ ⟨zq,rfl⟩)
  have bs:=zam W0 zq;exact MbO
 cases dY:zaH s tn;rotate_left 1
 ·have HE:Hid (R=(s,28)):=by show _=_;rw[hr,cd,dY];rfl
  clear hr
  (refine zaj Mcm Mcm ?_
   repeat(first|go_big_quiet_skip|(go_big_quiet_want;go_big_quiet_op;first|go_big_quiet_on|(apply Exists.intro;refine⟨fun _=> ?_,?_⟩;((go_at_call 17;exact quietx (gn.o _ _ (by first|exact cd|exact dY) _ Bw)));go_big_quiet_on)))
   refine wpQuiet_nil ?_
   rintro _ ⟨zq,rfl⟩)
  have bs:=zam W0 zq;exact MbO
 rw[cd,dY,Bool.or_false,if_neg Mco]at hr;have bx:Hid (R=if(rd.drop 0).any (renT d.frm tn)=true then(s,5)else({s with renounce:=rd.map (fun d=>(d.frm,zbh d))++[(d.frm,tn)]},0)):=zHi hr;clear hr
 (refine zaj Mcm Mcm ?_
  repeat(first|go_big_quiet_skip|(go_big_quiet_want;go_big_quiet_op;first|go_big_quiet_on|(apply Exists.intro;refine⟨fun _=> ?_,?_⟩;((go_at_call 17;exact quietx (gn.o _ _ (by first|exact cd|exact dY) _ Bw)));go_big_quiet_on)))
  refine wpQuiet_nil ?_
  rintro _ ⟨zq,rfl⟩)
 obtain⟨W1,aV⟩: ∃W1,W1=W0.ext zq:=⟨_,rfl⟩
 have aZ:Below W0.heap.size W0 W1:=Mdi;rw[<-aV];have im:=aZ.size;have aG:=zHi aZ;have sM:=zHi (show b<W0.heap.size/\W0.cell? ⟨b,off,none⟩=some (.string tn) from⟨hb,kU⟩);have Ai:=zHi hA;clear aV aZ hb kU cd dY hA;clear xs0 xd0 xr0 s0 s1 s2 s3 s4 s5 s6 d0 d1 d2 d3 d4 d5 d6 r0 r1 r2 r3 r4 r5 r6 rf ls ld lr;go_upto_region 4 with fail
 go_loopw [6] (fun i wr=> ∃k:Nat,k<=rd.length/\i= .int .i64 k/\Hid (R=if(rd.drop k).any (renT d.frm tn)=true then(s,5)else({s with renounce:=rd.map (fun d=>(d.frm,zbh d))++[(d.frm,tn)]},0))/\Below W1.heap.size W1 wr) (fun i _=>rd.length-(intOf i).toNat)
 case atStart=>exact⟨0,Nat.zero_le _,rfl,bx,Below.refl _ _⟩
 case round=>
  obtain⟨k,hk,rfl,HX,hB⟩:=hrel;have aK:=hB.size;have cy:=aG.o.trans (hB.mono im);have Ky:=HF.o.ren;obtain⟨⟨xs0,xd0,xr0⟩,⟨s0,s1,s2,s3,s4,s5,s6⟩,⟨d0,d1,d2,d3,d4,d5,d6⟩,⟨r0,r1,r2,r3,r4,r5,r6⟩,rf,ls,ld,lr⟩:=ddF (ax.o wr (cy));have bA:=zHi cy;have HB:=zHi hB;have uc:W0.heap.size<=wr.heap.size:=cy.size;by_cases aa:k<rd.length
  ·obtain⟨gb,go,cs,kf,cL,dt,ah⟩:=(H.o wr (ak.o.trans (cy.mono aw))).ren.at aa;have hx:=HX.o;rw[List.drop_eq_getElem_cons aa,List.any_cons]at hx;have ai:=HK.o.tos _ (List.getElem_mem aa);have au:=zHi hx;have aq:=zHi aa;generalize rd[k]=x at*;obtain⟨XB,xc,uf,rfl,hP⟩:=dt;obtain⟨kd,dy,pl,fr,ts,cl,yr⟩:=x;simp only at ai uf hP ah;cases ts with
   |nil=>exact absurd rfl ai
   |cons p ts=>
    obtain⟨tb,tof,zI,Gi,ub⟩:=hP.at (k:=0) (Nat.succ_pos _);obtain⟨pn,pu,pd⟩:=p;have t0:wr.cell? ⟨tb,tof,none⟩=some (.string pn):=MdD;have yo:zbh ⟨kd,dy,pl,fr,⟨pn,pu,pd⟩::ts,cl,yr⟩=pn:=rfl;have i3:=ah 3 _ rfl;have i4:=ah 4 _ rfl;have ar:(k:Int)<(rd.length:Int):=Mcl;have aT:(0:Int)<=(k:Int):=Mcl;generalize eO:(⟨pn,pu,pd⟩::ts:List RPart).length=ln at*;have jw:(0:Int)<(ln:Int):=by rw[<-eO];simp
    have CW:0<ln:=Mcl;rw[Ai.o]at d4;rw[kf]at s5;rw[zI]at i4;have kU:wr.cell? ⟨b,off,none⟩=some (.string tn):=(zah cy sM.o.1).trans sM.o.2;have hb:b<wr.heap.size:=by have:=sM.o.1;omega
    clear ah aa hx ai hP ub eO uf hB cy;cases eh:zae fr d.frm
    ·have br:(fr.toList==d.frm.toList)=false:=eh;have HE:Hid (R=if(rd.drop (k+1)).any (renT d.frm tn)=true then(s,5)else({s with renounce:=rd.map (fun d=>(d.frm,zbh d))++[(d.frm,tn)]},0)):=by show _=_;rw[au.o];simp[renT,eh]
     clear eh;exact MP
    ·have br:(fr.toList==d.frm.toList)=true:=eh;cases iI:zae pn tn
     ·have Dn:(pn.toList==tn.toList)=false:=iI;have HE:Hid (R=if(rd.drop (k+1)).any (renT d.frm tn)=true then(s,5)else({s with renounce:=rd.map (fun d=>(d.frm,zbh d))++[(d.frm,tn)]},0)):=by show _=_;rw[au.o];simp[renT,yo,iI]
      clear eh iI;exact MP
     ·have Dn:(pn.toList==tn.toList)=true:=iI;have HE:Hid (R=(s,5)):=by show _=_;rw[au.o];simp[renT,yo,eh,iI]
      clear eh iI;go_upto_region 6 with fail
      (refine zaj Mcm Mcm ?_
       repeat(first|go_big_quiet_skip|(go_big_quiet_want;go_big_quiet_op;first|go_big_quiet_on|(apply Exists.intro;refine⟨fun _=> ?_,?_⟩;(fail);go_big_quiet_on)))
       refine wpQuiet_nil ?_
       rintro _ ⟨zq,rfl⟩)
      have bs:=zbc bA.o zq;clear xs0 xd0 xr0 s0 s1 s2 s3 s4 s5 s6 d0 d1 d2 d3 d4 d5 d6 r0 r1 r2 r3 r4 r5 r6 rf ls ld lr;clear i3 i4 t0;obtain⟨⟨xs0,xd0,xr0⟩,⟨s0,s1,s2,s3,s4,s5,s6⟩,⟨d0,d1,d2,d3,d4,d5,d6⟩,⟨r0,r1,r2,r3,r4,r5,r6⟩,rf,ls,ld,lr⟩:=ddF (ax.o (wr.ext zq) (bs));have bs:=bs;exact Mg
  ·have ar: ¬(k:Int)<(rd.length:Int):=Mcl;have hx:=HX.o;rw[List.drop_of_length_le Mcl]at hx;have HE:Hid (R=({s with renounce:=rd.map (fun d=>(d.frm,zbh d))++[(d.frm,tn)]},0)):=Md0;clear hx aa hB cy;go_upto_region 8 with fail
   clear ar;obtain⟨WX,kg⟩: ∃WX,WX=wr:=⟨_,rfl⟩
   subst kg;have dQ:=bA.o.size;have bu:Hid (rd.length=(dvs).length):=zHi (by rw[<-yM.o,List.length_map]);have tg:Hid ((dvs).length<=1000):=zHi (by rw[<-bu.o];exact HF.o.ren);have bZ:=zHi (fun W (hB:Below WX.heap.size WX W)=>qe.o.keep (ak.o.trans ((bA.o.trans (hB.mono dQ)).mono aw)));have aL:=zHi (fun(W:World) (h:Below WX.heap.size WX W)=>(show W.cell? ⟨w.heap.size,5,none⟩=some (.slice RA rd.length c5)/\W.cell? ⟨w.heap.size+1,0,none⟩=some (.int .i64 d.kind)/\W.cell? ⟨w.heap.size+1,1,none⟩=some (.int .i64 d.day)/\W.cell? ⟨w.heap.size+1,2,none⟩=some (.string d.place)/\W.cell? ⟨w.heap.size+1,3,none⟩=some (.string d.frm)/\W.cell? ⟨w.heap.size+1,4,none⟩=some (.slice B d.to.length c)/\W.cell? ⟨w.heap.size+1,5,none⟩=some (.int .i64 d.cls)/\W.cell? ⟨w.heap.size+1,6,none⟩=some (.int .i64 d.years) from⟨(zah h ls).trans s5,(zah h ld).trans d0,(zah h ld).trans d1,(zah h ld).trans d2,(zah h ld).trans d3,(zah h ld).trans d4,(zah h ld).trans d5,(zah h ld).trans d6⟩))
   go_cut [5]from 55 to 63 (fun v wc=>v=v/\ ∃V c',wc.heap[w.heap.size]?=some (.cells #[.slice LA laws.length c0, .slice CA s.children.length c1, .slice MA s.marriages.length c2, .slice DA s.dead.length c3, .slice WA wd.length c4, .slice V (rd.length+1) c', .slice GA s.graves.length c6] 40)/\wc.heap[w.heap.size+2]?=some (.cells #[.slice none 0 0, .slice none 0 0, .slice none 0 0, .slice none 0 0, .slice none 0 0, .slice none 0 0, .slice none 0 0] 40)/\Ro wc 68 DV.cells V (dvs++[(⟨d,B,c⟩:DV)])/\Below w.heap.size w wc)
   case first=>
    refine zaC 6 (fun bb w'=>bb=true\/(w'.cell? ⟨w.heap.size,5,none⟩=some (.slice RA rd.length c5)/\w'.cell? ⟨w.heap.size+1,0,none⟩=some (.int .i64 d.kind)/\w'.cell? ⟨w.heap.size+1,1,none⟩=some (.int .i64 d.day)/\w'.cell? ⟨w.heap.size+1,2,none⟩=some (.string d.place)/\w'.cell? ⟨w.heap.size+1,3,none⟩=some (.string d.frm)/\w'.cell? ⟨w.heap.size+1,4,none⟩=some (.slice B d.to.length c)/\w'.cell? ⟨w.heap.size+1,5,none⟩=some (.int .i64 d.cls)/\w'.cell? ⟨w.heap.size+1,6,none⟩=some (.int .i64 d.years))) Mcm (.inr (aL.o _ (zaM (Below.refl _ _)))) ?hrest
    case hrest=>
     intro hHeld;clear xs0 xd0 xr0 s0 s1 s2 s3 s4 s5 s6 d0 d1 d2 d3 d4 d5 d6 r0 r1 r2 r3 r4 r5 r6 rf ls ld lr;refine TkM 1 ?_;refine TkM 2 ?_;refine TkM 4 ?_;refine TwM 0 5 (fun K hK=> ?_) fun K hK=> ?_
     ·go_simp
      have e0:Below WX.heap.size WX (WX.drew.alloc (.cells #[] 68)):=zac (zaM (Below.refl _ _)) _;have m0:OwnS (WX.drew.alloc (.cells #[] 68)) WX.heap.size 68 7 DV.cells (.slice (some ⟨WX.heap.size,0,none⟩) 0 0) []:=zdT zcj WX.drew WX.heap.size (Nat.le_refl _);refine NxM hK (fun hHeld=> ?_) (.inr (aL.o _ e0));clear hK K;refine TwM 3 5 (fun K hK=> ?_) fun K hK=> ?_
      ·refine zal (v:= .slice (some ⟨WX.heap.size,0,none⟩) 0 0) (n:=0) (m:=rd.length) rfl _ _ rfl zgw zcj zgv rfl (xs:=[]) (ys:=dvs) (m0) rfl rfl bu.o (bZ.o _ e0) Mct McE Mcw ?_;intro v4 w4 h1 h2 h3;rw[List.nil_append]at h1;obtain⟨V4,c4',b8,_,_⟩:=h1.sl zcj;rw[<-bu.o]at b8;subst b8;have aD:Below WX.heap.size WX w4:=Below.grown e0 h2 Mdl (fun j hj=>by simp[za7]at hj;omega);refine NxM hK (fun hHeld=> ?_) (.inr (aL.o _ aD));clear hK K;refine OnM 5 false fun K hK=> ?_
       go_simp
       have e1:Below WX.heap.size WX (w4.alloc (.cells #[.int .i64 d.kind, .int .i64 d.day, .string d.place, .string d.frm, .slice B d.to.length c, .int .i64 d.cls, .int .i64 d.years] 68)):=zac aD _;have n1:(w4.alloc (.cells #[.int .i64 d.kind, .int .i64 d.day, .string d.place, .string d.frm, .slice B d.to.length c, .int .i64 d.cls, .int .i64 d.years] 68)).heap[w4.heap.size]?=some (.cells #[.int .i64 d.kind, .int .i64 d.day, .string d.place, .string d.frm, .slice B d.to.length c, .int .i64 d.cls, .int .i64 d.years] 68):=zar _ _ _ rfl;have o1:OwnS (w4.alloc (.cells #[.int .i64 d.kind, .int .i64 d.day, .string d.place, .string d.frm, .slice B d.to.length c, .int .i64 d.cls, .int .i64 d.years] 68)) WX.heap.size 68 7 DV.cells (.slice V4 rd.length c4') dvs:=h1.keep (n:=w4.heap.size) (zac (Below.refl _ _) _);refine NxM hK (fun hHeld=> ?_) (.inr (aL.o _ e1));clear hK K;have o9:=o1;have n9:=n1;have e9:=e1;exact Mo
      ·go_simp
       have e1:Below WX.heap.size WX ((WX.drew.alloc (.cells #[] 68)).alloc (.cells #[.int .i64 d.kind, .int .i64 d.day, .string d.place, .string d.frm, .slice B d.to.length c, .int .i64 d.cls, .int .i64 d.years] 68)):=zac e0 _;have n1:((WX.drew.alloc (.cells #[] 68)).alloc (.cells #[.int .i64 d.kind, .int .i64 d.day, .string d.place, .string d.frm, .slice B d.to.length c, .int .i64 d.cls, .int .i64 d.years] 68)).heap[WX.heap.size+1]?=some (.cells #[.int .i64 d.kind, .int .i64 d.day, .string d.place, .string d.frm, .slice B d.to.length c, .int .i64 d.cls, .int .i64 d.years] 68):=zar _ _ _ Mco;have m1:OwnS ((WX.drew.alloc (.cells #[] 68)).alloc (.cells #[.int .i64 d.kind, .int .i64 d.day, .string d.place, .string d.frm, .slice B d.to.length c, .int .i64 d.cls, .int .i64 d.years] 68)) WX.heap.size 68 7 DV.cells (.slice (some ⟨WX.heap.size,0,none⟩) 0 0) []:=m0.keep (n:=(WX.drew.alloc (.cells #[] 68)).heap.size) (zac (Below.refl _ _) _);refine NxM hK (fun hHeld=> ?_) (.inr (aL.o _ e1));clear hK K;refine OnM 3 false fun K hK=> ?_
       refine zal (v:= .slice (some ⟨WX.heap.size,0,none⟩) 0 0) (n:=0) (m:=rd.length) rfl _ _ rfl zgw zcj zgv rfl (xs:=[]) (ys:=dvs) (m1) rfl rfl bu.o (bZ.o _ e1) Mct McE Mcs ?_;intro v4 w4 h1 h2 h3;rw[List.nil_append]at h1;obtain⟨V4,c4',b8,_,_⟩:=h1.sl zcj;rw[<-bu.o]at b8;subst b8;have aD:Below WX.heap.size WX w4:=Below.grown e1 h2 McG (fun j hj=>by simp[za7]at hj;omega);have n2:w4.heap[WX.heap.size+1]?=some (.cells #[.int .i64 d.kind, .int .i64 d.day, .string d.place, .string d.frm, .slice B d.to.length c, .int .i64 d.cls, .int .i64 d.years] 68):=(h2.block _ McC Mdd).trans n1;exact Mb5
     ·go_simp
      have e0:Below WX.heap.size WX (WX.drew.alloc (.cells #[.int .i64 d.kind, .int .i64 d.day, .string d.place, .string d.frm, .slice B d.to.length c, .int .i64 d.cls, .int .i64 d.years] 68)):=zac (zaM (Below.refl _ _)) _;have n0:(WX.drew.alloc (.cells #[.int .i64 d.kind, .int .i64 d.day, .string d.place, .string d.frm, .slice B d.to.length c, .int .i64 d.cls, .int .i64 d.years] 68)).heap[WX.heap.size]?=some (.cells #[.int .i64 d.kind, .int .i64 d.day, .string d.place, .string d.frm, .slice B d.to.length c, .int .i64 d.cls, .int .i64 d.years] 68):=zar _ _ _ rfl;refine NxM hK (fun hHeld=> ?_) (.inr (aL.o _ e0));clear hK K;refine OnM 0 false fun K hK=> ?_
      go_simp
      have e1:Below WX.heap.size WX ((WX.drew.alloc (.cells #[.int .i64 d.kind, .int .i64 d.day, .string d.place, .string d.frm, .slice B d.to.length c, .int .i64 d.cls, .int .i64 d.years] 68)).alloc (.cells #[] 68)):=zac e0 _;have n1:((WX.drew.alloc (.cells #[.int .i64 d.kind, .int .i64 d.day, .string d.place, .string d.frm, .slice B d.to.length c, .int .i64 d.cls, .int .i64 d.years] 68)).alloc (.cells #[] 68)).heap[WX.heap.size]?=some (.cells #[.int .i64 d.kind, .int .i64 d.day, .string d.place, .string d.frm, .slice B d.to.length c, .int .i64 d.cls, .int .i64 d.years] 68):=zak n0;have m1:OwnS ((WX.drew.alloc (.cells #[.int .i64 d.kind, .int .i64 d.day, .string d.place, .string d.frm, .slice B d.to.length c, .int .i64 d.cls, .int .i64 d.years] 68)).alloc (.cells #[] 68)) WX.heap.size 68 7 DV.cells (.slice (some ⟨WX.heap.size+1,0,none⟩) 0 0) []:=by
       exact Maw
      refine NxM hK (fun hHeld=> ?_) (.inr (aL.o _ e1));clear hK K;refine OnM 3 false fun K hK=> ?_
      refine zal (v:= .slice (some ⟨WX.heap.size+1,0,none⟩) 0 0) (n:=0) (m:=rd.length) rfl _ _ rfl zgw zcj zgv rfl (xs:=[]) (ys:=dvs) (m1) rfl rfl bu.o (bZ.o _ e1) Mct McE Mcs ?_;intro v4 w4 h1 h2 h3;rw[List.nil_append]at h1;obtain⟨V4,c4',b8,_,_⟩:=h1.sl zcj;rw[<-bu.o]at b8;subst b8;have aD:Below WX.heap.size WX w4:=Below.grown e1 h2 McG (fun j hj=>by simp[za7]at hj;omega);have n2:w4.heap[WX.heap.size]?=some (.cells #[.int .i64 d.kind, .int .i64 d.day, .string d.place, .string d.frm, .slice B d.to.length c, .int .i64 d.cls, .int .i64 d.years] 68):=(h2.block _ McC Mdd).trans n1;exact Mb5
   case rest=>
    obtain⟨_,V,c',eQ,cv,ee,oe⟩:=hcut;clear xs0 xd0 xr0 s0 s1 s2 s3 s4 s5 s6 d0 d1 d2 d3 d4 d5 d6 r0 r1 r2 r3 r4 r5 r6 rf ls ld lr;obtain⟨s0,s1,s2,s3,s4,s5,s6⟩:=zaG eQ;obtain⟨r0,r1,r2,r3,r4,r5,r6⟩:=zaG cv;have rf:=frz cv;have ls:=zab eQ;have lr:=zab cv;go_wp2_with fail
    rw[HE.o];have dq:=zc9 (a0:= .slice LA laws.length c0) (a1:= .slice CA s.children.length c1) (a2:= .slice MA s.marriages.length c2) (a3:= .slice DA s.dead.length c3) (a4:= .slice WA wd.length c4) (a5:= .slice V (rd.length+1) c') (a6:= .slice GA s.graves.length c6) oe (show w.heap.size<=w.heap.size+2 by omega);refine bodyPost_ret (zbA rfl _ rfl rfl (zc0 cv)) rfl ?_;have h':=H.o _ dq;refine⟨_,_,_,_,_,_,_,rfl,rfl,dq,fun _=>⟨wd,rd++[d],LA,CA,MA,DA,WA,V,GA,c0,c1,c2,c3,c4,c',c6,rfl,rfl,rfl,rfl,rfl,by rw[List.length_append];rfl,rfl,⟨h'.laws,h'.kids,h'.marr,h'.dead,h'.wills,?_,h'.graves,h'.deadc⟩,⟨HK.o.wills,HK.o.shares,?_,?_⟩⟩⟩
    ·exact Mai
    ·rw[List.map_append,Im.o];rfl
    ·intro x hx;rcases List.mem_append.1 hx with hx|hx
     ·exact HK.o.tos x hx
     ·rw[List.mem_singleton.1 hx];intro he;have:=AY.o;rw[he]at this;cases this
end Go.Proofs.YtckkbkdcdkhglaaGreatDoor

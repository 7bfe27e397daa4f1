import Derived.Test.YtcfheecahnnhjaaGreatDoorXJ
set_option linter.all false
set_option maxRecDepth 100000
set_option maxHeartbeats 4000000
namespace Go.Proofs.YtcfheecahnnhjaaGreatDoor
open Go.RowKit Go.Shelf
attribute [local go_sem] World.cell?_alloc_mark zag za4 zar zaB zaw zax zay zaz za0 za1 za2
attribute [local go_sem] zas zad
theorem zec{t:TypeId}{α:Type}{f:α->List Value}{size:Nat}(ag:∀x,(f x).length=size)(W:World)(base:Nat)(h:base<=W.heap.size):OwnS (W.alloc (.cells #[] t)) base t size f (.slice (some ⟨W.heap.size,0,none⟩) 0 0) []:=
 OwnS.of_own ag (World.ownsRow_made W #[] 0 h (Nat.zero_le _) Mcx)
theorem to_head{d:Deed}(h:d.to.length=1):∃y,d.to[0]?=some y/\zbi d=y.name:=by
 obtain⟨y,hy⟩:=List.length_eq_one_iff.1 h;exact⟨y,by rw[hy];rfl,by unfold zbi;rw[hy];rfl⟩
theorem zn1{d:Deed}{W:World}{B:Option Addr}(h:d.to.length=1)(hS:Sl W 3 RPart.cells B d.to):∃b off,B=some ⟨b,off,none⟩/\b<W.heap.size/\W.cell? ⟨b,off,none⟩=some (.string (zbi d)):=by
 obtain⟨y,hy,he⟩:=to_head h;obtain⟨b,off,hA,hb,hc⟩:=hS Mcu;refine⟨b,off,hA,hb,?_⟩;rw[he];have:=hc 0 y hy 0 _ rfl;simpa using this
theorem zpy(laws:List Law)(s:St)(wd rd:List Deed)(LA CA MA DA WA RA GA:Option Addr)(c0 c1 c2 c3 c4 c5 c6:Nat)(d:Deed)(B:Option Addr)(c:Nat)(w:World)(h:StIn w laws s wd rd LA CA MA DA WA RA GA c0 c1 c2 c3 c4 c5 c6)(hk:StLink s wd rd)(hf:StFew s wd rd)(hd:OkD d)(hS:Sl w 3 RPart.cells B d.to)(bV:d.kind=7):Calls Tryz.prog 134 #[.agg #[.slice LA laws.length c0,.slice CA s.children.length c1,.slice MA s.marriages.length c2,.slice DA s.dead.length c3,.slice WA wd.length c4,.slice RA rd.length c5,.slice GA s.graves.length c6],d.v B c] w (zfJ w laws (zdv s d)):=by
 obtain⟨R,hR⟩:∃R,R=zdv s d:=⟨_,rfl⟩
 rw[<-hR];have aP:=(hd.one (.inr (.inr bV))).1;have tM:=zHi (fun W (hS:Sl W 3 RPart.cells B d.to)=>zn1 aP hS);have nP:(0:Int)<(d.to.length:Int):=Mcu;unfold zdv at hR;generalize zbi d=tn at*;clear bV aP;obtain⟨H,HK,HF,HD,HS,HR⟩:=yH6 (fun W (hB:Below w.heap.size w W)=>h.keep hB) hk hf hd (fun W (hB:Below w.heap.size w W)=>hS.keep hB) hR;unfold Deed.v;clear h hk hf hd hS hR;go_enter Tryz.func134,Tryz.ntmps134
 go_upto_region 1 with fail
 generalize ak:World.alloc (World.alloc (World.alloc w _) _) _=W0;obtain⟨aj,aw⟩:=zeR ak;clear ak;have au:=aj.o.size;obtain⟨⟨xs0,xd0,xr0⟩,⟨s0,s1,s2,s3,s4,s5,s6⟩,⟨d0,d1,d2,d3,d4,d5,d6⟩,⟨r0,r1,r2,r3,r4,r5,r6⟩,rf,ls,ld,lr⟩:=ddF (aw.o W0 (Below.refl _ _));have tB:=zHi (fun x W (hB:Below W0.heap.size W0 W)=>sDead x W (H.o W (aj.o.trans (hB.mono au))) HF.o);have iY:=zHi (fun x W (hB:Below W0.heap.size W0 W)=>sSpouse x W (H.o W (aj.o.trans (hB.mono au))) HF.o);obtain⟨b,off,hA,hb,kZ⟩:=tM.o W0 (HS.o W0 aj.o);have hr:=HR.o;rw[hA]at d4;go_upto_region 2 with fail
 cases cg:zaN s d.frm;rotate_left 1
 ·have HE:Hid (R=(s,28)):=Mec;clear hr;go_upto_region 3 with(go_at_call 135;go_must(refine(tB.o _ _ (Below.refl _ _)).mono ?_);rintro e wq ⟨rfl,z,rfl⟩;rw[cg])
  have bk:=zao W0 z;exact MbY
 cases dW:zaN s tn;rotate_left 1
 ·have HE:Hid (R=(s,28)):=by show _=_;rw[hr,cg,dW];rfl
  clear hr;go_upto_region 3 with(go_at_call 135;go_must(refine(tB.o _ _ Bw).mono ?_);rintro e wq ⟨rfl,zz,rfl⟩;first|(rw[cg];obtain⟨z,rfl⟩:∃z,z=zz:=⟨_,rfl⟩)|(rw[dW];obtain⟨z2,rfl⟩:∃z,z=zz:=⟨_,rfl⟩))
  obtain⟨W1,aV⟩:∃W1,W1=(W0.ext z).ext z2:=⟨_,rfl⟩
  have aR:Below W0.heap.size W0 W1:=by rw[aV];exact zbg (zao _ _) _
  rw[<-aV];clear aV;have bk:=aR;exact MbY
 go_upto_region 4 with(go_at_call 135;go_must(refine(tB.o _ _ Bw).mono ?_);rintro e wq ⟨rfl,zz,rfl⟩;first|(rw[cg];obtain⟨z,rfl⟩:∃z,z=zz:=⟨_,rfl⟩)|(rw[dW];obtain⟨z2,rfl⟩:∃z,z=zz:=⟨_,rfl⟩))
 rw[cg,dW,Bool.or_false,if_neg Mcx]at hr;obtain⟨W1,aV⟩:∃W1,W1=(W0.ext z).ext z2:=⟨_,rfl⟩
 have aR:Below W0.heap.size W0 W1:=by rw[aV];exact zbg (zao _ _) _
 have ii:=aR.size;rw[<-aV];have aC:=zHi aR;clear aV aR;clear xs0 xd0 xr0 s0 s1 s2 s3 s4 s5 s6 d0 d1 d2 d3 d4 d5 d6 r0 r1 r2 r3 r4 r5 r6 rf ls ld lr;obtain⟨⟨xs0,xd0,xr0⟩,⟨s0,s1,s2,s3,s4,s5,s6⟩,⟨d0,d1,d2,d3,d4,d5,d6⟩,⟨r0,r1,r2,r3,r4,r5,r6⟩,rf,ls,ld,lr⟩:=ddF (aw.o W1 (aC.o));cases cx:noB (zaK s d.frm)
 ·have HE:Hid (R=(s,13)):=by show _=_;rw[hr,cx];rfl
  have w1:¬(zaK s d.frm).toList=[]:=by simpa using(show(zaK s d.frm).toList.isEmpty=false from cx)
  have y1:(zaK s d.frm).toList.isEmpty=false:=cx;clear hr cx;go_upto_region 5 with(go_at_call 166;go_must(refine(iY.o _ _ aC.o).mono ?_);rintro e wq ⟨rfl,z3,rfl⟩)
  have bk:=zbg aC.o z3;exact MbY
 have w1:(zaK s d.frm).toList=[]:=by simpa using(show(zaK s d.frm).toList.isEmpty=true from cx)
 have y1:(zaK s d.frm).toList.isEmpty=true:=cx;cases dY:noB (zaK s tn)
 ·have HE:Hid (R=(s,13)):=by show _=_;rw[hr,cx,dY];rfl
  have w2:¬(zaK s tn).toList=[]:=by simpa using(show(zaK s tn).toList.isEmpty=false from dY)
  have y2:(zaK s tn).toList.isEmpty=false:=dY;clear hr cx dY;go_upto_region 5 with(go_at_call 166;go_must(refine(iY.o _ _ Mem).mono ?_);rintro e wq ⟨rfl,zz,rfl⟩;first|(rw[show zaK s tn=zaK s tn from rfl];obtain⟨z4,rfl⟩:∃z,z=zz:=⟨_,rfl⟩)|(obtain⟨z3,rfl⟩:∃z,z=zz:=⟨_,rfl⟩))
  obtain⟨W2,cI⟩:∃W2,W2=(W1.ext z3).ext z4:=⟨_,rfl⟩
  have bs:Below W0.heap.size W0 W2:=by rw[cI];exact zbg (zbg aC.o _) _
  rw[<-cI];clear cI;have bk:=bs;exact MbY
 have w2:(zaK s tn).toList=[]:=by simpa using(show(zaK s tn).toList.isEmpty=true from dY)
 have y2:(zaK s tn).toList.isEmpty=true:=dY;rw[cx,dY,Bool.not_true,Bool.or_false,if_neg Mcx]at hr;have HE:=zHi hr;clear hr cx dY;go_upto_region 6 with(go_at_call 166;go_must(refine(iY.o _ _ Mem).mono ?_);rintro e wq ⟨rfl,zz,rfl⟩;first|(rw[show zaK s tn=zaK s tn from rfl];obtain⟨z4,rfl⟩:∃z,z=zz:=⟨_,rfl⟩)|(obtain⟨z3,rfl⟩:∃z,z=zz:=⟨_,rfl⟩))
 obtain⟨WX,kg⟩:∃WX,WX=(W1.ext z3).ext z4:=⟨_,rfl⟩
 have hJ:Below W0.heap.size W0 WX:=by rw[kg];exact zbg (zbg aC.o _) _
 rw[<-kg];have bA:=zHi hJ;have f9:=hJ.size;clear kg hJ;clear xs0 xd0 xr0 s0 s1 s2 s3 s4 s5 s6 d0 d1 d2 d3 d4 d5 d6 r0 r1 r2 r3 r4 r5 r6 rf ls ld lr;obtain⟨⟨xs0,xd0,xr0⟩,⟨s0,s1,s2,s3,s4,s5,s6⟩,⟨d0,d1,d2,d3,d4,d5,d6⟩,⟨r0,r1,r2,r3,r4,r5,r6⟩,rf,ls,ld,lr⟩:=ddF (aw.o WX (bA.o));have br:Hid (s.marriages.length=(s.marriages).length):=zHi rfl;have tP:Hid ((s.marriages).length<=1000):=zHi HF.o.marr;have bL:=zHi (fun W (hB:Below WX.heap.size WX W)=>(H.o W (aj.o.trans ((bA.o.trans (hB.mono f9)).mono au))).marr);have aA:=zHi (fun(W:World) (h:Below WX.heap.size WX W)=>(show W.cell? ⟨w.heap.size,2,none⟩=some (.slice MA s.marriages.length c2)/\W.cell? ⟨w.heap.size+1,3,none⟩=some (.string d.frm) from⟨(zah h ls).trans s2,(zah h ld).trans d3⟩));go_cut [5]from 34 to 45 (fun v wc=>v=.int .i64 0/\∃V c',wc.heap[w.heap.size]?=some (.cells #[.slice LA laws.length c0,.slice CA s.children.length c1,.slice V (s.marriages.length+1) c',.slice DA s.dead.length c3,.slice WA wd.length c4,.slice RA rd.length c5,.slice GA s.graves.length c6] 44)/\wc.heap[w.heap.size+2]?=some (.cells #[.slice none 0 0,.slice none 0 0,.slice none 0 0,.slice none 0 0,.slice none 0 0,.slice none 0 0,.slice none 0 0] 44)/\Ro wc 131 zaV V (s.marriages++[(d.frm,tn)])/\Below w.heap.size w wc)
 case first=>
  refine za7 9 (fun bb w'=>bb=true\/(w'.cell? ⟨w.heap.size,2,none⟩=some (.slice MA s.marriages.length c2)/\w'.cell? ⟨w.heap.size+1,3,none⟩=some (.string d.frm))) Mcv (.inr (aA.o _ (zaE (Below.refl _ _)))) ?hrest
  case hrest=>
   intro hHeld;clear xs0 xd0 xr0 s0 s1 s2 s3 s4 s5 s6 d0 d1 d2 d3 d4 d5 d6 r0 r1 r2 r3 r4 r5 r6 rf ls ld lr;refine TkM 1 ?_;refine TkM 2 ?_;refine TkM 4 ?_;refine TkM 5 ?_;refine TkM 6 ?_;refine TkM 7 ?_;refine TwM 0 8 (fun K hK=>?_) fun K hK=>?_
   ·go_simp
    have e0:Below WX.heap.size WX (WX.drew.alloc (.cells #[] 131)):=zac (zaE (Below.refl _ _)) _;have m0:OwnS (WX.drew.alloc (.cells #[] 131)) WX.heap.size 131 2 zaV (.slice (some ⟨WX.heap.size,0,none⟩) 0 0) []:=zec zbm WX.drew WX.heap.size (Nat.le_refl _);refine NxM hK (fun hHeld=>?_) (.inr (aA.o _ e0));clear hK K;refine TwM 3 8 (fun K hK=>?_) fun K hK=>?_
    ·refine zak (v:=.slice (some ⟨WX.heap.size,0,none⟩) 0 0) (n:=0) (m:=s.marriages.length) rfl _ _ rfl zgo zbm zdG rfl (xs:=[]) (ys:=s.marriages) (m0) rfl rfl br.o (bL.o _ e0) McC McO McF ?_;intro v4 w4 h1 h2 h3;rw[List.nil_append]at h1;obtain⟨V4,c4',aZ,_,_⟩:=h1.sl zbm;rw[<-br.o]at aZ;subst aZ;have aB:Below WX.heap.size WX w4:=Below.grown e0 h2 Mdt (fun j hj=>by simp[za5]at hj;omega);refine NxM hK (fun hHeld=>?_) (.inr (aA.o _ aB));clear hK K;refine OnM 8 false fun K hK=>?_
     go_simp
     have e1:Below WX.heap.size WX (w4.alloc (.cells #[.string d.frm,.string tn] 131)):=zac aB _;have n1:(w4.alloc (.cells #[.string d.frm,.string tn] 131)).heap[w4.heap.size]?=some (.cells #[.string d.frm,.string tn] 131):=zaq _ _ _ rfl;have o1:OwnS (w4.alloc (.cells #[.string d.frm,.string tn] 131)) WX.heap.size 131 2 zaV (.slice V4 s.marriages.length c4') s.marriages:=h1.keep (n:=w4.heap.size) (zac (Below.refl _ _) _);refine NxM hK (fun hHeld=>?_) (.inr (aA.o _ e1));clear hK K;have o9:=o1;have n9:=n1;have e9:=e1;exact Mq
    ·go_simp
     have e1:Below WX.heap.size WX ((WX.drew.alloc (.cells #[] 131)).alloc (.cells #[.string d.frm,.string tn] 131)):=zac e0 _;have n1:((WX.drew.alloc (.cells #[] 131)).alloc (.cells #[.string d.frm,.string tn] 131)).heap[WX.heap.size+1]?=some (.cells #[.string d.frm,.string tn] 131):=zaq _ _ _ Mcx;have m1:OwnS ((WX.drew.alloc (.cells #[] 131)).alloc (.cells #[.string d.frm,.string tn] 131)) WX.heap.size 131 2 zaV (.slice (some ⟨WX.heap.size,0,none⟩) 0 0) []:=m0.keep (n:=(WX.drew.alloc (.cells #[] 131)).heap.size) (zac (Below.refl _ _) _);refine NxM hK (fun hHeld=>?_) (.inr (aA.o _ e1));clear hK K;refine OnM 3 false fun K hK=>?_
     refine zak (v:=.slice (some ⟨WX.heap.size,0,none⟩) 0 0) (n:=0) (m:=s.marriages.length) rfl _ _ rfl zgo zbm zdG rfl (xs:=[]) (ys:=s.marriages) (m1) rfl rfl br.o (bL.o _ e1) McC McO McB ?_;intro v4 w4 h1 h2 h3;rw[List.nil_append]at h1;obtain⟨V4,c4',aZ,_,_⟩:=h1.sl zbm;rw[<-br.o]at aZ;subst aZ;have aB:Below WX.heap.size WX w4:=Below.grown e1 h2 McR (fun j hj=>by simp[za5]at hj;omega);have n2:w4.heap[WX.heap.size+1]?=some (.cells #[.string d.frm,.string tn] 131):=(h2.block _ McM Mdj).trans n1;exact Mcg
   ·go_simp
    have e0:Below WX.heap.size WX (WX.drew.alloc (.cells #[.string d.frm,.string tn] 131)):=zac (zaE (Below.refl _ _)) _;have n0:(WX.drew.alloc (.cells #[.string d.frm,.string tn] 131)).heap[WX.heap.size]?=some (.cells #[.string d.frm,.string tn] 131):=zaq _ _ _ rfl;refine NxM hK (fun hHeld=>?_) (.inr (aA.o _ e0));clear hK K;refine OnM 0 false fun K hK=>?_
    go_simp
    have e1:Below WX.heap.size WX ((WX.drew.alloc (.cells #[.string d.frm,.string tn] 131)).alloc (.cells #[] 131)):=zac e0 _;have n1:((WX.drew.alloc (.cells #[.string d.frm,.string tn] 131)).alloc (.cells #[] 131)).heap[WX.heap.size]?=some (.cells #[.string d.frm,.string tn] 131):=zal n0;have m1:OwnS ((WX.drew.alloc (.cells #[.string d.frm,.string tn] 131)).alloc (.cells #[] 131)) WX.heap.size 131 2 zaV (.slice (some ⟨WX.heap.size+1,0,none⟩) 0 0) []:=by
     exact Mbb
    refine NxM hK (fun hHeld=>?_) (.inr (aA.o _ e1));clear hK K;refine OnM 3 false fun K hK=>?_
    refine zak (v:=.slice (some ⟨WX.heap.size+1,0,none⟩) 0 0) (n:=0) (m:=s.marriages.length) rfl _ _ rfl zgo zbm zdG rfl (xs:=[]) (ys:=s.marriages) (m1) rfl rfl br.o (bL.o _ e1) McC McO McB ?_;intro v4 w4 h1 h2 h3;rw[List.nil_append]at h1;obtain⟨V4,c4',aZ,_,_⟩:=h1.sl zbm;rw[<-br.o]at aZ;subst aZ;have aB:Below WX.heap.size WX w4:=Below.grown e1 h2 McR (fun j hj=>by simp[za5]at hj;omega);have n2:w4.heap[WX.heap.size]?=some (.cells #[.string d.frm,.string tn] 131):=(h2.block _ McM Mdj).trans n1;exact Mcg
 case rest=>
  obtain⟨rfl,V,c',eI,cy,dZ,ov⟩:=hcut;clear xs0 xd0 xr0 s0 s1 s2 s3 s4 s5 s6 d0 d1 d2 d3 d4 d5 d6 r0 r1 r2 r3 r4 r5 r6 rf ls ld lr;obtain⟨s0,s1,s2,s3,s4,s5,s6⟩:=zaH eI;obtain⟨r0,r1,r2,r3,r4,r5,r6⟩:=zaH cy;have rf:=frz cy;have ls:=zab eI;have lr:=zab cy;go_wp2_with fail
  rw[HE.o];have du:=zcD (a0:=.slice LA laws.length c0) (a1:=.slice CA s.children.length c1) (a2:=.slice V (s.marriages.length+1) c') (a3:=.slice DA s.dead.length c3) (a4:=.slice WA wd.length c4) (a5:=.slice RA rd.length c5) (a6:=.slice GA s.graves.length c6) ov (show w.heap.size<=w.heap.size+2 by omega);refine bodyPost_ret (zbG rfl _ rfl rfl (zc2 cy)) rfl ?_;have h':=H.o _ du;exact⟨_,_,_,_,_,_,_,rfl,rfl,du,fun _=>⟨wd,rd,LA,CA,V,DA,WA,RA,GA,c0,c1,c',c3,c4,c5,c6,rfl,rfl,by rw[List.length_append];rfl,rfl,rfl,rfl,rfl,⟨h'.laws,h'.kids,(zji dZ cy Mcw).sl zbm,h'.dead,h'.wills,h'.ren,h'.graves,h'.deadc⟩,⟨HK.o.wills,HK.o.shares,HK.o.ren,HK.o.tos⟩⟩⟩
def zjj(l:List (ByteArray×ByteArray))(n:ByteArray):Nat:=(l.filter fun c=>zae c.2 n).length
theorem zpz{l:List (ByteArray×ByteArray)}{n:ByteArray}{k:Nat}(h:k<l.length):zjj (l.take (k+1)) n=zjj (l.take k) n+if zae l[k].2 n then 1 else 0:=by
 unfold zjj;rw[List.take_add_one,List.getElem?_eq_getElem h,List.filter_append,List.length_append];simp only[Option.toList_some,List.filter_cons,List.filter_nil];cases zae l[k].2 n<;>rfl
theorem chCnt_le(l:List (ByteArray×ByteArray))(n:ByteArray):zjj l n<=l.length:=List.length_filter_le _ _
theorem any_desc{s:St}{ys:List ByteArray}{a b:ByteArray}(h:∀y,y∈ys↔Relation.TransGen (fun x y=>y∈zdn s.children x) a y):ys.any (zae b)=true↔Desc s a b:=by
 rw[List.any_eq_true];constructor
 ·rintro⟨y,hy,he⟩;rw[zap.1 he];exact(h y).1 hy
 ·intro hd;exact⟨b,(h b).2 hd,zap.2 rfl⟩
theorem zp0(laws:List Law)(s:St)(wd rd:List Deed)(LA CA MA DA WA RA GA:Option Addr)(c0 c1 c2 c3 c4 c5 c6:Nat)(d:Deed)(B:Option Addr)(c:Nat)(w:World)(h:StIn w laws s wd rd LA CA MA DA WA RA GA c0 c1 c2 c3 c4 c5 c6)(hk:StLink s wd rd)(hf:StFew s wd rd)(hd:OkD d)(hS:Sl w 3 RPart.cells B d.to)(bV:d.kind=6):Calls Tryz.prog 133 #[.agg #[.slice LA laws.length c0,.slice CA s.children.length c1,.slice MA s.marriages.length c2,.slice DA s.dead.length c3,.slice WA wd.length c4,.slice RA rd.length c5,.slice GA s.graves.length c6],d.v B c] w (zfJ w laws (zcI s d)):=by
 obtain⟨R,hR⟩:∃R,R=zcI s d:=⟨_,rfl⟩
 rw[<-hR];have aP:=(hd.one (.inr (.inl bV))).1;have tM:=zHi (fun W (hS:Sl W 3 RPart.cells B d.to)=>zn1 aP hS);have nP:(0:Int)<(d.to.length:Int):=Mcu;unfold zcI at hR;generalize zbi d=tn at*;clear bV aP;obtain⟨H,HK,HF,HD,HS,HR⟩:=yH6 (fun W (hB:Below w.heap.size w W)=>h.keep hB) hk hf hd (fun W (hB:Below w.heap.size w W)=>hS.keep hB) hR;unfold Deed.v;clear h hk hf hd hS hR;go_enter Tryz.func133,Tryz.ntmps133
 go_upto_region 1 with fail
 generalize ak:World.alloc (World.alloc (World.alloc w _) _) _=W0;obtain⟨aj,aw⟩:=zeR ak;clear ak;have au:=aj.o.size;obtain⟨⟨xs0,xd0,xr0⟩,⟨s0,s1,s2,s3,s4,s5,s6⟩,⟨d0,d1,d2,d3,d4,d5,d6⟩,⟨r0,r1,r2,r3,r4,r5,r6⟩,rf,ls,ld,lr⟩:=ddF (aw.o W0 (Below.refl _ _));obtain⟨b,off,hA,hb,kZ⟩:=tM.o W0 (HS.o W0 aj.o);have hr:=HR.o;have jT:=zHi (sKids d.frm W0 (H.o W0 aj.o) HF.o);have bX:=HF.o.kids;have bi:(zai s d.frm).length<=1000:=by
  unfold zai;rw[List.length_map];exact Nat.le_trans (List.length_filter_le _ _) bX
 generalize zai s d.frm=ks at*;rw[hA]at d4;go_upto_region 2 with fail
 cases cg:ks.any (zae tn);rotate_left 1
 ·have HE:Hid (R=(s,5)):=Mec;clear hr
  go_upto_region 3 with(first
   |(go_at_call 164
     go_must(refine(jT.o).mono ?_)
     rintro e w2 ⟨v2,rfl,o2,b2⟩;obtain⟨KA,kc,rfl,fE,fu⟩:=o2.sl za9;have fg:=zHi fE
     clear o2 fE)
   |(go_at_call 163;go_must(refine(zd5 ks tn KA kc _ Mcu fu fg.o).mono ?_);rintro e wq ⟨rfl,rfl⟩;rw[cg]))
  have bk:=b2;exact MbY
 rw[cg,if_neg Mcx]at hr
 go_upto_region 6 with(first
  |(go_at_call 164
    go_must(refine(jT.o).mono ?_)
    rintro e w2 ⟨v2,rfl,o2,b2⟩;obtain⟨KA,kc,rfl,fE,fu⟩:=o2.sl za9;have fg:=zHi fE;obtain⟨_,_,xr2⟩:=aw.o w2 b2
    clear o2 fE)
  |(go_at_call 163;go_must(refine(zd5 ks tn KA kc _ Mcu fu fg.o).mono ?_);rintro e wq ⟨rfl,rfl⟩;rw[cg]))
 have kV:=b2.size;have aD:=zHi b2;clear fu fg b2 cg kZ bi xr2;clear xs0 xd0 xr0 s0 s1 s2 s3 s4 s5 s6 d0 d1 d2 d3 d4 d5 d6 r0 r1 r2 r3 r4 r5 r6 rf ls ld lr;obtain⟨⟨xs0,xd0,xr0⟩,⟨s0,s1,s2,s3,s4,s5,s6⟩,⟨d0,d1,d2,d3,d4,d5,d6⟩,⟨r0,r1,r2,r3,r4,r5,r6⟩,rf,ls,ld,lr⟩:=ddF (aw.o w2 (aD.o));have It:=zHi (H.o w2 (aj.o.trans (aD.o.mono au))).kids;go_loopw [7,8] (fun n i wr=>∃k:Nat,k<=s.children.length/\i=.int .i64 k/\n=.int .i64 (zjj (s.children.take k) tn)/\w2=wr) (fun _ i _=>s.children.length-(intOf i).toNat)
 case atStart=>exact⟨0,Nat.zero_le _,rfl,rfl,rfl⟩
 case round=>
  obtain⟨k,hk,rfl,rfl,rfl⟩:=hrel;have xm:=chCnt_le (s.children.take k) tn;rw[List.length_take]at xm;have CY:zjj (s.children.take k) tn<=1000:=Mcu;by_cases ae:k<s.children.length
  ·have bw:=zpz (n:=tn) ae;generalize zjj (s.children.take k) tn=m at*;obtain⟨cb,co,m9,kZ,ah⟩:=It.o.at ae;have am:=zHi ae;generalize s.children[k]=y at*;obtain⟨y1,y2⟩:=y;simp only at bw;have i1:w2.cell? ⟨cb,co+k*2+1,none⟩=some (.string y2):=ah 1 _ rfl;have ar:(k:Int)<(s.children.length:Int):=Mcu;have aT:(0:Int)<=(k:Int):=Mcu;rw[m9]at s1;clear ah ae;cases hs:zae y2 tn
   ·have aY:(y2.toList==tn.toList)=false:=hs;have bT:Hid (zjj (s.children.take (k+1)) tn=m):=by show _=_;rw[bw,hs];rfl
    clear bw hs;go_wp2_with fail
    go_round
    case rel=>exact⟨k+1,am.o,by go_num,by rw[bT.o],by first|exact True.intro|rfl⟩
    case measure=>have:=am.o;simp only[intOf];omega
   ·have aY:(y2.toList==tn.toList)=true:=hs;have bT:Hid (zjj (s.children.take (k+1)) tn=m+1):=by show _=_;rw[bw,hs];rfl
    clear bw hs;go_wp2_with fail
    go_round
    case rel=>exact⟨k+1,am.o,by go_num,by rw[bT.o];go_num,by first|exact True.intro|rfl⟩
    case measure=>have:=am.o;simp only[intOf];omega
  ·have ar:¬(k:Int)<(s.children.length:Int):=Mcu;rw[List.take_of_length_le Mcu]at*;have oU:(zbT s tn).length=zjj s.children tn:=List.length_map _;rw[oU]at hr;clear oU xm ae;generalize zjj s.children tn=m at*;by_cases hs:(2:Int)<=(m:Int)
   ·have HE:Hid (R=(s,16)):=by show _=_;rw[hr,if_pos (by simpa using(show 2<=m by omega))]
    clear hr;go_upto_region 11 with fail
    have bk:=aD.o;exact Mg
   rw[if_neg (by simpa using(show¬2<=m by omega))]at hr;have bI:=zHi hr;clear hr;go_upto_region 12 with fail
   clear hs CY ar;have bZ:=zHi (fun(W:World) (h:Below w2.heap.size w2 W)=>(show W.cell? ⟨w.heap.size,0,none⟩=some (.slice LA laws.length c0)/\W.cell? ⟨w.heap.size,1,none⟩=some (.slice CA s.children.length c1)/\W.cell? ⟨w.heap.size,2,none⟩=some (.slice MA s.marriages.length c2)/\W.cell? ⟨w.heap.size,3,none⟩=some (.slice DA s.dead.length c3)/\W.cell? ⟨w.heap.size,4,none⟩=some (.slice WA wd.length c4)/\W.cell? ⟨w.heap.size,5,none⟩=some (.slice RA rd.length c5)/\W.cell? ⟨w.heap.size,6,none⟩=some (.slice GA s.graves.length c6)/\W.cell? ⟨w.heap.size+1,3,none⟩=some (.string d.frm) from⟨(zah h ls).trans s0,(zah h ls).trans s1,(zah h ls).trans s2,(zah h ls).trans s3,(zah h ls).trans s4,(zah h ls).trans s5,(zah h ls).trans s6,(zah h ld).trans d3⟩));clear xs0 xd0 xr0 s0 s1 s2 s3 s4 s5 s6 d0 d1 d2 d3 d4 d5 d6 r0 r1 r2 r3 r4 r5 r6 rf ls ld lr;have gn:=zHi (fun W (hB:Below w2.heap.size w2 W)=>sDesc tn W (H.o W (aj.o.trans ((aD.o.trans (hB.mono kV)).mono au))) HF.o);unfold DescR at gn
   refine za7 5 (fun bb w'=>bb=true\/(w'.cell? ⟨w.heap.size,0,none⟩=some (.slice LA laws.length c0)/\w'.cell? ⟨w.heap.size,1,none⟩=some (.slice CA s.children.length c1)/\w'.cell? ⟨w.heap.size,2,none⟩=some (.slice MA s.marriages.length c2)/\w'.cell? ⟨w.heap.size,3,none⟩=some (.slice DA s.dead.length c3)/\w'.cell? ⟨w.heap.size,4,none⟩=some (.slice WA wd.length c4)/\w'.cell? ⟨w.heap.size,5,none⟩=some (.slice RA rd.length c5)/\w'.cell? ⟨w.heap.size,6,none⟩=some (.slice GA s.graves.length c6)/\w'.cell? ⟨w.heap.size+1,3,none⟩=some (.string d.frm))) Mcv (.inr (bZ.o _ (zaE (Below.refl _ _)))) ?hrest
   case hrest=>
    intro hHeld;refine TkM 0 ?_;refine TkM 1 ?_;refine TkM 3 ?_;refine TkM 4 ?_;refine OnM 2 false fun K hK=>?_
    go_simp
    refine(gn.o _ (zaE (Below.refl _ _))).mono ?_;rintro e w4 ⟨v4,ys,rfl,o4,bH,_,tp,b4⟩;obtain⟨YA,yc,rfl,ng,uH⟩:=o4.sl za9;have aB:Below w2.heap.size w2 w4:=(zaE (Below.refl _ _)).trans b4;obtain⟨oo,AQ⟩:=yH2 ng (any_desc (s:=s) (b:=d.frm) bH);refine NxM hK (fun hHeld=>?_) (.inr (bZ.o _ aB));clear hK K;refine OnM 5 true fun K hK=>?_
    go_simp
    refine(zd5 ys d.frm YA yc _ Mcu uH oo.o).mono ?_;rintro e wq ⟨rfl,rfl⟩;refine NxM hK fun hHeld=>?_
    clear hK K;refine zaG Mcv ?_ _;clear hHeld o4 bH ng tp b4 uH gn bZ;have F7:=aB.size;have bA:=zHi (aD.o.trans (aB.mono kV));obtain⟨⟨xs0,xd0,xr0⟩,⟨s0,s1,s2,s3,s4,s5,s6⟩,⟨d0,d1,d2,d3,d4,d5,d6⟩,⟨r0,r1,r2,r3,r4,r5,r6⟩,rf,ls,ld,lr⟩:=ddF (aw.o w4 (bA.o));by_cases jm:Desc s tn d.frm
    ·have HE:Hid (R=(s,25)):=by show _=_;rw[bI.o,if_pos (by simpa using jm)]
     have dW:ys.any (zae d.frm)=true:=AQ.o.2 jm;rw[dW];go_upto_region 13 with fail
     have bk:=bA.o;exact Mg
    have HE:Hid (R=({s with children:=s.children++[(d.frm,tn)]},0)):=by show _=_;rw[bI.o,if_neg (by simpa using jm)]
    have dW:ys.any (zae d.frm)=false:=by
     rw[Bool.eq_false_iff];exact fun h=>jm (AQ.o.1 h)
    rw[dW];clear jm dW AQ bI;go_upto_region 14 with fail
    obtain⟨WX,kg⟩:∃WX,WX=w4:=⟨_,rfl⟩
    subst kg;have f9:=bA.o.size;have br:Hid (s.children.length=(s.children).length):=zHi rfl;have tP:Hid ((s.children).length<=1000):=zHi HF.o.kids;have bL:=zHi (fun W (hB:Below WX.heap.size WX W)=>(H.o W (aj.o.trans ((bA.o.trans (hB.mono f9)).mono au))).kids);have aA:=zHi (fun(W:World) (h:Below WX.heap.size WX W)=>(show W.cell? ⟨w.heap.size,1,none⟩=some (.slice CA s.children.length c1)/\W.cell? ⟨w.heap.size+1,3,none⟩=some (.string d.frm) from⟨(zah h ls).trans s1,(zah h ld).trans d3⟩));go_cut [5]from 48 to 59 (fun v wc=>v=.int .i64 0/\∃V c',wc.heap[w.heap.size]?=some (.cells #[.slice LA laws.length c0,.slice V (s.children.length+1) c',.slice MA s.marriages.length c2,.slice DA s.dead.length c3,.slice WA wd.length c4,.slice RA rd.length c5,.slice GA s.graves.length c6] 44)/\wc.heap[w.heap.size+2]?=some (.cells #[.slice none 0 0,.slice none 0 0,.slice none 0 0,.slice none 0 0,.slice none 0 0,.slice none 0 0,.slice none 0 0] 44)/\Ro wc 131 zaV V (s.children++[(d.frm,tn)])/\Below w.heap.size w wc)
    case first=>
     refine za7 9 (fun bb w'=>bb=true\/(w'.cell? ⟨w.heap.size,1,none⟩=some (.slice CA s.children.length c1)/\w'.cell? ⟨w.heap.size+1,3,none⟩=some (.string d.frm))) Mcv (.inr (aA.o _ (zaE (Below.refl _ _)))) ?hrest
     case hrest=>
      intro hHeld;clear xs0 xd0 xr0 s0 s1 s2 s3 s4 s5 s6 d0 d1 d2 d3 d4 d5 d6 r0 r1 r2 r3 r4 r5 r6 rf ls ld lr;refine TkM 1 ?_;refine TkM 2 ?_;refine TkM 4 ?_;refine TkM 5 ?_;refine TkM 6 ?_;refine TkM 7 ?_;refine TwM 0 8 (fun K hK=>?_) fun K hK=>?_
      ·go_simp
       have e0:Below WX.heap.size WX (WX.drew.alloc (.cells #[] 131)):=zac (zaE (Below.refl _ _)) _;have m0:OwnS (WX.drew.alloc (.cells #[] 131)) WX.heap.size 131 2 zaV (.slice (some ⟨WX.heap.size,0,none⟩) 0 0) []:=zec zbm WX.drew WX.heap.size (Nat.le_refl _);refine NxM hK (fun hHeld=>?_) (.inr (aA.o _ e0));clear hK K;refine TwM 3 8 (fun K hK=>?_) fun K hK=>?_
       ·refine zak (v:=.slice (some ⟨WX.heap.size,0,none⟩) 0 0) (n:=0) (m:=s.children.length) rfl _ _ rfl zgo zbm zdG rfl (xs:=[]) (ys:=s.children) (m0) rfl rfl br.o (bL.o _ e0) McC McO McF ?_;intro v4 w4 h1 h2 h3;rw[List.nil_append]at h1;obtain⟨V4,c4',aZ,_,_⟩:=h1.sl zbm;rw[<-br.o]at aZ;subst aZ;have aB:Below WX.heap.size WX w4:=Below.grown e0 h2 Mdt (fun j hj=>by simp[za5]at hj;omega);refine NxM hK (fun hHeld=>?_) (.inr (aA.o _ aB));clear hK K;refine OnM 8 false fun K hK=>?_
        go_simp
        have e1:Below WX.heap.size WX (w4.alloc (.cells #[.string d.frm,.string tn] 131)):=zac aB _;have n1:(w4.alloc (.cells #[.string d.frm,.string tn] 131)).heap[w4.heap.size]?=some (.cells #[.string d.frm,.string tn] 131):=zaq _ _ _ rfl;have o1:OwnS (w4.alloc (.cells #[.string d.frm,.string tn] 131)) WX.heap.size 131 2 zaV (.slice V4 s.children.length c4') s.children:=h1.keep (n:=w4.heap.size) (zac (Below.refl _ _) _);refine NxM hK (fun hHeld=>?_) (.inr (aA.o _ e1));clear hK K;have o9:=o1;have n9:=n1;have e9:=e1;exact Mn
       ·go_simp
        have e1:Below WX.heap.size WX ((WX.drew.alloc (.cells #[] 131)).alloc (.cells #[.string d.frm,.string tn] 131)):=zac e0 _;have n1:((WX.drew.alloc (.cells #[] 131)).alloc (.cells #[.string d.frm,.string tn] 131)).heap[WX.heap.size+1]?=some (.cells #[.string d.frm,.string tn] 131):=zaq _ _ _ Mcx;have m1:OwnS ((WX.drew.alloc (.cells #[] 131)).alloc (.cells #[.string d.frm,.string tn] 131)) WX.heap.size 131 2 zaV (.slice (some ⟨WX.heap.size,0,none⟩) 0 0) []:=m0.keep (n:=(WX.drew.alloc (.cells #[] 131)).heap.size) (zac (Below.refl _ _) _);refine NxM hK (fun hHeld=>?_) (.inr (aA.o _ e1));clear hK K;refine OnM 3 false fun K hK=>?_
        refine zak (v:=.slice (some ⟨WX.heap.size,0,none⟩) 0 0) (n:=0) (m:=s.children.length) rfl _ _ rfl zgo zbm zdG rfl (xs:=[]) (ys:=s.children) (m1) rfl rfl br.o (bL.o _ e1) McC McO McB ?_;intro v4 w4 h1 h2 h3;rw[List.nil_append]at h1;obtain⟨V4,c4',aZ,_,_⟩:=h1.sl zbm;rw[<-br.o]at aZ;subst aZ;have aB:Below WX.heap.size WX w4:=Below.grown e1 h2 McR (fun j hj=>by simp[za5]at hj;omega);have n2:w4.heap[WX.heap.size+1]?=some (.cells #[.string d.frm,.string tn] 131):=(h2.block _ McM Mdj).trans n1;exact Mcd
      ·go_simp
       have e0:Below WX.heap.size WX (WX.drew.alloc (.cells #[.string d.frm,.string tn] 131)):=zac (zaE (Below.refl _ _)) _;have n0:(WX.drew.alloc (.cells #[.string d.frm,.string tn] 131)).heap[WX.heap.size]?=some (.cells #[.string d.frm,.string tn] 131):=zaq _ _ _ rfl;refine NxM hK (fun hHeld=>?_) (.inr (aA.o _ e0));clear hK K;refine OnM 0 false fun K hK=>?_
       go_simp
       have e1:Below WX.heap.size WX ((WX.drew.alloc (.cells #[.string d.frm,.string tn] 131)).alloc (.cells #[] 131)):=zac e0 _;have n1:((WX.drew.alloc (.cells #[.string d.frm,.string tn] 131)).alloc (.cells #[] 131)).heap[WX.heap.size]?=some (.cells #[.string d.frm,.string tn] 131):=zal n0;have m1:OwnS ((WX.drew.alloc (.cells #[.string d.frm,.string tn] 131)).alloc (.cells #[] 131)) WX.heap.size 131 2 zaV (.slice (some ⟨WX.heap.size+1,0,none⟩) 0 0) []:=by
        exact Mbb
       refine NxM hK (fun hHeld=>?_) (.inr (aA.o _ e1));clear hK K;refine OnM 3 false fun K hK=>?_
       refine zak (v:=.slice (some ⟨WX.heap.size+1,0,none⟩) 0 0) (n:=0) (m:=s.children.length) rfl _ _ rfl zgo zbm zdG rfl (xs:=[]) (ys:=s.children) (m1) rfl rfl br.o (bL.o _ e1) McC McO McB ?_;intro v4 w4 h1 h2 h3;rw[List.nil_append]at h1;obtain⟨V4,c4',aZ,_,_⟩:=h1.sl zbm;rw[<-br.o]at aZ;subst aZ;have aB:Below WX.heap.size WX w4:=Below.grown e1 h2 McR (fun j hj=>by simp[za5]at hj;omega);have n2:w4.heap[WX.heap.size]?=some (.cells #[.string d.frm,.string tn] 131):=(h2.block _ McM Mdj).trans n1;exact Mcd
    case rest=>
     obtain⟨rfl,V,c',eI,cy,dZ,ov⟩:=hcut;clear xs0 xd0 xr0 s0 s1 s2 s3 s4 s5 s6 d0 d1 d2 d3 d4 d5 d6 r0 r1 r2 r3 r4 r5 r6 rf ls ld lr;obtain⟨s0,s1,s2,s3,s4,s5,s6⟩:=zaH eI;obtain⟨r0,r1,r2,r3,r4,r5,r6⟩:=zaH cy;have rf:=frz cy;have ls:=zab eI;have lr:=zab cy;go_wp2_with fail
     rw[HE.o];have du:=zcD (a0:=.slice LA laws.length c0) (a1:=.slice V (s.children.length+1) c') (a2:=.slice MA s.marriages.length c2) (a3:=.slice DA s.dead.length c3) (a4:=.slice WA wd.length c4) (a5:=.slice RA rd.length c5) (a6:=.slice GA s.graves.length c6) ov (show w.heap.size<=w.heap.size+2 by omega);refine bodyPost_ret (zbG rfl _ rfl rfl (zc2 cy)) rfl ?_;have h':=H.o _ du;exact⟨_,_,_,_,_,_,_,rfl,rfl,du,fun _=>⟨wd,rd,LA,V,MA,DA,WA,RA,GA,c0,c',c2,c3,c4,c5,c6,rfl,by rw[List.length_append];rfl,rfl,rfl,rfl,rfl,rfl,⟨h'.laws,(zji dZ cy Mcw).sl zbm,h'.marr,h'.dead,h'.wills,h'.ren,h'.graves,h'.deadc⟩,⟨HK.o.wills,HK.o.shares,HK.o.ren,HK.o.tos⟩⟩⟩

import Derived.Test.YtogklihlgindkaaGreatDoorXJ
set_option linter.all false
set_option maxRecDepth 100000
set_option maxHeartbeats 4000000
namespace Go.Proofs.YtogklihlgindkaaGreatDoor
open Go.RowKit Go.Shelf
attribute [local go_sem] World.cell?_alloc_mark zaf za3 zam za6 zat zau zav zaw zax zay zaz
attribute [local go_sem] zao zac
def zdX{t:TypeId}{α:Type}{f:α->List Value}{size:Nat}(ag:∀x,(f x).length=size)(W:World)(base:Nat)(h:base<=W.heap.size):OwnS (W.alloc (.cells #[] t)) base t size f (.slice (some ⟨W.heap.size,0,none⟩) 0 0) []:=
 OwnS.of_own ag (World.ownsRow_made W #[] 0 h (Nat.zero_le _) McV)
variable{d:Deed}
def to_head(h:d.to.length=1):∃y,d.to[0]?=some y/\zbh d=y.name:=by
 obtain⟨y,hy⟩:=List.length_eq_one_iff.1 h;exact⟨y,by rw[hy];rfl,by unfold zbh;rw[hy];rfl⟩
def znM{W:World}{B:Option Addr}(h:d.to.length=1)(hS:Sl W 3 RPart.cells B d.to):∃b off,B=some ⟨b,off,none⟩/\b<W.heap.size/\W.cell? ⟨b,off,none⟩=some (.string (zbh d)):=by
 obtain⟨y,hy,he⟩:=to_head h;obtain⟨b,off,hA,hb,hc⟩:=hS McS;refine⟨b,off,hA,hb,?_⟩;rw[he];have:=hc 0 y hy 0 _ rfl;simpa using this
def zpL(laws:List Law)(s:St)(wd rd:List Deed)(LA CA MA DA WA RA GA:Option Addr)(c0 c1 c2 c3 c4 c5 c6:Nat)(d:Deed)(B:Option Addr)(c:Nat)(w:World)(h:StIn w laws s wd rd LA CA MA DA WA RA GA c0 c1 c2 c3 c4 c5 c6)(hk:StLink s wd rd)(hf:StFew s wd rd)(hd:OkD d)(hS:Sl w 3 RPart.cells B d.to)(ck:d.kind=7):Calls Tryz.prog 136 #[.agg #[.slice LA laws.length c0,.slice CA s.children.length c1,.slice MA s.marriages.length c2,.slice DA s.dead.length c3,.slice WA wd.length c4,.slice RA rd.length c5,.slice GA s.graves.length c6],d.v B c] w (zfM w laws (zdt s d)):=by
 obtain⟨R,hR⟩:=Qd (zdt s d)
 rw[<-hR];have aU:=(hd.one (.inr (.inr ck))).1;have u9:=zHi (λW (hS:Sl W 3 RPart.cells B d.to)=>znM aU hS);have iX:(0:Int)<(d.to.length:Int):=McS;unfold zdt at hR;generalize zbh d=tn at*;clear ck aU;obtain⟨H,HK,HF,HD,HS,HR⟩:=yH6 (λW (hB:Qa w W)=>h.keep hB) hk hf hd (λW (hB:Qa w W)=>hS.keep hB) hR;unfold Deed.v;clear h hk hf hd hS hR;go_enter Tryz.func136,Tryz.ntmps136
 go_upto_region 1 with fail
 generalize am:World.alloc (World.alloc (World.alloc w _) _) _=W0;obtain⟨ak,av⟩:=zeN am;clear am;have ay:=ak.o.size;obtain⟨⟨xs0,xd0,xr0⟩,⟨s0,s1,s2,s3,s4,s5,s6⟩,⟨d0,d1,d2,d3,d4,d5,d6⟩,⟨r0,r1,r2,r3,r4,r5,r6⟩,rf,ls,ld,lr⟩:=ddF (av.o W0 Qb);have tO:=zHi (λx W (hB:Qa W0 W)=>sDead x W (H.o W (ak.o.trans (hB.mono ay))) HF.o);have jw:=zHi (λx W (hB:Qa W0 W)=>sSpouse x W (H.o W (ak.o.trans (hB.mono ay))) HF.o);obtain⟨b,off,hA,hb,lH⟩:=u9.o W0 (HS.o W0 ak.o);have hr:=HR.o;rw[hA]at d4;go_upto_region 2 with fail
 cases cg:zaN s d.frm;rotate_left 1
 ·have HE:Hid (R=(s,28)):=MeF;clear hr;go_upto_region 3 with(go_at_call 137;go_must(refine(tO.o _ _ Qb).mono ?_);rintro e wq ⟨rfl,z,rfl⟩;rw[cg])
  have bl:=zan W0 z;exact Mcd
 cases dY:zaN s tn;rotate_left 1
 ·have HE:Hid (R=(s,28)):=by show _=_;rw[hr,cg,dY];rfl
  clear hr;go_upto_region 3 with(go_at_call 137;go_must(refine(tO.o _ _ Bw).mono ?_);rintro e wq ⟨rfl,zz,rfl⟩;first|(rw[cg];obtain⟨z,rfl⟩:=Qd zz)|(rw[dY];obtain⟨z2,rfl⟩:∃z,z=zz:=⟨_,rfl⟩))
  obtain⟨W1,aX⟩:=Qd ((W0.ext z).ext z2)
  have aW:Qa W0 W1:=by rw[aX];exact zb2 (zan _ _) _
  rw[<-aX];clear aX;have bl:=aW;exact Mcd
 go_upto_region 4 with(go_at_call 137;go_must(refine(tO.o _ _ Bw).mono ?_);rintro e wq ⟨rfl,zz,rfl⟩;first|(rw[cg];obtain⟨z,rfl⟩:=Qd zz)|(rw[dY];obtain⟨z2,rfl⟩:∃z,z=zz:=⟨_,rfl⟩))
 rw[cg,dY,Bool.or_false,if_neg McV]at hr;obtain⟨W1,aX⟩:=Qd ((W0.ext z).ext z2)
 have aW:Qa W0 W1:=by rw[aX];exact zb2 (zan _ _) _
 have iE:=aW.size;rw[<-aX];have aL:=zHi aW;clear aX aW;clear xs0 xd0 xr0 s0 s1 s2 s3 s4 s5 s6 d0 d1 d2 d3 d4 d5 d6 r0 r1 r2 r3 r4 r5 r6 rf ls ld lr;obtain⟨⟨xs0,xd0,xr0⟩,⟨s0,s1,s2,s3,s4,s5,s6⟩,⟨d0,d1,d2,d3,d4,d5,d6⟩,⟨r0,r1,r2,r3,r4,r5,r6⟩,rf,ls,ld,lr⟩:=ddF (av.o W1 (aL.o));cases cu:noB (zaK s d.frm)
 ·have HE:Hid (R=(s,13)):=by show _=_;rw[hr,cu];rfl
  have w1:¬(zaK s d.frm).toList=[]:=by simpa using(show(zaK s d.frm).toList.isEmpty=false from cu)
  have y1:(zaK s d.frm).toList.isEmpty=false:=cu;clear hr cu;go_upto_region 5 with(go_at_call 171;go_must(refine(jw.o _ _ aL.o).mono ?_);rintro e wq ⟨rfl,z3,rfl⟩)
  have bl:=zb2 aL.o z3;exact Mcd
 have w1:(zaK s d.frm).toList=[]:=by simpa using(show(zaK s d.frm).toList.isEmpty=true from cu)
 have y1:(zaK s d.frm).toList.isEmpty=true:=cu;cases eh:noB (zaK s tn)
 ·have HE:Hid (R=(s,13)):=by show _=_;rw[hr,cu,eh];rfl
  have w2:¬(zaK s tn).toList=[]:=by simpa using(show(zaK s tn).toList.isEmpty=false from eh)
  have y2:(zaK s tn).toList.isEmpty=false:=eh;clear hr cu eh;go_upto_region 5 with(go_at_call 171;go_must(refine(jw.o _ _ MeO).mono ?_);rintro e wq ⟨rfl,zz,rfl⟩;first|(rw[show zaK s tn=zaK s tn from rfl];obtain⟨z4,rfl⟩:∃z,z=zz:=⟨_,rfl⟩)|(obtain⟨z3,rfl⟩:∃z,z=zz:=⟨_,rfl⟩))
  obtain⟨W2,cN⟩:=Qd ((W1.ext z3).ext z4)
  have bM:Qa W0 W2:=by rw[cN];exact zb2 (zb2 aL.o _) _
  rw[<-cN];clear cN;have bl:=bM;exact Mcd
 have w2:(zaK s tn).toList=[]:=by simpa using(show(zaK s tn).toList.isEmpty=true from eh)
 have y2:(zaK s tn).toList.isEmpty=true:=eh;rw[cu,eh,Bool.not_true,Bool.or_false,if_neg McV]at hr;have HE:=zHi hr;clear hr cu eh;go_upto_region 6 with(go_at_call 171;go_must(refine(jw.o _ _ MeO).mono ?_);rintro e wq ⟨rfl,zz,rfl⟩;first|(rw[show zaK s tn=zaK s tn from rfl];obtain⟨z4,rfl⟩:∃z,z=zz:=⟨_,rfl⟩)|(obtain⟨z3,rfl⟩:∃z,z=zz:=⟨_,rfl⟩))
 obtain⟨WX,kJ⟩:=Qd ((W1.ext z3).ext z4)
 have iq:Qa W0 WX:=by rw[kJ];exact zb2 (zb2 aL.o _) _
 rw[<-kJ];have bD:=zHi iq;have eH:=iq.size;clear kJ iq;clear xs0 xd0 xr0 s0 s1 s2 s3 s4 s5 s6 d0 d1 d2 d3 d4 d5 d6 r0 r1 r2 r3 r4 r5 r6 rf ls ld lr;obtain⟨⟨xs0,xd0,xr0⟩,⟨s0,s1,s2,s3,s4,s5,s6⟩,⟨d0,d1,d2,d3,d4,d5,d6⟩,⟨r0,r1,r2,r3,r4,r5,r6⟩,rf,ls,ld,lr⟩:=ddF (av.o WX (bD.o));have bw:Hid (s.marriages.length=(s.marriages).length):=zHi rfl;have ub:Hid ((s.marriages).length<=1000):=zHi HF.o.marr;have bU:=zHi (λW (hB:Qa WX W)=>(H.o W (ak.o.trans ((bD.o.trans (hB.mono eH)).mono ay))).marr);have aJ:=zHi (λ(W:World) (h:Qa WX W)=>(show W.cell? ⟨w.heap.size,2,none⟩=some (.slice MA s.marriages.length c2)/\W.cell? ⟨w.heap.size+1,3,none⟩=some (.string d.frm) from⟨(zai h ls).trans s2,(zai h ld).trans d3⟩));go_cut [5]from 34 to 45 (λv wc=>v=.int .i64 0/\∃V c',wc.heap[w.heap.size]?=some (.cells #[.slice LA laws.length c0,.slice CA s.children.length c1,.slice V (s.marriages.length+1) c',.slice DA s.dead.length c3,.slice WA wd.length c4,.slice RA rd.length c5,.slice GA s.graves.length c6] 86)/\wc.heap[w.heap.size+2]?=some (.cells #[.slice none 0 0,.slice none 0 0,.slice none 0 0,.slice none 0 0,.slice none 0 0,.slice none 0 0,.slice none 0 0] 86)/\Ro wc 126 zaW V (s.marriages++[(d.frm,tn)])/\Qa w wc)
 case first=>
  refine za9 9 (λbb w'=>bb=true\/(w'.cell? ⟨w.heap.size,2,none⟩=some (.slice MA s.marriages.length c2)/\w'.cell? ⟨w.heap.size+1,3,none⟩=some (.string d.frm))) McT (.inr (aJ.o _ (zaF Qb))) ?hrest
  case hrest=>
   intro hHeld;clear xs0 xd0 xr0 s0 s1 s2 s3 s4 s5 s6 d0 d1 d2 d3 d4 d5 d6 r0 r1 r2 r3 r4 r5 r6 rf ls ld lr;refine TkM 1 ?_;refine TkM 2 ?_;refine TkM 4 ?_;refine TkM 5 ?_;refine TkM 6 ?_;refine TkM 7 ?_;refine TwM 0 8 (λK hK=>?_) λK hK=>?_
   ·go_simp
    have e0:Qa WX (WX.drew.alloc (.cells #[] 126)):=zad (zaF Qb) _;have m0:OwnS (WX.drew.alloc (.cells #[] 126)) WX.heap.size 126 2 zaW (.slice (some ⟨WX.heap.size,0,none⟩) 0 0) []:=zdX zbk WX.drew WX.heap.size Qc;refine NxM hK (λhHeld=>?_) (.inr (aJ.o _ e0));clear hK K;refine TwM 3 8 (λK hK=>?_) λK hK=>?_
    ·refine zap (v:=.slice (some ⟨WX.heap.size,0,none⟩) 0 0) (n:=0) (m:=s.marriages.length) rfl _ _ rfl zgr zbk zdD rfl (xs:=[]) (ys:=s.marriages) (m0) rfl rfl bw.o (bU.o _ e0) Mc0 Mdc Mc4 ?_;intro v4 w4 h1 h2 h3;rw[List.nil_append]at h1;obtain⟨V4,c4',be,_,_⟩:=h1.sl zbk;rw[<-bw.o]at be;subst be;have aB:Qa WX w4:=Below.grown e0 h2 MdP (λj hj=>by simp[za4]at hj;omega);refine NxM hK (λhHeld=>?_) (.inr (aJ.o _ aB));clear hK K;refine OnM 8 false λK hK=>?_
     go_simp
     have e1:Qa WX (w4.alloc (.cells #[.string d.frm,.string tn] 126)):=zad aB _;have n1:(w4.alloc (.cells #[.string d.frm,.string tn] 126)).heap[w4.heap.size]?=some (.cells #[.string d.frm,.string tn] 126):=zas _ _ _ rfl;have o1:OwnS (w4.alloc (.cells #[.string d.frm,.string tn] 126)) WX.heap.size 126 2 zaW (.slice V4 s.marriages.length c4') s.marriages:=h1.keep (n:=w4.heap.size) (zad Qb _);refine NxM hK (λhHeld=>?_) (.inr (aJ.o _ e1));clear hK K;have o9:=o1;have n9:=n1;have e9:=e1;exact Mq
    ·go_simp
     have e1:Qa WX ((WX.drew.alloc (.cells #[] 126)).alloc (.cells #[.string d.frm,.string tn] 126)):=zad e0 _;have n1:((WX.drew.alloc (.cells #[] 126)).alloc (.cells #[.string d.frm,.string tn] 126)).heap[WX.heap.size+1]?=some (.cells #[.string d.frm,.string tn] 126):=zas _ _ _ McV;have m1:OwnS ((WX.drew.alloc (.cells #[] 126)).alloc (.cells #[.string d.frm,.string tn] 126)) WX.heap.size 126 2 zaW (.slice (some ⟨WX.heap.size,0,none⟩) 0 0) []:=m0.keep (n:=(WX.drew.alloc (.cells #[] 126)).heap.size) (zad Qb _);refine NxM hK (λhHeld=>?_) (.inr (aJ.o _ e1));clear hK K;refine OnM 3 false λK hK=>?_
     refine zap (v:=.slice (some ⟨WX.heap.size,0,none⟩) 0 0) (n:=0) (m:=s.marriages.length) rfl _ _ rfl zgr zbk zdD rfl (xs:=[]) (ys:=s.marriages) (m1) rfl rfl bw.o (bU.o _ e1) Mc0 Mdc McZ ?_;intro v4 w4 h1 h2 h3;rw[List.nil_append]at h1;obtain⟨V4,c4',be,_,_⟩:=h1.sl zbk;rw[<-bw.o]at be;subst be;have aB:Qa WX w4:=Below.grown e1 h2 Mde (λj hj=>by simp[za4]at hj;omega);have n2:w4.heap[WX.heap.size+1]?=some (.cells #[.string d.frm,.string tn] 126):=(h2.block _ Mda MdI).trans n1;exact McC
   ·go_simp
    have e0:Qa WX (WX.drew.alloc (.cells #[.string d.frm,.string tn] 126)):=zad (zaF Qb) _;have n0:(WX.drew.alloc (.cells #[.string d.frm,.string tn] 126)).heap[WX.heap.size]?=some (.cells #[.string d.frm,.string tn] 126):=zas _ _ _ rfl;refine NxM hK (λhHeld=>?_) (.inr (aJ.o _ e0));clear hK K;refine OnM 0 false λK hK=>?_
    go_simp
    have e1:Qa WX ((WX.drew.alloc (.cells #[.string d.frm,.string tn] 126)).alloc (.cells #[] 126)):=zad e0 _;have n1:((WX.drew.alloc (.cells #[.string d.frm,.string tn] 126)).alloc (.cells #[] 126)).heap[WX.heap.size]?=some (.cells #[.string d.frm,.string tn] 126):=zal n0;have m1:OwnS ((WX.drew.alloc (.cells #[.string d.frm,.string tn] 126)).alloc (.cells #[] 126)) WX.heap.size 126 2 zaW (.slice (some ⟨WX.heap.size+1,0,none⟩) 0 0) []:=by
     exact Mbu
    refine NxM hK (λhHeld=>?_) (.inr (aJ.o _ e1));clear hK K;refine OnM 3 false λK hK=>?_
    refine zap (v:=.slice (some ⟨WX.heap.size+1,0,none⟩) 0 0) (n:=0) (m:=s.marriages.length) rfl _ _ rfl zgr zbk zdD rfl (xs:=[]) (ys:=s.marriages) (m1) rfl rfl bw.o (bU.o _ e1) Mc0 Mdc McZ ?_;intro v4 w4 h1 h2 h3;rw[List.nil_append]at h1;obtain⟨V4,c4',be,_,_⟩:=h1.sl zbk;rw[<-bw.o]at be;subst be;have aB:Qa WX w4:=Below.grown e1 h2 Mde (λj hj=>by simp[za4]at hj;omega);have n2:w4.heap[WX.heap.size]?=some (.cells #[.string d.frm,.string tn] 126):=(h2.block _ Mda MdI).trans n1;exact McC
 case rest=>
  obtain⟨rfl,V,c',dQ,cx,ej,oQ⟩:=hcut;clear xs0 xd0 xr0 s0 s1 s2 s3 s4 s5 s6 d0 d1 d2 d3 d4 d5 d6 r0 r1 r2 r3 r4 r5 r6 rf ls ld lr;obtain⟨s0,s1,s2,s3,s4,s5,s6⟩:=zaG dQ;obtain⟨r0,r1,r2,r3,r4,r5,r6⟩:=zaG cx;have rf:=frz cx;have ls:=zab dQ;have lr:=zab cx;go_wp2_with fail
  rw[HE.o];have cC:=zcC (a0:=.slice LA laws.length c0) (a1:=.slice CA s.children.length c1) (a2:=.slice V (s.marriages.length+1) c') (a3:=.slice DA s.dead.length c3) (a4:=.slice WA wd.length c4) (a5:=.slice RA rd.length c5) (a6:=.slice GA s.graves.length c6) oQ (show w.heap.size<=w.heap.size+2 by omega);refine bodyPost_ret (zbB rfl _ rfl rfl (zc0 cx)) rfl ?_;have h':=H.o _ cC;exact⟨_,_,_,_,_,_,_,rfl,rfl,cC,λ_=>⟨wd,rd,LA,CA,V,DA,WA,RA,GA,c0,c1,c',c3,c4,c5,c6,rfl,rfl,by rw[List.length_append];rfl,rfl,rfl,rfl,rfl,⟨h'.laws,h'.kids,(zjm ej cx McU).sl zbk,h'.dead,h'.wills,h'.ren,h'.graves,h'.deadc⟩,⟨HK.o.wills,HK.o.shares,HK.o.ren,HK.o.tos⟩⟩⟩
def zjn(l:List (ByteArray×ByteArray))(n:ByteArray):Nat:=(l.filter λc=>zae c.2 n).length
def zpM{l:List (ByteArray×ByteArray)}{n:ByteArray}{k:Nat}(h:k<l.length):zjn (l.take (k+1)) n=zjn (l.take k) n+if zae l[k].2 n then 1 else 0:=by
 unfold zjn;rw[List.take_add_one,List.getElem?_eq_getElem h,List.filter_append,List.length_append];simp only[Option.toList_some,List.filter_cons,List.filter_nil];cases zae l[k].2 n<;>rfl
def chCnt_le(l:List (ByteArray×ByteArray))(n:ByteArray):zjn l n<=l.length:=List.length_filter_le _ _
def any_desc{s:St}{ys:List ByteArray}{a b:ByteArray}(h:∀y,y∈ys↔Relation.TransGen (λx y=>y∈zdk s.children x) a y):ys.any (zae b)=true↔Desc s a b:=by
 rw[List.any_eq_true];constructor
 ·rintro⟨y,hy,he⟩;rw[za2.1 he];exact(h y).1 hy
 ·intro hd;exact⟨b,(h b).2 hd,za2.2 rfl⟩
def zpN(laws:List Law)(s:St)(wd rd:List Deed)(LA CA MA DA WA RA GA:Option Addr)(c0 c1 c2 c3 c4 c5 c6:Nat)(d:Deed)(B:Option Addr)(c:Nat)(w:World)(h:StIn w laws s wd rd LA CA MA DA WA RA GA c0 c1 c2 c3 c4 c5 c6)(hk:StLink s wd rd)(hf:StFew s wd rd)(hd:OkD d)(hS:Sl w 3 RPart.cells B d.to)(ck:d.kind=6):Calls Tryz.prog 135 #[.agg #[.slice LA laws.length c0,.slice CA s.children.length c1,.slice MA s.marriages.length c2,.slice DA s.dead.length c3,.slice WA wd.length c4,.slice RA rd.length c5,.slice GA s.graves.length c6],d.v B c] w (zfM w laws (zcG s d)):=by
 obtain⟨R,hR⟩:=Qd (zcG s d)
 rw[<-hR];have aU:=(hd.one (.inr (.inl ck))).1;have u9:=zHi (λW (hS:Sl W 3 RPart.cells B d.to)=>znM aU hS);have iX:(0:Int)<(d.to.length:Int):=McS;unfold zcG at hR;generalize zbh d=tn at*;clear ck aU;obtain⟨H,HK,HF,HD,HS,HR⟩:=yH6 (λW (hB:Qa w W)=>h.keep hB) hk hf hd (λW (hB:Qa w W)=>hS.keep hB) hR;unfold Deed.v;clear h hk hf hd hS hR;go_enter Tryz.func135,Tryz.ntmps135
 go_upto_region 1 with fail
 generalize am:World.alloc (World.alloc (World.alloc w _) _) _=W0;obtain⟨ak,av⟩:=zeN am;clear am;have ay:=ak.o.size;obtain⟨⟨xs0,xd0,xr0⟩,⟨s0,s1,s2,s3,s4,s5,s6⟩,⟨d0,d1,d2,d3,d4,d5,d6⟩,⟨r0,r1,r2,r3,r4,r5,r6⟩,rf,ls,ld,lr⟩:=ddF (av.o W0 Qb);obtain⟨b,off,hA,hb,lH⟩:=u9.o W0 (HS.o W0 ak.o);have hr:=HR.o;have ky:=zHi (sKids d.frm W0 (H.o W0 ak.o) HF.o);have cf:=HF.o.kids;have bp:(zaj s d.frm).length<=1000:=by
  unfold zaj;rw[List.length_map];exact Nat.le_trans (List.length_filter_le _ _) cf
 generalize zaj s d.frm=ks at*;rw[hA]at d4;go_upto_region 2 with fail
 cases cg:ks.any (zae tn);rotate_left 1
 ·have HE:Hid (R=(s,5)):=MeF;clear hr
  go_upto_region 3 with(first
   |(go_at_call 169
     go_must(refine(ky.o).mono ?_)
     rintro e w2 ⟨v2,rfl,o2,b2⟩;obtain⟨KA,kc,rfl,je,fZ⟩:=o2.sl zaB;have iA:=zHi je
     clear o2 je)
   |(go_at_call 168;go_must(refine(zd1 ks tn KA kc _ McS fZ iA.o).mono ?_);rintro e wq ⟨rfl,rfl⟩;rw[cg]))
  have bl:=b2;exact Mcd
 rw[cg,if_neg McV]at hr
 go_upto_region 6 with(first
  |(go_at_call 169
    go_must(refine(ky.o).mono ?_)
    rintro e w2 ⟨v2,rfl,o2,b2⟩;obtain⟨KA,kc,rfl,je,fZ⟩:=o2.sl zaB;have iA:=zHi je;obtain⟨_,_,xr2⟩:=av.o w2 b2
    clear o2 je)
  |(go_at_call 168;go_must(refine(zd1 ks tn KA kc _ McS fZ iA.o).mono ?_);rintro e wq ⟨rfl,rfl⟩;rw[cg]))
 have lD:=b2.size;have aN:=zHi b2;clear fZ iA b2 cg lH bp xr2;clear xs0 xd0 xr0 s0 s1 s2 s3 s4 s5 s6 d0 d1 d2 d3 d4 d5 d6 r0 r1 r2 r3 r4 r5 r6 rf ls ld lr;obtain⟨⟨xs0,xd0,xr0⟩,⟨s0,s1,s2,s3,s4,s5,s6⟩,⟨d0,d1,d2,d3,d4,d5,d6⟩,⟨r0,r1,r2,r3,r4,r5,r6⟩,rf,ls,ld,lr⟩:=ddF (av.o w2 (aN.o));have J8:=zHi (H.o w2 (ak.o.trans (aN.o.mono ay))).kids;go_loopw [7,8] (λn i wr=>∃k:Nat,k<=s.children.length/\i=.int .i64 k/\n=.int .i64 (zjn (s.children.take k) tn)/\w2=wr) (λ_ i _=>s.children.length-(intOf i).toNat)
 case atStart=>exact⟨0,Nat.zero_le _,rfl,rfl,rfl⟩
 case round=>
  obtain⟨k,hk,rfl,rfl,rfl⟩:=hrel;have xt:=chCnt_le (s.children.take k) tn;rw[List.length_take]at xt;have DG:zjn (s.children.take k) tn<=1000:=McS;by_cases ae:k<s.children.length
  ·have bC:=zpM (n:=tn) ae;generalize zjn (s.children.take k) tn=m at*;obtain⟨cb,co,mJ,lH,ah⟩:=J8.o.at ae;have aj:=zHi ae;generalize s.children[k]=y at*;obtain⟨y1,y2⟩:=y;simp only at bC;have i1:w2.cell? ⟨cb,co+k*2+1,none⟩=some (.string y2):=ah 1 _ rfl;have au:(k:Int)<(s.children.length:Int):=McS;have aR:(0:Int)<=(k:Int):=McS;rw[mJ]at s1;clear ah ae;cases hs:zae y2 tn
   ·have bi:(y2.toList==tn.toList)=false:=hs;have cM:Hid (zjn (s.children.take (k+1)) tn=m):=by show _=_;rw[bC,hs];rfl
    clear bC hs;go_wp2_with fail
    go_round
    case rel=>exact⟨k+1,aj.o,by go_num,by rw[cM.o],by first|exact True.intro|rfl⟩
    case measure=>have:=aj.o;simp only[intOf];omega
   ·have bi:(y2.toList==tn.toList)=true:=hs;have cM:Hid (zjn (s.children.take (k+1)) tn=m+1):=by show _=_;rw[bC,hs];rfl
    clear bC hs;go_wp2_with fail
    go_round
    case rel=>exact⟨k+1,aj.o,by go_num,by rw[cM.o];go_num,by first|exact True.intro|rfl⟩
    case measure=>have:=aj.o;simp only[intOf];omega
  ·have au:¬(k:Int)<(s.children.length:Int):=McS;rw[List.take_of_length_le McS]at*;have pD:(zbP s tn).length=zjn s.children tn:=List.length_map _;rw[pD]at hr;clear pD xt ae;generalize zjn s.children tn=m at*;by_cases hs:(2:Int)<=(m:Int)
   ·have HE:Hid (R=(s,16)):=by show _=_;rw[hr,if_pos (by simpa using(show 2<=m by omega))]
    clear hr;go_upto_region 11 with fail
    have bl:=aN.o;exact Mg
   rw[if_neg (by simpa using(show¬2<=m by omega))]at hr;have bK:=zHi hr;clear hr;go_upto_region 12 with fail
   clear hs DG au;have bZ:=zHi (λ(W:World) (h:Qa w2 W)=>(show W.cell? ⟨w.heap.size,0,none⟩=some (.slice LA laws.length c0)/\W.cell? ⟨w.heap.size,1,none⟩=some (.slice CA s.children.length c1)/\W.cell? ⟨w.heap.size,2,none⟩=some (.slice MA s.marriages.length c2)/\W.cell? ⟨w.heap.size,3,none⟩=some (.slice DA s.dead.length c3)/\W.cell? ⟨w.heap.size,4,none⟩=some (.slice WA wd.length c4)/\W.cell? ⟨w.heap.size,5,none⟩=some (.slice RA rd.length c5)/\W.cell? ⟨w.heap.size,6,none⟩=some (.slice GA s.graves.length c6)/\W.cell? ⟨w.heap.size+1,3,none⟩=some (.string d.frm) from⟨(zai h ls).trans s0,(zai h ls).trans s1,(zai h ls).trans s2,(zai h ls).trans s3,(zai h ls).trans s4,(zai h ls).trans s5,(zai h ls).trans s6,(zai h ld).trans d3⟩));clear xs0 xd0 xr0 s0 s1 s2 s3 s4 s5 s6 d0 d1 d2 d3 d4 d5 d6 r0 r1 r2 r3 r4 r5 r6 rf ls ld lr;have eW:=zHi (λW (hB:Qa w2 W)=>sDesc tn W (H.o W (ak.o.trans ((aN.o.trans (hB.mono lD)).mono ay))) HF.o);unfold DescR at eW
   refine za9 5 (λbb w'=>bb=true\/(w'.cell? ⟨w.heap.size,0,none⟩=some (.slice LA laws.length c0)/\w'.cell? ⟨w.heap.size,1,none⟩=some (.slice CA s.children.length c1)/\w'.cell? ⟨w.heap.size,2,none⟩=some (.slice MA s.marriages.length c2)/\w'.cell? ⟨w.heap.size,3,none⟩=some (.slice DA s.dead.length c3)/\w'.cell? ⟨w.heap.size,4,none⟩=some (.slice WA wd.length c4)/\w'.cell? ⟨w.heap.size,5,none⟩=some (.slice RA rd.length c5)/\w'.cell? ⟨w.heap.size,6,none⟩=some (.slice GA s.graves.length c6)/\w'.cell? ⟨w.heap.size+1,3,none⟩=some (.string d.frm))) McT (.inr (bZ.o _ (zaF Qb))) ?hrest
   case hrest=>
    intro hHeld;refine TkM 0 ?_;refine TkM 1 ?_;refine TkM 3 ?_;refine TkM 4 ?_;refine OnM 2 false λK hK=>?_
    go_simp
    refine(eW.o _ (zaF Qb)).mono ?_;rintro e w4 ⟨v4,ys,rfl,o4,bm,_,kp,b4⟩;obtain⟨YA,yc,rfl,pM,uR⟩:=o4.sl zaB;have aB:Qa w2 w4:=(zaF Qb).trans b4;obtain⟨rM,Bl⟩:=yH2 pM (any_desc (s:=s) (b:=d.frm) bm);refine NxM hK (λhHeld=>?_) (.inr (bZ.o _ aB));clear hK K;refine OnM 5 true λK hK=>?_
    go_simp
    refine(zd1 ys d.frm YA yc _ McS uR rM.o).mono ?_;rintro e wq ⟨rfl,rfl⟩;refine NxM hK λhHeld=>?_
    clear hK K;refine zaO McT ?_ _;clear hHeld o4 bm pM kp b4 uR eW bZ;have FO:=aB.size;have bD:=zHi (aN.o.trans (aB.mono lD));obtain⟨⟨xs0,xd0,xr0⟩,⟨s0,s1,s2,s3,s4,s5,s6⟩,⟨d0,d1,d2,d3,d4,d5,d6⟩,⟨r0,r1,r2,r3,r4,r5,r6⟩,rf,ls,ld,lr⟩:=ddF (av.o w4 (bD.o));by_cases iu:Desc s tn d.frm
    ·have HE:Hid (R=(s,25)):=by show _=_;rw[bK.o,if_pos (by simpa using iu)]
     have dY:ys.any (zae d.frm)=true:=Bl.o.2 iu;rw[dY];go_upto_region 13 with fail
     have bl:=bD.o;exact Mg
    have HE:Hid (R=({s with children:=s.children++[(d.frm,tn)]},0)):=by show _=_;rw[bK.o,if_neg (by simpa using iu)]
    have dY:ys.any (zae d.frm)=false:=by
     rw[Bool.eq_false_iff];exact λh=>iu (Bl.o.1 h)
    rw[dY];clear iu dY Bl bK;go_upto_region 14 with fail
    obtain⟨WX,kJ⟩:=Qd w4
    subst kJ;have eH:=bD.o.size;have bw:Hid (s.children.length=(s.children).length):=zHi rfl;have ub:Hid ((s.children).length<=1000):=zHi HF.o.kids;have bU:=zHi (λW (hB:Qa WX W)=>(H.o W (ak.o.trans ((bD.o.trans (hB.mono eH)).mono ay))).kids);have aJ:=zHi (λ(W:World) (h:Qa WX W)=>(show W.cell? ⟨w.heap.size,1,none⟩=some (.slice CA s.children.length c1)/\W.cell? ⟨w.heap.size+1,3,none⟩=some (.string d.frm) from⟨(zai h ls).trans s1,(zai h ld).trans d3⟩));go_cut [5]from 48 to 59 (λv wc=>v=.int .i64 0/\∃V c',wc.heap[w.heap.size]?=some (.cells #[.slice LA laws.length c0,.slice V (s.children.length+1) c',.slice MA s.marriages.length c2,.slice DA s.dead.length c3,.slice WA wd.length c4,.slice RA rd.length c5,.slice GA s.graves.length c6] 86)/\wc.heap[w.heap.size+2]?=some (.cells #[.slice none 0 0,.slice none 0 0,.slice none 0 0,.slice none 0 0,.slice none 0 0,.slice none 0 0,.slice none 0 0] 86)/\Ro wc 126 zaW V (s.children++[(d.frm,tn)])/\Qa w wc)
    case first=>
     refine za9 9 (λbb w'=>bb=true\/(w'.cell? ⟨w.heap.size,1,none⟩=some (.slice CA s.children.length c1)/\w'.cell? ⟨w.heap.size+1,3,none⟩=some (.string d.frm))) McT (.inr (aJ.o _ (zaF Qb))) ?hrest
     case hrest=>
      intro hHeld;clear xs0 xd0 xr0 s0 s1 s2 s3 s4 s5 s6 d0 d1 d2 d3 d4 d5 d6 r0 r1 r2 r3 r4 r5 r6 rf ls ld lr;refine TkM 1 ?_;refine TkM 2 ?_;refine TkM 4 ?_;refine TkM 5 ?_;refine TkM 6 ?_;refine TkM 7 ?_;refine TwM 0 8 (λK hK=>?_) λK hK=>?_
      ·go_simp
       have e0:Qa WX (WX.drew.alloc (.cells #[] 126)):=zad (zaF Qb) _;have m0:OwnS (WX.drew.alloc (.cells #[] 126)) WX.heap.size 126 2 zaW (.slice (some ⟨WX.heap.size,0,none⟩) 0 0) []:=zdX zbk WX.drew WX.heap.size Qc;refine NxM hK (λhHeld=>?_) (.inr (aJ.o _ e0));clear hK K;refine TwM 3 8 (λK hK=>?_) λK hK=>?_
       ·refine zap (v:=.slice (some ⟨WX.heap.size,0,none⟩) 0 0) (n:=0) (m:=s.children.length) rfl _ _ rfl zgr zbk zdD rfl (xs:=[]) (ys:=s.children) (m0) rfl rfl bw.o (bU.o _ e0) Mc0 Mdc Mc4 ?_;intro v4 w4 h1 h2 h3;rw[List.nil_append]at h1;obtain⟨V4,c4',be,_,_⟩:=h1.sl zbk;rw[<-bw.o]at be;subst be;have aB:Qa WX w4:=Below.grown e0 h2 MdP (λj hj=>by simp[za4]at hj;omega);refine NxM hK (λhHeld=>?_) (.inr (aJ.o _ aB));clear hK K;refine OnM 8 false λK hK=>?_
        go_simp
        have e1:Qa WX (w4.alloc (.cells #[.string d.frm,.string tn] 126)):=zad aB _;have n1:(w4.alloc (.cells #[.string d.frm,.string tn] 126)).heap[w4.heap.size]?=some (.cells #[.string d.frm,.string tn] 126):=zas _ _ _ rfl;have o1:OwnS (w4.alloc (.cells #[.string d.frm,.string tn] 126)) WX.heap.size 126 2 zaW (.slice V4 s.children.length c4') s.children:=h1.keep (n:=w4.heap.size) (zad Qb _);refine NxM hK (λhHeld=>?_) (.inr (aJ.o _ e1));clear hK K;have o9:=o1;have n9:=n1;have e9:=e1;exact Mn
       ·go_simp
        have e1:Qa WX ((WX.drew.alloc (.cells #[] 126)).alloc (.cells #[.string d.frm,.string tn] 126)):=zad e0 _;have n1:((WX.drew.alloc (.cells #[] 126)).alloc (.cells #[.string d.frm,.string tn] 126)).heap[WX.heap.size+1]?=some (.cells #[.string d.frm,.string tn] 126):=zas _ _ _ McV;have m1:OwnS ((WX.drew.alloc (.cells #[] 126)).alloc (.cells #[.string d.frm,.string tn] 126)) WX.heap.size 126 2 zaW (.slice (some ⟨WX.heap.size,0,none⟩) 0 0) []:=m0.keep (n:=(WX.drew.alloc (.cells #[] 126)).heap.size) (zad Qb _);refine NxM hK (λhHeld=>?_) (.inr (aJ.o _ e1));clear hK K;refine OnM 3 false λK hK=>?_
        refine zap (v:=.slice (some ⟨WX.heap.size,0,none⟩) 0 0) (n:=0) (m:=s.children.length) rfl _ _ rfl zgr zbk zdD rfl (xs:=[]) (ys:=s.children) (m1) rfl rfl bw.o (bU.o _ e1) Mc0 Mdc McZ ?_;intro v4 w4 h1 h2 h3;rw[List.nil_append]at h1;obtain⟨V4,c4',be,_,_⟩:=h1.sl zbk;rw[<-bw.o]at be;subst be;have aB:Qa WX w4:=Below.grown e1 h2 Mde (λj hj=>by simp[za4]at hj;omega);have n2:w4.heap[WX.heap.size+1]?=some (.cells #[.string d.frm,.string tn] 126):=(h2.block _ Mda MdI).trans n1;exact Mcy
      ·go_simp
       have e0:Qa WX (WX.drew.alloc (.cells #[.string d.frm,.string tn] 126)):=zad (zaF Qb) _;have n0:(WX.drew.alloc (.cells #[.string d.frm,.string tn] 126)).heap[WX.heap.size]?=some (.cells #[.string d.frm,.string tn] 126):=zas _ _ _ rfl;refine NxM hK (λhHeld=>?_) (.inr (aJ.o _ e0));clear hK K;refine OnM 0 false λK hK=>?_
       go_simp
       have e1:Qa WX ((WX.drew.alloc (.cells #[.string d.frm,.string tn] 126)).alloc (.cells #[] 126)):=zad e0 _;have n1:((WX.drew.alloc (.cells #[.string d.frm,.string tn] 126)).alloc (.cells #[] 126)).heap[WX.heap.size]?=some (.cells #[.string d.frm,.string tn] 126):=zal n0;have m1:OwnS ((WX.drew.alloc (.cells #[.string d.frm,.string tn] 126)).alloc (.cells #[] 126)) WX.heap.size 126 2 zaW (.slice (some ⟨WX.heap.size+1,0,none⟩) 0 0) []:=by
        exact Mbu
       refine NxM hK (λhHeld=>?_) (.inr (aJ.o _ e1));clear hK K;refine OnM 3 false λK hK=>?_
       refine zap (v:=.slice (some ⟨WX.heap.size+1,0,none⟩) 0 0) (n:=0) (m:=s.children.length) rfl _ _ rfl zgr zbk zdD rfl (xs:=[]) (ys:=s.children) (m1) rfl rfl bw.o (bU.o _ e1) Mc0 Mdc McZ ?_;intro v4 w4 h1 h2 h3;rw[List.nil_append]at h1;obtain⟨V4,c4',be,_,_⟩:=h1.sl zbk;rw[<-bw.o]at be;subst be;have aB:Qa WX w4:=Below.grown e1 h2 Mde (λj hj=>by simp[za4]at hj;omega);have n2:w4.heap[WX.heap.size]?=some (.cells #[.string d.frm,.string tn] 126):=(h2.block _ Mda MdI).trans n1;exact Mcy
    case rest=>
     obtain⟨rfl,V,c',dQ,cx,ej,oQ⟩:=hcut;clear xs0 xd0 xr0 s0 s1 s2 s3 s4 s5 s6 d0 d1 d2 d3 d4 d5 d6 r0 r1 r2 r3 r4 r5 r6 rf ls ld lr;obtain⟨s0,s1,s2,s3,s4,s5,s6⟩:=zaG dQ;obtain⟨r0,r1,r2,r3,r4,r5,r6⟩:=zaG cx;have rf:=frz cx;have ls:=zab dQ;have lr:=zab cx;go_wp2_with fail
     rw[HE.o];have cC:=zcC (a0:=.slice LA laws.length c0) (a1:=.slice V (s.children.length+1) c') (a2:=.slice MA s.marriages.length c2) (a3:=.slice DA s.dead.length c3) (a4:=.slice WA wd.length c4) (a5:=.slice RA rd.length c5) (a6:=.slice GA s.graves.length c6) oQ (show w.heap.size<=w.heap.size+2 by omega);refine bodyPost_ret (zbB rfl _ rfl rfl (zc0 cx)) rfl ?_;have h':=H.o _ cC;exact⟨_,_,_,_,_,_,_,rfl,rfl,cC,λ_=>⟨wd,rd,LA,V,MA,DA,WA,RA,GA,c0,c',c2,c3,c4,c5,c6,rfl,by rw[List.length_append];rfl,rfl,rfl,rfl,rfl,rfl,⟨h'.laws,(zjm ej cx McU).sl zbk,h'.marr,h'.dead,h'.wills,h'.ren,h'.graves,h'.deadc⟩,⟨HK.o.wills,HK.o.shares,HK.o.ren,HK.o.tos⟩⟩⟩

import Derived.Test.YtbobmplpdmplkaaGreatDoorXM
set_option linter.all false
set_option maxRecDepth 100000
set_option maxHeartbeats 4000000
namespace Go.Proofs.YtbobmplpdmplkaaGreatDoor
open Go.RowKit Go.Shelf
attribute [local go_sem] World.cell?_alloc_mark zaf za4 zam za7 zaw zax zay zaz za0 za1 za2
attribute [local go_sem] zan zac
structure GrSt (out l:Parts):Prop where
 good:GoodParts out
 isN:∀p∈out,IsN 720720 p.2
 le:sumQ out+sumQ l<=1
 pos:∀p∈l,0<=p.2
 lN:∀p∈l,IsN 720720 p.2
theorem GrSt.parts{out l:Parts}(h:GrSt out l):∀p∈out,zaI p.2:=by
 have h1:0<=sumQ l:=zbr h.pos;exact fun p hp=>(zdF (hs:=out) ⟨h.good,zc6 McA McA h.isN,by have:=h.le;grind⟩ hp).2.2
theorem GrSt.next{out l:Parts}{n:ByteArray}{q:Rat}(h:GrSt out ((n,q)::l)):GrSt (za3 out n q) l:=by
 have hq:=h.pos (n,q) McB;have bI:=h.le;rw[sumQ]at bI;exact⟨zbx hq h.good,zcG (h.lN (n,q) McB) h.isN,by rw[zbV];grind,fun p hp=>h.pos p Mdw,fun p hp=>h.lN p Mdw⟩
theorem GrSt.small{out l:Parts}{n:ByteArray}{q:Rat}(h:GrSt out ((n,q)::l)):zaI q:=by
 have hq:=h.pos (n,q) McB;have bI:=h.le;rw[sumQ]at bI;have h1:0<=sumQ l:=zbr fun p hp=>h.pos p Mdw
 have h2:0<=sumQ out:=zbr fun p hp=>by have:=h.good.pos p hp;grind
 simp only at hq bI;exact zc9 McA McA (h.lN (n,q) McB) hq Mc0
theorem sl_grave{W:World}{b:Nat}{t:TypeId}{fr:Nat×Nat}(x:GX)(h:W.heap[b]?=some (.cells #[.string x.g.place,.int .i64 x.g.cls,.int .i64 x.g.fin,.slice x.H x.g.holders.length x.hc,.slice x.D x.g.died.length x.dc] t fr)):Sl W 5 GX.cells (some ⟨b,0,none⟩) [x]:=
 zi7 zcU h (by simp[GX.cells])
theorem zpw(laws:List Law)(s:St)(wd rd:List Deed)(LA CA MA DA WA RA GA:Option Addr)(c0 c1 c2 c3 c4 c5 c6:Nat)(d:Deed)(B:Option Addr)(c:Nat)(w:World)(h:StIn w laws s wd rd LA CA MA DA WA RA GA c0 c1 c2 c3 c4 c5 c6)(hk:StLink s wd rd)(hf:StFew s wd rd)(hd:OkD d)(hS:Sl w 3 RPart.cells B d.to)(bS:d.kind=0):Calls Tryz.prog 140 #[.agg #[.slice LA laws.length c0,.slice CA s.children.length c1,.slice MA s.marriages.length c2,.slice DA s.dead.length c3,.slice WA wd.length c4,.slice RA rd.length c5,.slice GA s.graves.length c6],d.v B c] w (zfE w laws (zcO s d)):=by
 obtain⟨R,hR⟩:∃R,R=zcO s d:=⟨_,rfl⟩
 rw[<-hR];have jE:=zHi (zdW (hd.parts (.inl bS)).2);have bu:=hd.len;obtain⟨gxs,hm,bE,bv⟩:=gx_of h.graves;obtain⟨HM,dG,AE⟩:=yH3 hm bE bv;unfold zcO at hR;clear bS hm bE bv;obtain⟨H,HK,HF,HD,HS,HR⟩:=yH6 (fun W (hB:Below w.heap.size w W)=>h.keep hB) hk hf hd (fun W (hB:Below w.heap.size w W)=>hS.keep hB) hR;unfold Deed.v;clear h hk hf hd hS hR;go_enter Tryz.func140,Tryz.ntmps140
 go_upto_region 1 with fail
 generalize am:World.alloc (World.alloc (World.alloc w _) _) _=W0;obtain⟨aj,av⟩:=zeI am;clear am;have aw:=aj.o.size;obtain⟨⟨xs0,xd0,xr0⟩,⟨s0,s1,s2,s3,s4,s5,s6⟩,⟨d0,d1,d2,d3,d4,d5,d6⟩,⟨r0,r1,r2,r3,r4,r5,r6⟩,rf,ls,ld,lr⟩:=ddF (av.o W0 (Below.refl _ _));have ej:=zHi (fun W (hB:Below W0.heap.size W0 W)=>zml d.place d.day W (H.o W (aj.o.trans (hB.mono aw))) HF.o);have iU:=zHi (fun W (hB:Below W0.heap.size W0 W)=>zmm d.to B c W (H.o W (aj.o.trans (hB.mono aw))) HF.o Mcy (HS.o W (aj.o.trans (hB.mono aw))));have hr:=HR.o;cases aO:zaR s d.place d.day with
 |some i=>
  rw[aO]at hr;rw[zex aO]at ej;have fm:(0:Int)<=(i:Int):=Mcy;have HE:Hid (R=(s,13)):=zHi hr;clear hr aO;go_upto_region 2 with(go_at_call 42;go_must(refine(ej.o _ (Below.refl _ _)).mono ?_);rintro e wq ⟨rfl,z,rfl⟩)
  have bm:=zaq W0 z;exact Mb1
 |none=>
  rw[aO]at hr;rw[ziZ aO]at ej;simp only[Option.isSome_none,Bool.false_eq_true,if_false]at hr;cases eR:zdU s d.to;rotate_left 1
  ·have HE:Hid (R=(s,28)):=by show _=_;rw[hr,eR];rfl
   rw[eR]at iU;clear hr aO eR
   go_upto_region 4 with(first
    |(go_at_call 42;go_must(refine(ej.o _ (Below.refl _ _)).mono ?_);rintro e wq ⟨rfl,z,rfl⟩)
    |(go_at_call 164;go_must(refine(iU.o _ Bw).mono ?_);rintro e wq ⟨rfl,z3,rfl⟩))
   have bm:Below W0.heap.size W0 ((W0.ext z).ext z3):=zbv (zaq _ _) _;have bm:=bm;exact Mb1
  rw[eR,if_neg McB]at hr;rw[eR]at iU;have Aj:=zHi (fun W=>zjR d.day d.years W HD.o.day.1 HD.o.day.2 HD.o.years.1 HD.o.years.2);generalize zcd d.day d.years=af at*;have bF:=zHi hr;clear hr aO eR
  go_upto_region 6 with(first
   |(go_at_call 42;go_must(refine(ej.o _ (Below.refl _ _)).mono ?_);rintro e wq ⟨rfl,z,rfl⟩)
   |(go_at_call 164;go_must(refine(iU.o _ Bw).mono ?_);rintro e wq ⟨rfl,z3,rfl⟩))
  obtain⟨GB,j8⟩:∃GB,GB=W0.heap.size+z.os.size+z3.os.size:=⟨_,rfl⟩
  obtain⟨W1,aT⟩:∃W1,W1=((W0.ext z).ext z3).alloc (.cells #[.string d.place,.int .i64 d.cls,.int .i64 (-1),.slice none 0 0,.slice none 0 0] 100):=⟨_,rfl⟩
  have gG:W1.heap[GB]?=some (.cells #[.string d.place,.int .i64 d.cls,.int .i64 (-1),.slice none 0 0,.slice none 0 0] 100):=by rw[aT];exact zar _ _ _ (by rw[j8];simp[zaf])
  have aS:Below W0.heap.size W0 W1:=by rw[aT];exact zad (zbv (zaq _ _) _) _
  have iG:W0.heap.size<=GB:=Mcy;rw[<-aT,<-j8];clear aT j8 ej iU;clear xs0 xd0 xr0 s0 s1 s2 s3 s4 s5 s6 d0 d1 d2 d3 d4 d5 d6 r0 r1 r2 r3 r4 r5 r6 rf ls ld lr;obtain⟨g0,g1,g2,g3,g4⟩:=zea gG;have gf:=frz gG;have gl:=zab gG;obtain⟨GG,aA⟩:=yH2 gG aS;clear gG aS;obtain⟨⟨xs0,xd0,xr0⟩,⟨s0,s1,s2,s3,s4,s5,s6⟩,⟨d0,d1,d2,d3,d4,d5,d6⟩,⟨r0,r1,r2,r3,r4,r5,r6⟩,rf,ls,ld,lr⟩:=ddF (av.o W1 (aA.o));go_upto_if 28 with fail
  go_cut [5]from 26 to 39 (fun v wc=>v=v/\∃fin:Int,Hid (R=({s with graves:=s.graves++[⟨d.place,d.cls,fin,zbc d.to [],[]⟩]},0))/\wc.heap[GB]?=some (.cells #[.string d.place,.int .i64 d.cls,.int .i64 (fin),.slice none 0 0,.slice none 0 0] 100)/\Below W0.heap.size W0 wc)
  case first=>
   by_cases hy:0<d.years
   ·have hr:=bF.o;have CD:decide (0<d.years)=true:=by simpa using hy
    rw[CD]at hr;simp only[Bool.true_and,if_true]at hr;go_upto_region 8 with(go_at_call 165;go_must(refine(Aj.o _).mono ?_);rintro e wq ⟨rfl,z5,rfl⟩)
    obtain⟨W2,bP⟩:∃W2,W2=(W1.setCell ⟨GB,2,none⟩ (.int .i64 af)).ext z5:=⟨_,rfl⟩
    have gG2:W2.heap[GB]?=some (.cells #[.string d.place,.int .i64 d.cls,.int .i64 (af),.slice none 0 0,.slice none 0 0] 100):=by
     rw[bP];exact Mbw
    have bG:Below W0.heap.size W0 W2:=by rw[bP];exact zbv (zaP aA.o iG _) z5
    rw[<-bP];clear bP g0 g1 g2 g3 g4 gf gl;clear xs0 xd0 xr0 s0 s1 s2 s3 s4 s5 s6 d0 d1 d2 d3 d4 d5 d6 r0 r1 r2 r3 r4 r5 r6 rf ls ld lr;obtain⟨g0,g1,g2,g3,g4⟩:=zea gG2;have gl:=zab gG2;obtain⟨aJ,G2⟩:=yH2 bG gG2;clear bG gG2;obtain⟨⟨xs0,xd0,xr0⟩,⟨s0,s1,s2,s3,s4,s5,s6⟩,⟨d0,d1,d2,d3,d4,d5,d6⟩,⟨r0,r1,r2,r3,r4,r5,r6⟩,rf,ls,ld,lr⟩:=ddF (av.o W2 (aJ.o));by_cases oz:af<0
    ·have HE:Hid (R=(s,2)):=by show _=_;rw[hr,if_pos (by simpa using oz)]
     clear hr;go_upto_region 9 with fail
     have bm:=aJ.o;exact Mg
    ·have HE:Hid (R=({s with graves:=s.graves++[⟨d.place,d.cls,af,zbc d.to [],[]⟩]},0)):=by show _=_;rw[hr,if_neg (by simpa using oz)]
     clear hr;go_wp2_with fail
     go_meet
     exact⟨by first|rfl|trivial,af,HE,G2.o,aJ.o⟩
   ·have hr:=bF.o;have CD:decide (0<d.years)=false:=by simpa using hy
    rw[CD]at hr;simp only[Bool.false_and,Bool.false_eq_true,if_false]at hr;have HE:=zHi hr;clear hr;go_wp2_with fail
    go_meet
    exact⟨by first|rfl|trivial,-1,HE,GG.o,aA.o⟩
  case rest=>
   obtain⟨_,fin,HE,gG2,bG⟩:=hcut;obtain⟨W2,bP⟩:∃W2,W2=wc:=⟨_,rfl⟩
   subst bP;have aJ:=zHi bG;have kT:=bG.size;have gH:=zHi gG2
   have oV:GrSt [] (zao d.to):=⟨⟨List.Pairwise.nil,by simp⟩,by simp,by show(0:Rat)+_<=1;have:=jE.o.2.1;grind,fun p hp=>by
    obtain⟨q,hq,rfl⟩:=List.mem_map.1 hp;have:=(jE.o.1 q hq).1;show 0<=q.rat;grind,fun p hp=>by
    obtain⟨q,hq,rfl⟩:=List.mem_map.1 hp
    exact(jE.o.1 q hq).2.1⟩
   have Bm:=zHi oV;clear g0 g1 g2 g3 g4 gf gl bG gG2 oV;clear xs0 xd0 xr0 s0 s1 s2 s3 s4 s5 s6 d0 d1 d2 d3 d4 d5 d6 r0 r1 r2 r3 r4 r5 r6 rf ls ld lr;go_upto_region 11 with fail
   go_loopw [7] (fun n wr=>∃(k:Nat) (out:Parts) (VA:Option Addr) (vc:Nat),k<=d.to.length/\n=.int .i64 k/\Hid (R=({s with graves:=s.graves++[⟨d.place,d.cls,fin,zbc (d.to.drop k) out,[]⟩]},0))/\Hid (GrSt out (zao (d.to.drop k)))/\out.length<=k/\OwnS wr W0.heap.size 71 3 zaa (.slice VA out.length vc) out/\wr.heap[GB]?=some (.cells #[.string d.place,.int .i64 d.cls,.int .i64 (fin),.slice VA out.length vc,.slice none 0 0] 100)/\Below W0.heap.size W0 wr) (fun n _=>d.to.length-(intOf n).toNat)
   case atStart=>exact⟨0,[],none,0,Nat.zero_le _,rfl,HE,Bm,Nat.le_refl _,OwnS.nil,gH.o,aJ.o⟩
   case round=>
    obtain⟨k,out,VA,vc,hk,rfl,HX,HG,kp,aa,io,cv⟩:=hrel;have ue:=cv.size;obtain⟨g0,g1,g2,g3,g4⟩:=zea io;have gl:=zab io;obtain⟨bw,HO,eb⟩:=yH3 cv aa io;obtain⟨⟨xs0,xd0,xr0⟩,⟨s0,s1,s2,s3,s4,s5,s6⟩,⟨d0,d1,d2,d3,d4,d5,d6⟩,⟨r0,r1,r2,r3,r4,r5,r6⟩,rf,ls,ld,lr⟩:=ddF (av.o wr (cv));have vn:=zHi (HS.o wr (aj.o.trans (cv.mono aw)));by_cases ae:k<d.to.length
    ·obtain⟨b,off,hA,hb,ah⟩:=vn.o.at ae;have hx:=HX.o;have aq:=HG.o;have gy:d.to.drop k=d.to[k]::d.to.drop (k+1):=List.drop_eq_getElem_cons ae;rw[gy]at hx aq;have bA:=(jE.o.1 _ (List.getElem_mem ae)).2.2;have ak:=zHi ae;clear gy;generalize d.to[k]=y at*;obtain⟨nm,nu,de⟩:=y;have eE:R=({s with graves:=s.graves++[⟨d.place,d.cls,fin,zbc (d.to.drop (k+1)) (za3 out nm (Rat.divInt nu de)),[]⟩]},0):=hx;have d8:GrSt out ((nm,Rat.divInt nu de)::zao (d.to.drop (k+1))):=aq;simp only at bA;have i0:wr.cell? ⟨b,off+k*3,none⟩=some (.string nm):=ah 0 _ rfl;have i1:wr.cell? ⟨b,off+k*3+1,none⟩=some (.int .i64 nu):=ah 1 _ rfl;have i2:wr.cell? ⟨b,off+k*3+2,none⟩=some (.int .i64 de):=ah 2 _ rfl;have ar:(k:Int)<(d.to.length:Int):=Mcy;have aQ:(0:Int)<=(k:Int):=Mcy;obtain⟨r1,r2,r3,r4⟩:=zbm bA;have eo:=zHi (fun W (hW:Below wr.heap.size wr W)=>zcT out nm (Rat.divInt nu de) VA vc W Mcy d8.parts d8.small (ziO zap (HO.o.keep hW)).1);unfold zaA at eo;rw[r1,r2]at eo;obtain⟨jV,au⟩:=yH2 d8.next eE;have cz:=zcx nm (Rat.divInt nu de) out;rw[hA]at d4
     have aE:=zHi (fun(W:World) (h:Below wr.heap.size wr W)=>(show W.cell? ⟨w.heap.size+1,4,none⟩=some (.slice (some ⟨b,off,none⟩) d.to.length c)/\W.cell? ⟨GB,3,none⟩=some (.slice VA out.length vc)/\W.cell? ⟨b,off+k*3,none⟩=some (.string nm)/\W.cell? ⟨b,off+k*3+1,none⟩=some (.int .i64 nu)/\W.cell? ⟨b,off+k*3+2,none⟩=some (.int .i64 de) from⟨(zah h ld).trans d4,(zah h gl).trans g3,(zah h hb).trans i0,(zah h hb).trans i1,(zah h hb).trans i2⟩));clear ah hx aq eE d8 bA ae r1 r2 r3 r4 aa io hA;generalize za3 out nm (Rat.divInt nu de)=out1 at*;go_upto_region 13 with fail
     refine zaB 14 (fun bb w'=>bb=true\/(w'.cell? ⟨w.heap.size+1,4,none⟩=some (.slice (some ⟨b,off,none⟩) d.to.length c)/\w'.cell? ⟨GB,3,none⟩=some (.slice VA out.length vc)/\w'.cell? ⟨b,off+k*3,none⟩=some (.string nm)/\w'.cell? ⟨b,off+k*3+1,none⟩=some (.int .i64 nu)/\w'.cell? ⟨b,off+k*3+2,none⟩=some (.int .i64 de))) Mcz (.inr (aE.o _ (zaK (Below.refl _ _)))) ?hrest
     case hrest=>
      intro hHeld;clear g0 g1 g2 g3 g4 i0 i1 i2;clear xs0 xd0 xr0 s0 s1 s2 s3 s4 s5 s6 d0 d1 d2 d3 d4 d5 d6 r0 r1 r2 r3 r4 r5 r6 rf ls ld lr;refine TkM 0 ?_;refine TkM 1 ?_;refine TkM 2 ?_;refine TkM 3 ?_;refine TkM 4 ?_;refine TkM 5 ?_;refine TkM 6 ?_;refine TkM 7 ?_;refine TkM 8 ?_;refine TkM 9 ?_;refine TkM 10 ?_;refine TkM 11 ?_;refine TkM 12 ?_;refine TkM 13 ?_;refine OnM 14 true fun K hK=>?_
      go_simp
      refine(eo.o _ (zaK (Below.refl _ _))).mono ?_;rintro e w5 ⟨v5,rfl,o5,b5⟩;obtain⟨YA,yc,rfl,_,_⟩:=o5.sl zap;have ao:Below wr.heap.size wr w5:=(zaK (Below.refl _ _)).trans b5;have g5:=(ao.block GB gl).trans eb.o;refine NxM hK fun hHeld=>?_
      clear hK K;refine OnM 15 true fun K hK=>?_
      go_simp
      refine NxM hK fun hHeld=>?_
      clear hK K;obtain⟨g0,g1,g2,g3,g4⟩:=zea g5;have gf:=frz g5;have gl5:=zab g5;refine OnM 16 true fun K hK=>?_
      go_simp
      refine NxM hK fun hHeld=>?_
      clear hK K;refine zaM Mcz ?_ _;obtain⟨O5,G5,aR⟩:=yH3 (o5.base_le (show W0.heap.size<=wr.drew.heap.size by show W0.heap.size<=wr.heap.size;omega)) g5 (bw.o.trans (ao.mono ue));clear hHeld g0 g1 g2 g3 g4 gf gl5 g5 o5 b5 ao;go_wp2_with fail
      go_round
      case rel=>
       refine⟨k+1,out1,YA,yc,ak.o,by go_num,au,jV,by omega,O5.o.kept (zav _ _ _ _) G5.o McA,?_,zaP aR.o iG _⟩;have:=Joins.block_setCell (i:=3) G5.o (.slice YA out1.length yc);simpa using this
      case measure=>have:=ak.o;simp only[intOf];omega
    ·have ar:¬(k:Int)<(d.to.length:Int):=Mcy;have hx:=HX.o;rw[List.drop_of_length_le Mcy]at hx;have uC:Hid (R=({s with graves:=s.graves++[⟨d.place,d.cls,fin,out,[]⟩]},0)):=Mea;have Kg:=HF.o.graves;clear hx ae aa io;go_upto_region 14 with fail
     clear ar;obtain⟨WX,kg⟩:∃WX,WX=wr:=⟨_,rfl⟩
     subst kg;have f9:=bw.o.size;have bo:Hid (s.graves.length=(gxs).length):=zHi (by rw[<-HM.o,List.length_map]);have tt:Hid ((gxs).length<=1000):=zHi (by rw[<-bo.o];exact HF.o.graves);have bZ:=zHi (fun W (hB:Below WX.heap.size WX W)=>AE.o.keep (aj.o.trans ((bw.o.trans (hB.mono f9)).mono aw)));have aE:=zHi (fun(W:World) (h:Below WX.heap.size WX W)=>(show W.cell? ⟨w.heap.size,6,none⟩=some (.slice GA s.graves.length c6)/\W.cell? ⟨GB,0,none⟩=some (.string d.place)/\W.cell? ⟨GB,1,none⟩=some (.int .i64 d.cls)/\W.cell? ⟨GB,2,none⟩=some (.int .i64 fin)/\W.cell? ⟨GB,3,none⟩=some (.slice VA out.length vc)/\W.cell? ⟨GB,4,none⟩=some (.slice none 0 0) from⟨(zah h ls).trans s6,(zah h gl).trans g0,(zah h gl).trans g1,(zah h gl).trans g2,(zah h gl).trans g3,(zah h gl).trans g4⟩));clear g0 g1 g2 g3 g4;go_cut [5]from 62 to 70 (fun v wc=>(v=v/\∃V c',wc.heap[w.heap.size]?=some (.cells #[.slice LA laws.length c0,.slice CA s.children.length c1,.slice MA s.marriages.length c2,.slice DA s.dead.length c3,.slice WA wd.length c4,.slice RA rd.length c5,.slice V (s.graves.length+1) c'] 44)/\wc.heap[w.heap.size+2]?=some (.cells #[.slice none 0 0,.slice none 0 0,.slice none 0 0,.slice none 0 0,.slice none 0 0,.slice none 0 0,.slice none 0 0] 44)/\Ro wc 100 GX.cells V (gxs++[(⟨⟨d.place,d.cls,fin,out,[]⟩,VA,vc,none,0⟩:GX)])/\Below w.heap.size w wc)/\Ro wc 71 zaa VA out)
     case first=>
      refine zaB 6 (fun bb w'=>bb=true\/(w'.cell? ⟨w.heap.size,6,none⟩=some (.slice GA s.graves.length c6)/\w'.cell? ⟨GB,0,none⟩=some (.string d.place)/\w'.cell? ⟨GB,1,none⟩=some (.int .i64 d.cls)/\w'.cell? ⟨GB,2,none⟩=some (.int .i64 fin)/\w'.cell? ⟨GB,3,none⟩=some (.slice VA out.length vc)/\w'.cell? ⟨GB,4,none⟩=some (.slice none 0 0))) Mcz (.inr (aE.o _ (zaK (Below.refl _ _)))) ?hrest
      case hrest=>
       intro hHeld;clear xs0 xd0 xr0 s0 s1 s2 s3 s4 s5 s6 d0 d1 d2 d3 d4 d5 d6 r0 r1 r2 r3 r4 r5 r6 rf ls ld lr;refine TkM 1 ?_;refine TkM 2 ?_;refine TkM 4 ?_;refine TwM 0 5 (fun K hK=>?_) fun K hK=>?_
       ·go_simp
        have e0:Below WX.heap.size WX (WX.drew.alloc (.cells #[] 100)):=zad (zaK (Below.refl _ _)) _;have m0:OwnS (WX.drew.alloc (.cells #[] 100)) WX.heap.size 100 5 GX.cells (.slice (some ⟨WX.heap.size,0,none⟩) 0 0) []:=zdS zcU WX.drew WX.heap.size (Nat.le_refl _);refine NxM hK (fun hHeld=>?_) (.inr (aE.o _ e0));clear hK K;refine TwM 3 5 (fun K hK=>?_) fun K hK=>?_
        ·refine zak (v:=.slice (some ⟨WX.heap.size,0,none⟩) 0 0) (n:=0) (m:=s.graves.length) rfl _ _ rfl zhi zcU zjT rfl (xs:=[]) (ys:=gxs) (m0) rfl rfl bo.o (bZ.o _ e0) McG McR McJ ?_;intro v4 w4 h1 h2 h3;rw[List.nil_append]at h1;obtain⟨V4,c4',aX,_,_⟩:=h1.sl zcU;rw[<-bo.o]at aX;subst aX;have aC:Below WX.heap.size WX w4:=Below.grown e0 h2 Mdv (fun j hj=>by simp[za5]at hj;omega);refine NxM hK (fun hHeld=>?_) (.inr (aE.o _ aC));clear hK K;refine OnM 5 false fun K hK=>?_
         go_simp
         have e1:Below WX.heap.size WX (w4.alloc (.cells #[.string d.place,.int .i64 d.cls,.int .i64 fin,.slice VA out.length vc,.slice none 0 0] 100)):=zad aC _;have n1:(w4.alloc (.cells #[.string d.place,.int .i64 d.cls,.int .i64 fin,.slice VA out.length vc,.slice none 0 0] 100)).heap[w4.heap.size]?=some (.cells #[.string d.place,.int .i64 d.cls,.int .i64 fin,.slice VA out.length vc,.slice none 0 0] 100):=zar _ _ _ rfl;have o1:OwnS (w4.alloc (.cells #[.string d.place,.int .i64 d.cls,.int .i64 fin,.slice VA out.length vc,.slice none 0 0] 100)) WX.heap.size 100 5 GX.cells (.slice V4 s.graves.length c4') gxs:=h1.keep (n:=w4.heap.size) (zad (Below.refl _ _) _);refine NxM hK (fun hHeld=>?_) (.inr (aE.o _ e1));clear hK K;have o9:=o1;have n9:=n1;have e9:=e1;exact Mk
        ·go_simp
         have e1:Below WX.heap.size WX ((WX.drew.alloc (.cells #[] 100)).alloc (.cells #[.string d.place,.int .i64 d.cls,.int .i64 fin,.slice VA out.length vc,.slice none 0 0] 100)):=zad e0 _;have n1:((WX.drew.alloc (.cells #[] 100)).alloc (.cells #[.string d.place,.int .i64 d.cls,.int .i64 fin,.slice VA out.length vc,.slice none 0 0] 100)).heap[WX.heap.size+1]?=some (.cells #[.string d.place,.int .i64 d.cls,.int .i64 fin,.slice VA out.length vc,.slice none 0 0] 100):=zar _ _ _ McB;have m1:OwnS ((WX.drew.alloc (.cells #[] 100)).alloc (.cells #[.string d.place,.int .i64 d.cls,.int .i64 fin,.slice VA out.length vc,.slice none 0 0] 100)) WX.heap.size 100 5 GX.cells (.slice (some ⟨WX.heap.size,0,none⟩) 0 0) []:=m0.keep (n:=(WX.drew.alloc (.cells #[] 100)).heap.size) (zad (Below.refl _ _) _);refine NxM hK (fun hHeld=>?_) (.inr (aE.o _ e1));clear hK K;refine OnM 3 false fun K hK=>?_
         refine zak (v:=.slice (some ⟨WX.heap.size,0,none⟩) 0 0) (n:=0) (m:=s.graves.length) rfl _ _ rfl zhi zcU zjT rfl (xs:=[]) (ys:=gxs) (m1) rfl rfl bo.o (bZ.o _ e1) McG McR McF ?_;intro v4 w4 h1 h2 h3;rw[List.nil_append]at h1;obtain⟨V4,c4',aX,_,_⟩:=h1.sl zcU;rw[<-bo.o]at aX;subst aX;have aC:Below WX.heap.size WX w4:=Below.grown e1 h2 McU (fun j hj=>by simp[za5]at hj;omega);have n2:w4.heap[WX.heap.size+1]?=some (.cells #[.string d.place,.int .i64 d.cls,.int .i64 fin,.slice VA out.length vc,.slice none 0 0] 100):=(h2.block _ McP Mdn).trans n1;exact Mcf
       ·go_simp
        have e0:Below WX.heap.size WX (WX.drew.alloc (.cells #[.string d.place,.int .i64 d.cls,.int .i64 fin,.slice VA out.length vc,.slice none 0 0] 100)):=zad (zaK (Below.refl _ _)) _;have n0:(WX.drew.alloc (.cells #[.string d.place,.int .i64 d.cls,.int .i64 fin,.slice VA out.length vc,.slice none 0 0] 100)).heap[WX.heap.size]?=some (.cells #[.string d.place,.int .i64 d.cls,.int .i64 fin,.slice VA out.length vc,.slice none 0 0] 100):=zar _ _ _ rfl;refine NxM hK (fun hHeld=>?_) (.inr (aE.o _ e0));clear hK K;refine OnM 0 false fun K hK=>?_
        go_simp
        have e1:Below WX.heap.size WX ((WX.drew.alloc (.cells #[.string d.place,.int .i64 d.cls,.int .i64 fin,.slice VA out.length vc,.slice none 0 0] 100)).alloc (.cells #[] 100)):=zad e0 _;have n1:((WX.drew.alloc (.cells #[.string d.place,.int .i64 d.cls,.int .i64 fin,.slice VA out.length vc,.slice none 0 0] 100)).alloc (.cells #[] 100)).heap[WX.heap.size]?=some (.cells #[.string d.place,.int .i64 d.cls,.int .i64 fin,.slice VA out.length vc,.slice none 0 0] 100):=zal n0;have m1:OwnS ((WX.drew.alloc (.cells #[.string d.place,.int .i64 d.cls,.int .i64 fin,.slice VA out.length vc,.slice none 0 0] 100)).alloc (.cells #[] 100)) WX.heap.size 100 5 GX.cells (.slice (some ⟨WX.heap.size+1,0,none⟩) 0 0) []:=by
         have:=zdS (t:=100) zcU (WX.drew.alloc (.cells #[.string d.place,.int .i64 d.cls,.int .i64 fin,.slice VA out.length vc,.slice none 0 0] 100)) WX.heap.size McB;simpa using this
        refine NxM hK (fun hHeld=>?_) (.inr (aE.o _ e1));clear hK K;refine OnM 3 false fun K hK=>?_
        refine zak (v:=.slice (some ⟨WX.heap.size+1,0,none⟩) 0 0) (n:=0) (m:=s.graves.length) rfl _ _ rfl zhi zcU zjT rfl (xs:=[]) (ys:=gxs) (m1) rfl rfl bo.o (bZ.o _ e1) McG McR McF ?_;intro v4 w4 h1 h2 h3;rw[List.nil_append]at h1;obtain⟨V4,c4',aX,_,_⟩:=h1.sl zcU;rw[<-bo.o]at aX;subst aX;have aC:Below WX.heap.size WX w4:=Below.grown e1 h2 McU (fun j hj=>by simp[za5]at hj;omega);have n2:w4.heap[WX.heap.size]?=some (.cells #[.string d.place,.int .i64 d.cls,.int .i64 fin,.slice VA out.length vc,.slice none 0 0] 100):=(h2.block _ McP Mdn).trans n1;exact Mcf
     case rest=>
      obtain⟨⟨_,V,c',eD,cq,dX,oo⟩,oU⟩:=hcut;clear xs0 xd0 xr0 s0 s1 s2 s3 s4 s5 s6 d0 d1 d2 d3 d4 d5 d6 r0 r1 r2 r3 r4 r5 r6 rf ls ld lr;obtain⟨s0,s1,s2,s3,s4,s5,s6⟩:=zaF eD;obtain⟨r0,r1,r2,r3,r4,r5,r6⟩:=zaF cq;have rf:=frz cq;have ls:=zab eD;have lr:=zab cq;go_wp2_with fail
      rw[uC.o];have dm:=zcA (a0:=.slice LA laws.length c0) (a1:=.slice CA s.children.length c1) (a2:=.slice MA s.marriages.length c2) (a3:=.slice DA s.dead.length c3) (a4:=.slice WA wd.length c4) (a5:=.slice RA rd.length c5) (a6:=.slice V (s.graves.length+1) c') oo (show w.heap.size<=w.heap.size+2 by omega);refine bodyPost_ret (zbC rfl _ rfl rfl (zcy cq)) rfl ?_;have h':=H.o _ dm;refine⟨_,_,_,_,_,_,_,rfl,rfl,dm,fun _=>⟨wd,rd,LA,CA,MA,DA,WA,RA,V,c0,c1,c2,c3,c4,c5,c',rfl,rfl,rfl,rfl,rfl,rfl,by rw[List.length_append];rfl,⟨h'.laws,h'.kids,h'.marr,h'.dead,h'.wills,h'.ren,?_,h'.deadc⟩,⟨HK.o.wills,HK.o.shares,HK.o.ren,HK.o.tos⟩⟩⟩;refine slw_gx ((zja dX cq McA).sl zcU) (by rw[List.map_append,HM.o];rfl) fun x hx=>?_
      rcases List.mem_append.1 hx with hx|hx
      ·exact(dG.o x hx).keep dm
      ·rw[List.mem_singleton.1 hx];exact⟨(zja oU cq McA).sl zap,Sl.nil⟩
structure OffS (b:Nat) (W W':World):Prop where
 blk:∃cs t fr,W.heap[b]?=some (.cells cs t fr)/\∀(j:Nat) (u:Value),cs[j]?=some u->zcD u=true
 same:∀g,g≠b->W'.heap[g]?=W.heap[g]?
section
variable {b:Nat} {W W':World}
theorem OffS.ne(h:OffS b W W'){g i:Nat}{u:Value}(hc:W.cell? ⟨g,i,none⟩=some u)(hu:zcD u=false):g≠b:=by
 rintro rfl;obtain⟨cs,t,fr,h1,h2⟩:=h.blk;simp only[World.cell?,h1]at hc;have:=h2 i u Meh;rw[hu]at this;cases this
theorem OffS.cell(h:OffS b W W'){g i:Nat}(hg:g≠b):W'.cell? ⟨g,i,none⟩=W.cell? ⟨g,i,none⟩:=by simp only[World.cell?,h.same g hg]
theorem OffS.lt(h:OffS b W W'){g:Nat}(hg:g≠b)(hl:g<W.heap.size):g<W'.heap.size:=by
 have:=h.same g hg;rw[Array.getElem?_eq_getElem hl]at this;exact(Array.getElem?_eq_some_iff.1 this).1
theorem OffS.sl(h:OffS b W W'){α:Type}{size:Nat}{f:α->List Value}{A:Option Addr}{xs:List α}(h0:∀x,∃u,(f x)[0]?=some u/\zcD u=false)(hS:Sl W size f A xs):Sl W' size f A xs:=fun hl=>by
 obtain⟨g,off,hA,hg,hc⟩:=hS hl;obtain⟨u,hu,hs⟩:=h0 xs[0];have dJ:=h.ne (hc 0 _ (List.getElem?_eq_getElem hl) 0 u hu) hs;exact⟨g,off,hA,h.lt dJ hg,fun k x hk j v hv=>(h.cell dJ).trans (hc k x hk j v hv)⟩
theorem OffS.slw(h:OffS b W W'){α:Type}{size:Nat}{R:World->α->List Value->Prop}{A:Option Addr}{xs:List α}(h0:∀x cs,R W x cs->R W' x cs/\∃u,cs[0]?=some u/\zcD u=false)(hS:SlW W size R A xs):SlW W' size R A xs:=fun hl=>by
 obtain⟨g,off,hA,hg,hc⟩:=hS hl;obtain⟨cs,hr,ah⟩:=hc 0 _ (List.getElem?_eq_getElem hl);obtain⟨_,u,hu,hs⟩:=h0 _ _ hr;have dJ:=h.ne (ah 0 u hu) hs;refine⟨g,off,hA,h.lt dJ hg,fun k x hk=>?_⟩;obtain⟨cs,hr,ah⟩:=hc k x hk;exact⟨cs,(h0 _ _ hr).1,fun j v hv=>(h.cell dJ).trans (ah j v hv)⟩
theorem OffS.st(h:OffS b W W'){laws:List Law}{s:St}{a0 a1 a2 a3 a4 a5 a6:Value}(hS:StAt W laws s a0 a1 a2 a3 a4 a5 a6):StAt W' laws s a0 a1 a2 a3 a4 a5 a6:=by
 obtain⟨wd,rd,LA,CA,MA,DA,WA,RA,GA,c0,c1,c2,c3,c4,c5,c6,e0,e1,e2,e3,e4,e5,e6,hI,hL⟩:=hS;have hd:∀x cs,zf9 W x cs->zf9 W' x cs/\∃u,cs[0]?=some u/\zcD u=false:=by
  rintro x cs ⟨B,c,h1,rfl,h3⟩;exact⟨⟨B,c,h1,rfl,h.sl (fun p=>⟨_,rfl,rfl⟩) h3⟩,_,rfl,rfl⟩
 have hg:∀x cs,zhT W x cs->zhT W' x cs/\∃u,cs[0]?=some u/\zcD u=false:=by
  rintro x cs ⟨H,hc,D,dc,rfl,h1,h2⟩;exact⟨⟨H,hc,D,dc,rfl,h.sl (fun p=>⟨_,rfl,rfl⟩) h1,h.sl (fun p=>⟨_,rfl,rfl⟩) h2⟩,_,rfl,rfl⟩
 exact⟨wd,rd,LA,CA,MA,DA,WA,RA,GA,c0,c1,c2,c3,c4,c5,c6,e0,e1,e2,e3,e4,e5,e6,
  ⟨h.sl (fun p=>⟨_,rfl,rfl⟩) hI.laws,h.sl (fun p=>⟨_,rfl,rfl⟩) hI.kids,h.sl (fun p=>⟨_,rfl,rfl⟩) hI.marr,h.sl (fun p=>⟨_,rfl,rfl⟩) hI.dead,h.slw hd hI.wills,h.slw hd hI.ren,h.slw hg hI.graves,hI.deadc⟩,hL⟩
theorem zc3{x0 x1 x2 x3 x4 x5 x6 a0 a1 a2 a3 a4 a5 a6:Value}{t:TypeId}{fr:Nat×Nat}(hb:W.heap[b]?=some (.cells #[x0,x1,x2,x3,x4,x5,x6] t fr))(hx:([x0,x1,x2,x3,x4,x5,x6].all zcD)=true):
 OffS b W (((((((W.setCell ⟨b,0,none⟩ a0).setCell ⟨b,1,none⟩ a1).setCell ⟨b,2,none⟩ a2).setCell ⟨b,3,none⟩ a3).setCell ⟨b,4,none⟩ a4).setCell ⟨b,5,none⟩ a5).setCell ⟨b,6,none⟩ a6):=by
 refine⟨⟨_,t,fr,hb,fun j u hu=>?_⟩,fun g hg=>?_⟩
 ·rw[List.all_eq_true]at hx;refine hx u ?_;have:=Array.mem_of_getElem? hu;simpa using this
 ·cases hc:W.heap[g]? with
  |some o=>exact J_ne hg (J_ne hg (J_ne hg (J_ne hg (J_ne hg (J_ne hg (J_ne hg hc))))))
  |none=>
   have hs:W.heap.size<=g:=Meh;rw[Array.getElem?_eq_none];simp;exact hs
end
theorem StAt.keep{W W':World}{laws:List Law}{s:St}{a0 a1 a2 a3 a4 a5 a6:Value}(h:StAt W laws s a0 a1 a2 a3 a4 a5 a6)(hB:Below W.heap.size W W'):StAt W' laws s a0 a1 a2 a3 a4 a5 a6:=by
 obtain⟨wd,rd,LA,CA,MA,DA,WA,RA,GA,c0,c1,c2,c3,c4,c5,c6,e0,e1,e2,e3,e4,e5,e6,hI,hL⟩:=h;exact⟨wd,rd,LA,CA,MA,DA,WA,RA,GA,c0,c1,c2,c3,c4,c5,c6,e0,e1,e2,e3,e4,e5,e6,hI.keep hB,hL⟩
def zkN(w:World)(laws:List Law)(R:St×Int)(e:Ending)(w':World):Prop:=
 ∃a0 a1 a2 a3 a4 a5 a6 b,e=.returned (.tuple #[.agg #[a0,a1,a2,a3,a4,a5,a6],.bool b])/\([a0,a1,a2,a3,a4,a5,a6].all zcD)=true/\Below w.heap.size w w'/\((b=true/\R.2=0/\StAt w' laws R.1 a0 a1 a2 a3 a4 a5 a6)\/(b=false/\R.2=8))
def zpx(laws:List Law)(s:St)(n:ByteArray)(day:Int):St×Int:=match zb0 s n day (zcK s (zba laws day) n) 0 s.graves with
 |none=>(s,8)
 |some gs=>({s with graves:=gs,dead:=s.dead++[n]},0)
theorem rTake_of(laws:List Law)(s:St)(wd rd:List Deed)(LA CA MA DA WA RA GA:Option Addr)(c0 c1 c2 c3 c4 c5 c6:Nat)(d:Deed)(B:Option Addr)(c:Nat)(w:World)(h:StIn w laws s wd rd LA CA MA DA WA RA GA c0 c1 c2 c3 c4 c5 c6)(hk:StLink s wd rd)(hf:StFew s wd rd)(hd:OkD d)(hS:Sl w 3 RPart.cells B d.to)(ay:d.to.length<=c)(bf:∀g∈s.graves,GoodG g/\g.holders.length<=50000)(bJ:∀g∈s.graves,g.fin<=200000)
 (il:∀W,Below w.heap.size w W->Calls Tryz.prog 147 #[.agg #[.slice LA laws.length c0,.slice CA s.children.length c1,.slice MA s.marriages.length c2,.slice DA s.dead.length c3,.slice WA wd.length c4,.slice RA rd.length c5,.slice GA s.graves.length c6],.string d.frm,.int .i64 d.day] W (zkN W laws (zpx laws s d.frm d.day))):Calls Tryz.prog 108 #[.agg #[.slice LA laws.length c0,.slice CA s.children.length c1,.slice MA s.marriages.length c2,.slice DA s.dead.length c3,.slice WA wd.length c4,.slice RA rd.length c5,.slice GA s.graves.length c6],d.v B c] w (zfE w laws (zbq laws s d)):=by
 obtain⟨R,hR⟩:∃R,R=zbq laws s d:=⟨_,rfl⟩
 rw[<-hR];unfold zbq at hR;obtain⟨eb,qp,yI,lE⟩:=yH4 bf bJ il ay;obtain⟨dvs,wQ,wR,rW⟩:=dv_of h.wills;obtain⟨yK,td,qi⟩:=yH3 wQ wR rW;clear bf bJ il ay wQ wR rW;obtain⟨H,HK,HF,HD,HS,HR⟩:=yH6 (fun W (hB:Below w.heap.size w W)=>h.keep hB) hk hf hd (fun W (hB:Below w.heap.size w W)=>hS.keep hB) hR;unfold Deed.v;clear h hk hf hd hS hR;go_enter Tryz.func108,Tryz.ntmps108
 go_upto_region 1 with fail
 generalize am:World.alloc (World.alloc (World.alloc w _) _) _=W0;obtain⟨aj,av⟩:=zeI am;clear am;have aw:=aj.o.size;obtain⟨⟨xs0,xd0,xr0⟩,⟨s0,s1,s2,s3,s4,s5,s6⟩,⟨d0,d1,d2,d3,d4,d5,d6⟩,⟨r0,r1,r2,r3,r4,r5,r6⟩,rf,ls,ld,lr⟩:=ddF (av.o W0 (Below.refl _ _));have hr:=HR.o;have hH:=H.o W0 aj.o;have pC:=HS.o W0 aj.o;go_upto_region 1 with fail
 by_cases h0:d.kind=0
 ·have k0:(d.kind==0)=true:=by simp[h0]
  have HT:=zHi (zpw laws s wd rd LA CA MA DA WA RA GA c0 c1 c2 c3 c4 c5 c6 d B c W0 hH HK.o HF.o HD.o pC h0);have cT:R=zcO s d:=by rw[hr];simp[h0]
  rw[<-cT]at HT;unfold Deed.v at HT;clear hr h0 cT
  go_wp2_with (go_at_call 140
               go_must(refine(HT.o).mono ?_)
               rintro e w5 ⟨a0,a1,a2,a3,a4,a5,a6,rfl,aV,ao,aq⟩;obtain⟨⟨_,_,_,rfl⟩,⟨_,_,_,rfl⟩,⟨_,_,_,rfl⟩,⟨_,_,_,rfl⟩,⟨_,_,_,rfl⟩,⟨_,_,_,rfl⟩,⟨_,_,_,rfl⟩⟩:=zc2 aV;obtain⟨aR,aB⟩:=yH2 ao aq;obtain⟨_,_,xr5⟩:=av.o w5 ao;obtain⟨t0,t1,t2,t3,t4,t5,t6⟩:=zaF xr5;have tf:=frz xr5
               clear ao aq aV)
  exact Mv
 have k0:(d.kind==0)=false:=by simp[h0]
 by_cases h1:d.kind=1
 ·have k1:(d.kind==1)=true:=by simp[h1]
  have HT:=zHi (zkL laws s wd rd LA CA MA DA WA RA GA c0 c1 c2 c3 c4 c5 c6 d B c W0 hH HK.o HF.o HD.o pC h1 eb.o);have cT:R=zbp s d:=by rw[hr];simp[h1]
  rw[<-cT]at HT;unfold Deed.v at HT;clear hr h1 cT
  go_wp2_with (go_at_call 141
               go_must(refine(HT.o).mono ?_)
               rintro e w5 ⟨a0,a1,a2,a3,a4,a5,a6,rfl,aV,ao,aq⟩;obtain⟨⟨_,_,_,rfl⟩,⟨_,_,_,rfl⟩,⟨_,_,_,rfl⟩,⟨_,_,_,rfl⟩,⟨_,_,_,rfl⟩,⟨_,_,_,rfl⟩,⟨_,_,_,rfl⟩⟩:=zc2 aV;obtain⟨aR,aB⟩:=yH2 ao aq;obtain⟨_,_,xr5⟩:=av.o w5 ao;obtain⟨t0,t1,t2,t3,t4,t5,t6⟩:=zaF xr5;have tf:=frz xr5
               clear ao aq aV)
  exact Mv
 have k1:(d.kind==1)=false:=by simp[h1]
 by_cases h2:d.kind=2
 ·have k2:(d.kind==2)=true:=by simp[h2]
  have HT:=zHi (zjt laws s wd rd LA CA MA DA WA RA GA c0 c1 c2 c3 c4 c5 c6 d B c W0 hH HK.o HF.o HD.o pC eb.o);have cT:R=zaZ s d:=by rw[hr];simp[h2]
  rw[<-cT]at HT;unfold Deed.v at HT;clear hr h2 cT
  go_wp2_with (go_at_call 142
               go_must(refine(HT.o).mono ?_)
               rintro e w5 ⟨a0,a1,a2,a3,a4,a5,a6,rfl,aV,ao,aq⟩;obtain⟨⟨_,_,_,rfl⟩,⟨_,_,_,rfl⟩,⟨_,_,_,rfl⟩,⟨_,_,_,rfl⟩,⟨_,_,_,rfl⟩,⟨_,_,_,rfl⟩,⟨_,_,_,rfl⟩⟩:=zc2 aV;obtain⟨aR,aB⟩:=yH2 ao aq;obtain⟨_,_,xr5⟩:=av.o w5 ao;obtain⟨t0,t1,t2,t3,t4,t5,t6⟩:=zaF xr5;have tf:=frz xr5
               clear ao aq aV)
  exact Mv
 have k2:(d.kind==2)=false:=by simp[h2]
 by_cases h3:d.kind=3
 ·have k3:(d.kind==3)=true:=by simp[h3]
  have HT:=zHi (zpr laws s wd rd LA CA MA DA WA RA GA c0 c1 c2 c3 c4 c5 c6 d B c W0 hH HK.o HF.o HD.o pC qp.o);have cT:R=zcZ s d:=by rw[hr];simp[h3]
  rw[<-cT]at HT;unfold Deed.v at HT;clear hr h3 cT
  go_wp2_with (go_at_call 143
               go_must(refine(HT.o).mono ?_)
               rintro e w5 ⟨a0,a1,a2,a3,a4,a5,a6,rfl,aV,ao,aq⟩;obtain⟨⟨_,_,_,rfl⟩,⟨_,_,_,rfl⟩,⟨_,_,_,rfl⟩,⟨_,_,_,rfl⟩,⟨_,_,_,rfl⟩,⟨_,_,_,rfl⟩,⟨_,_,_,rfl⟩⟩:=zc2 aV;obtain⟨aR,aB⟩:=yH2 ao aq;obtain⟨_,_,xr5⟩:=av.o w5 ao;obtain⟨t0,t1,t2,t3,t4,t5,t6⟩:=zaF xr5;have tf:=frz xr5
               clear ao aq aV)
  exact Mv
 have k3:(d.kind==3)=false:=by simp[h3]
 by_cases h5:d.kind=5
 ·have k5:(d.kind==5)=true:=by simp[h5]
  have HT:=zHi (zkM laws s wd rd LA CA MA DA WA RA GA c0 c1 c2 c3 c4 c5 c6 d B c W0 hH HK.o HF.o HD.o pC h5 lE.o);have cT:R=zb7 s d:=by rw[hr];simp[h5]
  rw[<-cT]at HT;unfold Deed.v at HT;clear hr h5 cT
  go_wp2_with (go_at_call 144
               go_must(refine(HT.o).mono ?_)
               rintro e w5 ⟨a0,a1,a2,a3,a4,a5,a6,rfl,aV,ao,aq⟩;obtain⟨⟨_,_,_,rfl⟩,⟨_,_,_,rfl⟩,⟨_,_,_,rfl⟩,⟨_,_,_,rfl⟩,⟨_,_,_,rfl⟩,⟨_,_,_,rfl⟩,⟨_,_,_,rfl⟩⟩:=zc2 aV;obtain⟨aR,aB⟩:=yH2 ao aq;obtain⟨_,_,xr5⟩:=av.o w5 ao;obtain⟨t0,t1,t2,t3,t4,t5,t6⟩:=zaF xr5;have tf:=frz xr5
               clear ao aq aV)
  exact Mv
 have k5:(d.kind==5)=false:=by simp[h5]
 by_cases h6:d.kind=6
 ·have k6:(d.kind==6)=true:=by simp[h6]
  have HT:=zHi (zpv laws s wd rd LA CA MA DA WA RA GA c0 c1 c2 c3 c4 c5 c6 d B c W0 hH HK.o HF.o HD.o pC h6);have cT:R=zcE s d:=by rw[hr];simp[h6]
  rw[<-cT]at HT;unfold Deed.v at HT;clear hr h6 cT
  go_wp2_with (go_at_call 145
               go_must(refine(HT.o).mono ?_)
               rintro e w5 ⟨a0,a1,a2,a3,a4,a5,a6,rfl,aV,ao,aq⟩;obtain⟨⟨_,_,_,rfl⟩,⟨_,_,_,rfl⟩,⟨_,_,_,rfl⟩,⟨_,_,_,rfl⟩,⟨_,_,_,rfl⟩,⟨_,_,_,rfl⟩,⟨_,_,_,rfl⟩⟩:=zc2 aV;obtain⟨aR,aB⟩:=yH2 ao aq;obtain⟨_,_,xr5⟩:=av.o w5 ao;obtain⟨t0,t1,t2,t3,t4,t5,t6⟩:=zaF xr5;have tf:=frz xr5
               clear ao aq aV)
  exact Mv
 have k6:(d.kind==6)=false:=by simp[h6]
 by_cases h7:d.kind=7
 ·have k7:(d.kind==7)=true:=by simp[h7]
  have HT:=zHi (zpt laws s wd rd LA CA MA DA WA RA GA c0 c1 c2 c3 c4 c5 c6 d B c W0 hH HK.o HF.o HD.o pC h7);have cT:R=zdq s d:=by rw[hr];simp[h7]
  rw[<-cT]at HT;unfold Deed.v at HT;clear hr h7 cT
  go_wp2_with (go_at_call 146
               go_must(refine(HT.o).mono ?_)
               rintro e w5 ⟨a0,a1,a2,a3,a4,a5,a6,rfl,aV,ao,aq⟩;obtain⟨⟨_,_,_,rfl⟩,⟨_,_,_,rfl⟩,⟨_,_,_,rfl⟩,⟨_,_,_,rfl⟩,⟨_,_,_,rfl⟩,⟨_,_,_,rfl⟩,⟨_,_,_,rfl⟩⟩:=zc2 aV;obtain⟨aR,aB⟩:=yH2 ao aq;obtain⟨_,_,xr5⟩:=av.o w5 ao;obtain⟨t0,t1,t2,t3,t4,t5,t6⟩:=zaF xr5;have tf:=frz xr5
               clear ao aq aV)
  exact Mv
 have k7:(d.kind==7)=false:=by simp[h7]
 rw[k0,k1,k2,k3,k5,k6,k7]at hr;simp only[Bool.false_eq_true,if_false]at hr;have fL:=zHi (sDead d.frm W0 hH HF.o);clear pC hH;by_cases h4:d.kind=4
 ·have k4:(d.kind==4)=true:=by simp[h4]
  have Iw:=zHi (zdW (HD.o.parts (.inr (.inr h4))).2).1;rw[k4,if_pos rfl]at hr;unfold zgK at hr;clear h0 h1 h2 h3 h4 h5 h6 h7;cases cf:zaJ s d.frm;rotate_left 1
  ·exact Mcw
  rw[cf,if_neg McB]at hr;rw[cf]at fL;have HE:=zHi hr;clear hr cf;go_upto_region 19 with(go_at_call 19;go_must(refine(fL.o).mono ?_);rintro e wq ⟨rfl,z,rfl⟩)
  obtain⟨WX,kg⟩:∃WX,WX=W0.ext z:=⟨_,rfl⟩
  have gV:Below W0.heap.size W0 WX:=by rw[kg];exact zaq _ _
  rw[<-kg];have bw:=zHi gV;have f9:=gV.size;clear kg gV fL;clear xs0 xd0 xr0 s0 s1 s2 s3 s4 s5 s6 d0 d1 d2 d3 d4 d5 d6 r0 r1 r2 r3 r4 r5 r6 rf ls ld lr;obtain⟨⟨xs0,xd0,xr0⟩,⟨s0,s1,s2,s3,s4,s5,s6⟩,⟨d0,d1,d2,d3,d4,d5,d6⟩,⟨r0,r1,r2,r3,r4,r5,r6⟩,rf,ls,ld,lr⟩:=ddF (av.o WX (bw.o));have Li:=HF.o.wills;have bo:Hid (wd.length=(dvs).length):=zHi (by rw[<-yK.o,List.length_map]);have tt:Hid ((dvs).length<=1000):=zHi (by rw[<-bo.o];exact HF.o.wills);have bZ:=zHi (fun W (hB:Below WX.heap.size WX W)=>qi.o.keep (aj.o.trans ((bw.o.trans (hB.mono f9)).mono aw)));have aE:=zHi (fun(W:World) (h:Below WX.heap.size WX W)=>(show W.cell? ⟨w.heap.size,4,none⟩=some (.slice WA wd.length c4)/\W.cell? ⟨w.heap.size+1,0,none⟩=some (.int .i64 d.kind)/\W.cell? ⟨w.heap.size+1,1,none⟩=some (.int .i64 d.day)/\W.cell? ⟨w.heap.size+1,2,none⟩=some (.string d.place)/\W.cell? ⟨w.heap.size+1,3,none⟩=some (.string d.frm)/\W.cell? ⟨w.heap.size+1,4,none⟩=some (.slice B d.to.length c)/\W.cell? ⟨w.heap.size+1,5,none⟩=some (.int .i64 d.cls)/\W.cell? ⟨w.heap.size+1,6,none⟩=some (.int .i64 d.years) from⟨(zah h ls).trans s4,(zah h ld).trans d0,(zah h ld).trans d1,(zah h ld).trans d2,(zah h ld).trans d3,(zah h ld).trans d4,(zah h ld).trans d5,(zah h ld).trans d6⟩))
  go_cut [5]from 67 to 75 (fun v wc=>v=v/\∃V c',wc.heap[w.heap.size]?=some (.cells #[.slice LA laws.length c0,.slice CA s.children.length c1,.slice MA s.marriages.length c2,.slice DA s.dead.length c3,.slice V (wd.length+1) c',.slice RA rd.length c5,.slice GA s.graves.length c6] 44)/\wc.heap[w.heap.size+2]?=some (.cells #[.slice none 0 0,.slice none 0 0,.slice none 0 0,.slice none 0 0,.slice none 0 0,.slice none 0 0,.slice none 0 0] 44)/\Ro wc 76 DV.cells V (dvs++[(⟨d,B,c⟩:DV)])/\Below w.heap.size w wc)
  case first=>
   refine zaB 6 (fun bb w'=>bb=true\/(w'.cell? ⟨w.heap.size,4,none⟩=some (.slice WA wd.length c4)/\w'.cell? ⟨w.heap.size+1,0,none⟩=some (.int .i64 d.kind)/\w'.cell? ⟨w.heap.size+1,1,none⟩=some (.int .i64 d.day)/\w'.cell? ⟨w.heap.size+1,2,none⟩=some (.string d.place)/\w'.cell? ⟨w.heap.size+1,3,none⟩=some (.string d.frm)/\w'.cell? ⟨w.heap.size+1,4,none⟩=some (.slice B d.to.length c)/\w'.cell? ⟨w.heap.size+1,5,none⟩=some (.int .i64 d.cls)/\w'.cell? ⟨w.heap.size+1,6,none⟩=some (.int .i64 d.years))) Mcz (.inr (aE.o _ (zaK (Below.refl _ _)))) ?hrest
   case hrest=>
    intro hHeld;clear xs0 xd0 xr0 s0 s1 s2 s3 s4 s5 s6 d0 d1 d2 d3 d4 d5 d6 r0 r1 r2 r3 r4 r5 r6 rf ls ld lr;refine TkM 1 ?_;refine TkM 2 ?_;refine TkM 4 ?_;refine TwM 0 5 (fun K hK=>?_) fun K hK=>?_
    ·go_simp
     have e0:Below WX.heap.size WX (WX.drew.alloc (.cells #[] 76)):=zad (zaK (Below.refl _ _)) _;have m0:OwnS (WX.drew.alloc (.cells #[] 76)) WX.heap.size 76 7 DV.cells (.slice (some ⟨WX.heap.size,0,none⟩) 0 0) []:=zdS zcf WX.drew WX.heap.size (Nat.le_refl _);refine NxM hK (fun hHeld=>?_) (.inr (aE.o _ e0));clear hK K;refine TwM 3 5 (fun K hK=>?_) fun K hK=>?_
     ·refine zak (v:=.slice (some ⟨WX.heap.size,0,none⟩) 0 0) (n:=0) (m:=wd.length) rfl _ _ rfl zgw zcf zgv rfl (xs:=[]) (ys:=dvs) (m0) rfl rfl bo.o (bZ.o _ e0) McG McR McJ ?_;intro v4 w4 h1 h2 h3;rw[List.nil_append]at h1;obtain⟨V4,c4',aX,_,_⟩:=h1.sl zcf;rw[<-bo.o]at aX;subst aX;have aC:Below WX.heap.size WX w4:=Below.grown e0 h2 Mdv (fun j hj=>by simp[za5]at hj;omega);refine NxM hK (fun hHeld=>?_) (.inr (aE.o _ aC));clear hK K;refine OnM 5 false fun K hK=>?_
      go_simp
      have e1:Below WX.heap.size WX (w4.alloc (.cells #[.int .i64 d.kind,.int .i64 d.day,.string d.place,.string d.frm,.slice B d.to.length c,.int .i64 d.cls,.int .i64 d.years] 76)):=zad aC _;have n1:(w4.alloc (.cells #[.int .i64 d.kind,.int .i64 d.day,.string d.place,.string d.frm,.slice B d.to.length c,.int .i64 d.cls,.int .i64 d.years] 76)).heap[w4.heap.size]?=some (.cells #[.int .i64 d.kind,.int .i64 d.day,.string d.place,.string d.frm,.slice B d.to.length c,.int .i64 d.cls,.int .i64 d.years] 76):=zar _ _ _ rfl;have o1:OwnS (w4.alloc (.cells #[.int .i64 d.kind,.int .i64 d.day,.string d.place,.string d.frm,.slice B d.to.length c,.int .i64 d.cls,.int .i64 d.years] 76)) WX.heap.size 76 7 DV.cells (.slice V4 wd.length c4') dvs:=h1.keep (n:=w4.heap.size) (zad (Below.refl _ _) _);refine NxM hK (fun hHeld=>?_) (.inr (aE.o _ e1));clear hK K;have o9:=o1;have n9:=n1;have e9:=e1;exact Mp
     ·go_simp
      have e1:Below WX.heap.size WX ((WX.drew.alloc (.cells #[] 76)).alloc (.cells #[.int .i64 d.kind,.int .i64 d.day,.string d.place,.string d.frm,.slice B d.to.length c,.int .i64 d.cls,.int .i64 d.years] 76)):=zad e0 _;have n1:((WX.drew.alloc (.cells #[] 76)).alloc (.cells #[.int .i64 d.kind,.int .i64 d.day,.string d.place,.string d.frm,.slice B d.to.length c,.int .i64 d.cls,.int .i64 d.years] 76)).heap[WX.heap.size+1]?=some (.cells #[.int .i64 d.kind,.int .i64 d.day,.string d.place,.string d.frm,.slice B d.to.length c,.int .i64 d.cls,.int .i64 d.years] 76):=zar _ _ _ McB;have m1:OwnS ((WX.drew.alloc (.cells #[] 76)).alloc (.cells #[.int .i64 d.kind,.int .i64 d.day,.string d.place,.string d.frm,.slice B d.to.length c,.int .i64 d.cls,.int .i64 d.years] 76)) WX.heap.size 76 7 DV.cells (.slice (some ⟨WX.heap.size,0,none⟩) 0 0) []:=m0.keep (n:=(WX.drew.alloc (.cells #[] 76)).heap.size) (zad (Below.refl _ _) _);refine NxM hK (fun hHeld=>?_) (.inr (aE.o _ e1));clear hK K;refine OnM 3 false fun K hK=>?_
      refine zak (v:=.slice (some ⟨WX.heap.size,0,none⟩) 0 0) (n:=0) (m:=wd.length) rfl _ _ rfl zgw zcf zgv rfl (xs:=[]) (ys:=dvs) (m1) rfl rfl bo.o (bZ.o _ e1) McG McR McF ?_;intro v4 w4 h1 h2 h3;rw[List.nil_append]at h1;obtain⟨V4,c4',aX,_,_⟩:=h1.sl zcf;rw[<-bo.o]at aX;subst aX;have aC:Below WX.heap.size WX w4:=Below.grown e1 h2 McU (fun j hj=>by simp[za5]at hj;omega);have n2:w4.heap[WX.heap.size+1]?=some (.cells #[.int .i64 d.kind,.int .i64 d.day,.string d.place,.string d.frm,.slice B d.to.length c,.int .i64 d.cls,.int .i64 d.years] 76):=(h2.block _ McP Mdn).trans n1;exact Mci
    ·go_simp
     have e0:Below WX.heap.size WX (WX.drew.alloc (.cells #[.int .i64 d.kind,.int .i64 d.day,.string d.place,.string d.frm,.slice B d.to.length c,.int .i64 d.cls,.int .i64 d.years] 76)):=zad (zaK (Below.refl _ _)) _;have n0:(WX.drew.alloc (.cells #[.int .i64 d.kind,.int .i64 d.day,.string d.place,.string d.frm,.slice B d.to.length c,.int .i64 d.cls,.int .i64 d.years] 76)).heap[WX.heap.size]?=some (.cells #[.int .i64 d.kind,.int .i64 d.day,.string d.place,.string d.frm,.slice B d.to.length c,.int .i64 d.cls,.int .i64 d.years] 76):=zar _ _ _ rfl;refine NxM hK (fun hHeld=>?_) (.inr (aE.o _ e0));clear hK K;refine OnM 0 false fun K hK=>?_
     go_simp
     have e1:Below WX.heap.size WX ((WX.drew.alloc (.cells #[.int .i64 d.kind,.int .i64 d.day,.string d.place,.string d.frm,.slice B d.to.length c,.int .i64 d.cls,.int .i64 d.years] 76)).alloc (.cells #[] 76)):=zad e0 _;have n1:((WX.drew.alloc (.cells #[.int .i64 d.kind,.int .i64 d.day,.string d.place,.string d.frm,.slice B d.to.length c,.int .i64 d.cls,.int .i64 d.years] 76)).alloc (.cells #[] 76)).heap[WX.heap.size]?=some (.cells #[.int .i64 d.kind,.int .i64 d.day,.string d.place,.string d.frm,.slice B d.to.length c,.int .i64 d.cls,.int .i64 d.years] 76):=zal n0;have m1:OwnS ((WX.drew.alloc (.cells #[.int .i64 d.kind,.int .i64 d.day,.string d.place,.string d.frm,.slice B d.to.length c,.int .i64 d.cls,.int .i64 d.years] 76)).alloc (.cells #[] 76)) WX.heap.size 76 7 DV.cells (.slice (some ⟨WX.heap.size+1,0,none⟩) 0 0) []:=by
      exact Map
     refine NxM hK (fun hHeld=>?_) (.inr (aE.o _ e1));clear hK K;refine OnM 3 false fun K hK=>?_
     refine zak (v:=.slice (some ⟨WX.heap.size+1,0,none⟩) 0 0) (n:=0) (m:=wd.length) rfl _ _ rfl zgw zcf zgv rfl (xs:=[]) (ys:=dvs) (m1) rfl rfl bo.o (bZ.o _ e1) McG McR McF ?_;intro v4 w4 h1 h2 h3;rw[List.nil_append]at h1;obtain⟨V4,c4',aX,_,_⟩:=h1.sl zcf;rw[<-bo.o]at aX;subst aX;have aC:Below WX.heap.size WX w4:=Below.grown e1 h2 McU (fun j hj=>by simp[za5]at hj;omega);have n2:w4.heap[WX.heap.size]?=some (.cells #[.int .i64 d.kind,.int .i64 d.day,.string d.place,.string d.frm,.slice B d.to.length c,.int .i64 d.cls,.int .i64 d.years] 76):=(h2.block _ McP Mdn).trans n1;exact Mci
  case rest=>
   obtain⟨_,V,c',eD,cq,dX,oo⟩:=hcut;clear xs0 xd0 xr0 s0 s1 s2 s3 s4 s5 s6 d0 d1 d2 d3 d4 d5 d6 r0 r1 r2 r3 r4 r5 r6 rf ls ld lr;obtain⟨s0,s1,s2,s3,s4,s5,s6⟩:=zaF eD;obtain⟨r0,r1,r2,r3,r4,r5,r6⟩:=zaF cq;have rf:=frz cq;have ls:=zab eD;have lr:=zab cq;go_wp2_with fail
   rw[HE.o];have dm:=zcA (a0:=.slice LA laws.length c0) (a1:=.slice CA s.children.length c1) (a2:=.slice MA s.marriages.length c2) (a3:=.slice DA s.dead.length c3) (a4:=.slice V (wd.length+1) c') (a5:=.slice RA rd.length c5) (a6:=.slice GA s.graves.length c6) oo (show w.heap.size<=w.heap.size+2 by omega);refine bodyPost_ret (zbC rfl _ rfl rfl (zcy cq)) rfl ?_;have h':=H.o _ dm;refine⟨_,_,_,_,_,_,_,rfl,rfl,dm,fun _=>⟨wd++[d],rd,LA,CA,MA,DA,V,RA,GA,c0,c1,c2,c3,c',c5,c6,rfl,rfl,rfl,rfl,by rw[List.length_append];rfl,rfl,rfl,⟨h'.laws,h'.kids,h'.marr,h'.dead,?_,h'.ren,h'.graves,h'.deadc⟩,⟨?_,?_,HK.o.ren,HK.o.tos⟩⟩⟩
   ·exact Mab
   ·rw[List.map_append,<-HK.o.wills];rfl
   ·intro x hx;rcases List.mem_append.1 hx with hx|hx
    ·exact HK.o.shares x hx
    ·rw[List.mem_singleton.1 hx];exact fun p hp=>(Iw.o p hp).2.2
 ·have k4:(d.kind==4)=false:=by simp[h4]
  rw[k4]at hr;simp only[Bool.false_eq_true,if_false]at hr;unfold zdH at hr;clear h0 h1 h2 h3 h4 h5 h6 h7;cases cf:zaJ s d.frm;rotate_left 1
  ·exact Mcw
  rw[cf,if_neg McB]at hr;rw[cf]at fL;have cT:R=zpx laws s d.frm d.day:=hr;have uw:=zHi (fun W (hB:Below W0.heap.size W0 W)=>yI.o W (aj.o.trans (hB.mono aw)));rw[<-cT]at uw;clear hr cf cT yI;go_upto_region 21 with(go_at_call 19;go_must(refine(fL.o).mono ?_);rintro e wq ⟨rfl,z,rfl⟩)
  obtain⟨W1,aT⟩:∃W1,W1=W0.ext z:=⟨_,rfl⟩
  have aS:Below W0.heap.size W0 W1:=Mds;rw[<-aT];have ie:=aS.size;have aA:=zHi aS;clear aT aS fL;clear xs0 xd0 xr0 s0 s1 s2 s3 s4 s5 s6 d0 d1 d2 d3 d4 d5 d6 r0 r1 r2 r3 r4 r5 r6 rf ls ld lr;obtain⟨⟨xs0,xd0,xr0⟩,⟨s0,s1,s2,s3,s4,s5,s6⟩,⟨d0,d1,d2,d3,d4,d5,d6⟩,⟨r0,r1,r2,r3,r4,r5,r6⟩,rf,ls,ld,lr⟩:=ddF (av.o W1 (aA.o))
  go_upto_region 22 with(go_at_call 147
                         go_must(refine(uw.o _ aA.o).mono ?_)
                         rintro e w5 ⟨a0,a1,a2,a3,a4,a5,a6,bb,rfl,aV,ao,aq⟩;obtain⟨⟨X0,n0,m0,rfl⟩,⟨X1,n1,m1,rfl⟩,⟨X2,n2,m2,rfl⟩,⟨X3,n3,m3,rfl⟩,⟨X4,n4,m4,rfl⟩,⟨X5,n5,m5,rfl⟩,⟨X6,n6,m6,rfl⟩⟩:=zc2 aV;obtain⟨aR,aB⟩:=yH2 (aA.o.trans (ao.mono ie)) aq
                         clear ao aq aV)
  obtain⟨W6,gw⟩:∃W6,W6=w5.alloc (.cells #[.slice X0 n0 m0,.slice X1 n1 m1,.slice X2 n2 m2,.slice X3 n3 m3,.slice X4 n4 m4,.slice X5 n5 m5,.slice X6 n6 m6] 44):=⟨_,rfl⟩
  have gY:W6.heap[w5.heap.size]?=some (.cells #[.slice X0 n0 m0,.slice X1 n1 m1,.slice X2 n2 m2,.slice X3 n3 m3,.slice X4 n4 m4,.slice X5 n5 m5,.slice X6 n6 m6] 44):=by rw[gw];exact zar _ _ _ rfl
  have aP:Below w5.heap.size w5 W6:=by rw[gw];exact zad (Below.refl _ _) _
  obtain⟨bj,lA⟩:=yH2 (aR.o.trans (aP.mono aR.o.size)) aP;obtain⟨YB,rD⟩:∃YB,YB=w5.heap.size:=⟨_,rfl⟩
  rw[<-gw,<-rD];rw[<-rD]at gY;clear gw rD aP;clear xs0 xd0 xr0 s0 s1 s2 s3 s4 s5 s6 d0 d1 d2 d3 d4 d5 d6 r0 r1 r2 r3 r4 r5 r6 rf ls ld lr;obtain⟨⟨xs0,xd0,xr0⟩,⟨s0,s1,s2,s3,s4,s5,s6⟩,⟨d0,d1,d2,d3,d4,d5,d6⟩,⟨r0,r1,r2,r3,r4,r5,r6⟩,rf,ls,ld,lr⟩:=ddF (av.o W6 (bj.o));obtain⟨y0,y1,y2,y3,y4,y5,y6⟩:=zaF gY;have sU:=zab gY;obtain⟨R1,R2⟩:=R;rcases aB.o with⟨rfl,hz,aq⟩|⟨rfl,hz⟩
  ·simp only at hz;subst hz;have eJ:=zHi aq;clear aq;go_wp2_with fail
   refine bodyPost_ret (zbC rfl _ rfl rfl (zcy xr0)) rfl ?_;exact⟨_,_,_,_,_,_,_,rfl,rfl,zcA (aj.o.trans (bj.o.mono aw)) (show w.heap.size<=w.heap.size+2 by omega),fun _=>(zc3 xr0 rfl).st (eJ.o.keep lA.o)⟩
  ·simp only at hz;subst hz;go_wp2_with fail
   refine bodyPost_ret (zbC rfl _ rfl rfl (zcy xr0)) rfl ?_;exact⟨_,_,_,_,_,_,_,rfl,rfl,zcA (aj.o.trans (bj.o.mono aw)) (show w.heap.size<=w.heap.size+2 by omega),fun e=>by cases e⟩
noncomputable def nxP (laws:List Law) (s:St) (ds:List Deed) (d:Deed):St×Int:=
 if decide (60<=ds.length)then(s,8)else if(ds.getLast?.map fun e=>decide (d.day<e.day)).getD false then(s,9)else zbq laws s d
theorem rNext_of(laws:List Law)(s:St)(wd rd:List Deed)(LA CA MA DA WA RA GA:Option Addr)(c0 c1 c2 c3 c4 c5 c6:Nat)(d:Deed)(B:Option Addr)(c:Nat)(w:World)(h:StIn w laws s wd rd LA CA MA DA WA RA GA c0 c1 c2 c3 c4 c5 c6)(hk:StLink s wd rd)(hf:StFew s wd rd)(hd:OkD d)(hS:Sl w 3 RPart.cells B d.to)(ds:List Deed)(DB:Option Addr)(dc:Nat)(ke:SlW w 7 zf9 DB ds)(ay:d.to.length<=c)(bf:∀g∈s.graves,GoodG g/\g.holders.length<=50000)(bJ:∀g∈s.graves,g.fin<=200000)
 (il:∀W,Below w.heap.size w W->Calls Tryz.prog 147 #[.agg #[.slice LA laws.length c0,.slice CA s.children.length c1,.slice MA s.marriages.length c2,.slice DA s.dead.length c3,.slice WA wd.length c4,.slice RA rd.length c5,.slice GA s.graves.length c6],.string d.frm,.int .i64 d.day] W (zkN W laws (zpx laws s d.frm d.day))):Calls Tryz.prog 69 #[.agg #[.slice LA laws.length c0,.slice CA s.children.length c1,.slice MA s.marriages.length c2,.slice DA s.dead.length c3,.slice WA wd.length c4,.slice RA rd.length c5,.slice GA s.graves.length c6],.slice DB ds.length dc,d.v B c] w (zfE w laws (nxP laws s ds d)):=by
 obtain⟨R,hR⟩:∃R,R=nxP laws s ds d:=⟨_,rfl⟩
 rw[<-hR];unfold nxP at hR;obtain⟨eb,qp,yI,lE,fU⟩:=yH5 bf bJ il ay ke;clear bf bJ il ay ke;obtain⟨H,HK,HF,HD,HS,HR⟩:=yH6 (fun W (hB:Below w.heap.size w W)=>h.keep hB) hk hf hd (fun W (hB:Below w.heap.size w W)=>hS.keep hB) hR;unfold Deed.v;clear h hk hf hd hS hR;go_enter Tryz.func69,Tryz.ntmps69
 go_upto_region 1 with fail
 generalize am:World.alloc (World.alloc (World.alloc w _) _) _=W0;obtain⟨aj,av⟩:=zeI am;clear am;have aw:=aj.o.size;obtain⟨⟨xs0,xd0,xr0⟩,⟨s0,s1,s2,s3,s4,s5,s6⟩,⟨d0,d1,d2,d3,d4,d5,d6⟩,⟨r0,r1,r2,r3,r4,r5,r6⟩,rf,ls,ld,lr⟩:=ddF (av.o W0 (Below.refl _ _));have hr:=HR.o
 have kR:=zHi (fun W (hB:Below W0.heap.size W0 W)=>rTake_of laws s wd rd LA CA MA DA WA RA GA c0 c1 c2 c3 c4 c5 c6 d B c W (H.o W (aj.o.trans (hB.mono aw))) HK.o HF.o HD.o (HS.o W (aj.o.trans (hB.mono aw))) lE.o eb.o qp.o
  fun W' dD=>yI.o W' ((aj.o.trans (hB.mono aw)).trans (dD.mono (by have:=aj.o.size;have:=hB.size;omega))))
 unfold Deed.v at kR;by_cases h60:60<=ds.length
 ·have HE:Hid (R=(s,8)):=by show _=_;rw[hr,if_pos (by simpa using h60)]
  have hk:(60:Int)<=(ds.length:Int):=Mcy;clear hr;go_upto_region 2 with fail
  have bm:=Below.refl W0.heap.size W0;exact Mg
 have hk:¬(60:Int)<=(ds.length:Int):=Mcy;rw[if_neg (by simpa using h60)]at hr;go_upto_region 3 with fail
 by_cases h0:0<ds.length
 ·have ae:ds.length-1<ds.length:=Mcy;obtain⟨gb,go,cs,lZ,dJ,dq,ah⟩:=(fU.o.keep zcc aj.o).at ae;have cz:ds.getLast?=some ds[ds.length-1]:=by rw[List.getLast?_eq_getElem?,List.getElem?_eq_getElem ae]
  rw[cz]at hr;generalize ds[ds.length-1]=e at*;obtain⟨EB,ec,tP,rfl,hP⟩:=dq;have i1:W0.cell? ⟨gb,go+(ds.length-1)*7+1,none⟩=some (.int .i64 e.day):=ah 1 _ rfl;have u9:R=if decide (d.day<e.day)=true then(s,9)else zbq laws s d:=hr;have bF:=zHi u9;subst lZ;generalize hn:ds.length=n at*;have hz:(0:Int)<(n:Int):=Mcy;have jz:wrap64 ((n:Int)-1)=(n:Int)-1:=wrap_m Mcy;have yv:(0:Int)<=(n:Int)-1:=Mcy;have Ld:(n:Int)-1<(n:Int):=Mcy;have GF:((n:Int)-1).toNat=n-1:=Mcy;clear hr u9 cz ah hP tP hn h60;by_cases gW:d.day<e.day
  ·have HE:Hid (R=(s,9)):=by show _=_;rw[bF.o,if_pos (by simpa using gW)]
   (refine zaj Mcz Mcz ?_
    repeat(first|go_big_quiet_skip|(go_big_quiet_want;go_big_quiet_op;first|go_big_quiet_on|(apply Exists.intro;refine⟨fun _=>?_,?_⟩;(fail);go_big_quiet_on)))
    refine wpQuiet_nil ?_
    rintro _ ⟨zq,rfl⟩)
   clear xs0 xd0 xr0 s0 s1 s2 s3 s4 s5 s6 d0 d1 d2 d3 d4 d5 d6 r0 r1 r2 r3 r4 r5 r6 rf ls ld lr;obtain⟨⟨xs0,xd0,xr0⟩,⟨s0,s1,s2,s3,s4,s5,s6⟩,⟨d0,d1,d2,d3,d4,d5,d6⟩,⟨r0,r1,r2,r3,r4,r5,r6⟩,rf,ls,ld,lr⟩:=ddF (av.o (W0.ext zq) (zaq _ _));clear i1;have bm:=zaq W0 zq;exact Mg
  ·have cT:R=zbq laws s d:=by rw[bF.o,if_neg (by simpa using gW)]
   rw[<-cT]at kR;clear cT
   (refine zaj Mcz Mcz ?_
    repeat(first|go_big_quiet_skip|(go_big_quiet_want;go_big_quiet_op;first|go_big_quiet_on|(apply Exists.intro;refine⟨fun _=>?_,?_⟩;(fail);go_big_quiet_on)))
    refine wpQuiet_nil ?_
    rintro _ ⟨zq,rfl⟩)
   clear xs0 xd0 xr0 s0 s1 s2 s3 s4 s5 s6 d0 d1 d2 d3 d4 d5 d6 r0 r1 r2 r3 r4 r5 r6 rf ls ld lr;obtain⟨⟨xs0,xd0,xr0⟩,⟨s0,s1,s2,s3,s4,s5,s6⟩,⟨d0,d1,d2,d3,d4,d5,d6⟩,⟨r0,r1,r2,r3,r4,r5,r6⟩,rf,ls,ld,lr⟩:=ddF (av.o (W0.ext zq) (zaq _ _));clear i1;exact Mb8
 ·have mO:ds=[]:=List.eq_nil_of_length_eq_zero Mcy;have cT:R=zbq laws s d:=by rw[hr,mO];rfl
  rw[<-cT]at kR;generalize hn:ds.length=n at*;have hz:decide ((0:Int)<(n:Int))=false:=McD;have iT:decide (0<n)=false:=McD;have hz3:¬0<n:=Mcy;clear hr cT mO hn h60 h0
  (refine zaj Mcz Mcz ?_
   repeat(first|go_big_quiet_skip|(go_big_quiet_want;go_big_quiet_op;first|go_big_quiet_on|(apply Exists.intro;refine⟨fun _=>?_,?_⟩;(fail);go_big_quiet_on)))
   refine wpQuiet_nil ?_
   rintro _ ⟨zq,rfl⟩)
  clear xs0 xd0 xr0 s0 s1 s2 s3 s4 s5 s6 d0 d1 d2 d3 d4 d5 d6 r0 r1 r2 r3 r4 r5 r6 rf ls ld lr;obtain⟨⟨xs0,xd0,xr0⟩,⟨s0,s1,s2,s3,s4,s5,s6⟩,⟨d0,d1,d2,d3,d4,d5,d6⟩,⟨r0,r1,r2,r3,r4,r5,r6⟩,rf,ls,ld,lr⟩:=ddF (av.o (W0.ext zq) (zaq _ _));exact Mb8

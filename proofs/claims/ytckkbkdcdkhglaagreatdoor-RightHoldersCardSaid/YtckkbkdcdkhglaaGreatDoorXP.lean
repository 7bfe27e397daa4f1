/- Walk of the reference's next. -/
import Derived.Test.YtckkbkdcdkhglaaGreatDoorXM
set_option linter.unusedSimpArgs false
set_option linter.unusedVariables false
set_option maxRecDepth 100000
set_option maxHeartbeats 4000000
namespace Go.Proofs.YtckkbkdcdkhglaaGreatDoor
open Go.RowKit Go.Shelf
attribute [local go_sem] World.cell?_alloc_mark zag za5 zaq za8 zaw zax zay zaz za0 za1 za2
attribute [local go_sem] zap zad
structure GrSt (out l:Parts):Prop where
 good:GoodParts out
 isN: ∀p∈out,IsN 720720 p.2
 le:sumQ out+sumQ l<=1
 pos: ∀p∈l,0<=p.2
 lN: ∀p∈l,IsN 720720 p.2
theorem GrSt.parts {out l:Parts} (h:GrSt out l): ∀p∈out,zaK p.2:=by
 have h1:0<=sumQ l:=zbr h.pos;exact fun p hp=>(zdH (hs:=out) ⟨h.good,zc5 Mcn Mcn h.isN,by have:=h.le;grind⟩ hp).2.2
theorem GrSt.next {out l:Parts} {n:ByteArray} {q:Rat} (h:GrSt out ((n,q)::l)):GrSt (za3 out n q) l:=by
 have hq:=h.pos (n,q) Mco;have bQ:=h.le;rw[sumQ]at bQ;exact⟨zbw hq h.good,zcF (h.lN (n,q) Mco) h.isN,by rw[zbX];grind,fun p hp=>h.pos p MdT,fun p hp=>h.lN p MdT⟩
theorem GrSt.small {out l:Parts} {n:ByteArray} {q:Rat} (h:GrSt out ((n,q)::l)):zaK q:=by
 have hq:=h.pos (n,q) Mco;have bQ:=h.le;rw[sumQ]at bQ;have h1:0<=sumQ l:=zbr fun p hp=>h.pos p MdT
 have h2:0<=sumQ out:=zbr fun p hp=>by have:=h.good.pos p hp;grind
 simp only at hq bQ;exact zc8 Mcn Mcn (h.lN (n,q) Mco) hq McO
theorem sl_grave {W:World} {b:Nat} {t:TypeId} {fr:Nat×Nat} (x:GX) (h:W.heap[b]?=some (.cells #[.string x.g.place, .int .i64 x.g.cls, .int .i64 x.g.fin, .slice x.H x.g.holders.length x.hc, .slice x.D x.g.died.length x.dc] t fr)):Sl W 5 GX.cells (some ⟨b,0,none⟩) [x]:=
 zi8 zcS h (by simp[GX.cells])
theorem zpk (laws:List Law) (s:St) (wd rd:List Deed) (LA CA MA DA WA RA GA:Option Addr) (c0 c1 c2 c3 c4 c5 c6:Nat) (d:Deed) (B:Option Addr) (c:Nat) (w:World) (h:StIn w laws s wd rd LA CA MA DA WA RA GA c0 c1 c2 c3 c4 c5 c6) (hk:StLink s wd rd) (hf:StFew s wd rd) (hd:OkD d) (hS:Sl w 3 RPart.cells B d.to) (cf:d.kind=0):Calls Tryz.prog 133 #[.agg #[.slice LA laws.length c0, .slice CA s.children.length c1, .slice MA s.marriages.length c2, .slice DA s.dead.length c3, .slice WA wd.length c4, .slice RA rd.length c5, .slice GA s.graves.length c6],d.v B c] w (zfH w laws (zcM s d)):=by
 obtain⟨R,hR⟩: ∃R,R=zcM s d:=⟨_,rfl⟩
 rw[<-hR];have jH:=zHi (zdX (hd.parts (.inl cf)).2);have bz:=hd.len;obtain⟨gxs,hm,bp,bw⟩:=zns h.graves;have HM:=zHi hm;have dm:=zHi bp;have AD:=zHi bw;unfold zcM at hR;clear cf hm bp bw;have H:=zHi (fun W (hB:Below w.heap.size w W)=>h.keep hB);have HK:=zHi hk;have HF:=zHi hf;have HD:=zHi hd;have HS:=zHi (fun W (hB:Below w.heap.size w W)=>hS.keep hB);have HR:=zHi hR;unfold Deed.v;clear h hk hf hd hS hR;go_enter Tryz.func133,Tryz.ntmps133
 go_upto_region 1 with fail
 generalize ao:World.alloc (World.alloc (World.alloc w _) _) _=W0;obtain⟨ak,ax⟩:=zeK ao;clear ao;have aw:=ak.o.size;obtain⟨⟨xs0,xd0,xr0⟩,⟨s0,s1,s2,s3,s4,s5,s6⟩,⟨d0,d1,d2,d3,d4,d5,d6⟩,⟨r0,r1,r2,r3,r4,r5,r6⟩,rf,ls,ld,lr⟩:=ddF (ax.o W0 (Below.refl _ _));have cP:=zHi (fun W (hB:Below W0.heap.size W0 W)=>ziW d.place d.day W (H.o W (ak.o.trans (hB.mono aw))) HF.o);have jU:=zHi (fun W (hB:Below W0.heap.size W0 W)=>zmn d.to B c W (H.o W (ak.o.trans (hB.mono aw))) HF.o Mcl (HS.o W (ak.o.trans (hB.mono aw))));have hr:=HR.o;cases aA:zaJ s d.place d.day with
 |some i=>
  rw[aA]at hr;rw[zd3 aA]at cP;have eN:(0:Int)<=(i:Int):=Mcl;have HE:Hid (R=(s,13)):=zHi hr;clear hr aA;go_upto_region 2 with(go_at_call 13;go_must(refine(cP.o _ (Below.refl _ _)).mono ?_);rintro e wq ⟨rfl,z,rfl⟩)
  have bs:=zam W0 z;exact MbO
 |none=>
  rw[aA]at hr;rw[zfs aA]at cP;simp only[Option.isSome_none,Bool.false_eq_true,if_false]at hr;cases fW:zdW s d.to;rotate_left 1
  ·have HE:Hid (R=(s,28)):=by show _=_;rw[hr,fW];rfl
   rw[fW]at jU;clear hr aA fW
   go_upto_region 4 with(first
    |(go_at_call 13;go_must(refine(cP.o _ (Below.refl _ _)).mono ?_);rintro e wq ⟨rfl,z,rfl⟩)
    |(go_at_call 163;go_must(refine(jU.o _ Bw).mono ?_);rintro e wq ⟨rfl,z3,rfl⟩))
   have bs:Below W0.heap.size W0 ((W0.ext z).ext z3):=zbc (zam _ _) _;have bs:=bs;exact MbO
  rw[fW,if_neg Mco]at hr;rw[fW]at jU;have Aj:=zHi (fun W=>zjY d.day d.years W HD.o.day.1 HD.o.day.2 HD.o.years.1 HD.o.years.2);generalize zci d.day d.years=af at*;have bx:=zHi hr;clear hr aA fW
  go_upto_region 6 with(first
   |(go_at_call 13;go_must(refine(cP.o _ (Below.refl _ _)).mono ?_);rintro e wq ⟨rfl,z,rfl⟩)
   |(go_at_call 163;go_must(refine(jU.o _ Bw).mono ?_);rintro e wq ⟨rfl,z3,rfl⟩))
  obtain⟨GB,jh⟩: ∃GB,GB=W0.heap.size+z.os.size+z3.os.size:=⟨_,rfl⟩
  obtain⟨W1,aV⟩: ∃W1,W1=((W0.ext z).ext z3).alloc (.cells #[.string d.place, .int .i64 d.cls, .int .i64 (-1), .slice none 0 0, .slice none 0 0] 46):=⟨_,rfl⟩
  have gG:W1.heap[GB]?=some (.cells #[.string d.place, .int .i64 d.cls, .int .i64 (-1), .slice none 0 0, .slice none 0 0] 46):=by rw[aV];exact zar _ _ _ (by rw[jh];simp[zag])
  have aZ:Below W0.heap.size W0 W1:=by rw[aV];exact zac (zbc (zam _ _) _) _
  have iR:W0.heap.size<=GB:=Mcl;rw[<-aV,<-jh];clear aV jh cP jU;clear xs0 xd0 xr0 s0 s1 s2 s3 s4 s5 s6 d0 d1 d2 d3 d4 d5 d6 r0 r1 r2 r3 r4 r5 r6 rf ls ld lr;obtain⟨g0,g1,g2,g3,g4⟩:=zec gG;have gf:=frz gG;have gl:=zab gG;have GG:=zHi gG;have aG:=zHi aZ;clear gG aZ;obtain⟨⟨xs0,xd0,xr0⟩,⟨s0,s1,s2,s3,s4,s5,s6⟩,⟨d0,d1,d2,d3,d4,d5,d6⟩,⟨r0,r1,r2,r3,r4,r5,r6⟩,rf,ls,ld,lr⟩:=ddF (ax.o W1 (aG.o));go_upto_if 28 with fail
  go_cut [5]from 26 to 39 (fun v wc=>v=v/\ ∃fin:Int,Hid (R=({s with graves:=s.graves++[⟨d.place,d.cls,fin,zbe d.to [],[]⟩]},0))/\wc.heap[GB]?=some (.cells #[.string d.place, .int .i64 d.cls, .int .i64 (fin), .slice none 0 0, .slice none 0 0] 46)/\Below W0.heap.size W0 wc)
  case first=>
   by_cases hy:0<d.years
   ·have hr:=bx.o;have CD:decide (0<d.years)=true:=by simpa using hy
    rw[CD]at hr;simp only[Bool.true_and,if_true]at hr;go_upto_region 8 with(go_at_call 164;go_must(refine(Aj.o _).mono ?_);rintro e wq ⟨rfl,z5,rfl⟩)
    obtain⟨W2,bM⟩: ∃W2,W2=(W1.setCell ⟨GB,2,none⟩ (.int .i64 af)).ext z5:=⟨_,rfl⟩
    have gG2:W2.heap[GB]?=some (.cells #[.string d.place, .int .i64 d.cls, .int .i64 (af), .slice none 0 0, .slice none 0 0] 46):=by
     rw[bM];exact Mbq
    have bL:Below W0.heap.size W0 W2:=by rw[bM];exact zbc (zaO aG.o iR _) z5
    rw[<-bM];clear bM g0 g1 g2 g3 g4 gf gl;clear xs0 xd0 xr0 s0 s1 s2 s3 s4 s5 s6 d0 d1 d2 d3 d4 d5 d6 r0 r1 r2 r3 r4 r5 r6 rf ls ld lr;obtain⟨g0,g1,g2,g3,g4⟩:=zec gG2;have gl:=zab gG2;have aS:=zHi bL;have G2:=zHi gG2;clear bL gG2;obtain⟨⟨xs0,xd0,xr0⟩,⟨s0,s1,s2,s3,s4,s5,s6⟩,⟨d0,d1,d2,d3,d4,d5,d6⟩,⟨r0,r1,r2,r3,r4,r5,r6⟩,rf,ls,ld,lr⟩:=ddF (ax.o W2 (aS.o));by_cases ow:af<0
    ·have HE:Hid (R=(s,2)):=by show _=_;rw[hr,if_pos (by simpa using ow)]
     clear hr;go_upto_region 9 with fail
     have bs:=aS.o;exact Mg
    ·have HE:Hid (R=({s with graves:=s.graves++[⟨d.place,d.cls,af,zbe d.to [],[]⟩]},0)):=by show _=_;rw[hr,if_neg (by simpa using ow)]
     clear hr;go_wp2_with fail
     go_meet
     exact⟨by first|rfl|trivial,af,HE,G2.o,aS.o⟩
   ·have hr:=bx.o;have CD:decide (0<d.years)=false:=by simpa using hy
    rw[CD]at hr;simp only[Bool.false_and,Bool.false_eq_true,if_false]at hr;have HE:=zHi hr;clear hr;go_wp2_with fail
    go_meet
    exact⟨by first|rfl|trivial,-1,HE,GG.o,aG.o⟩
  case rest=>
   obtain⟨_,fin,HE,gG2,bL⟩:=hcut;obtain⟨W2,bM⟩: ∃W2,W2=wc:=⟨_,rfl⟩
   subst bM;have aS:=zHi bL;have kR:=bL.size;have gT:=zHi gG2
   have oO:GrSt [] (zao d.to):=⟨⟨List.Pairwise.nil,by simp⟩,by simp,by show(0:Rat)+_<=1;have:=jH.o.2.1;grind,fun p hp=>by
    obtain⟨q,hq,rfl⟩:=List.mem_map.1 hp;have:=(jH.o.1 q hq).1;show 0<=q.rat;grind,fun p hp=>by
    obtain⟨q,hq,rfl⟩:=List.mem_map.1 hp
    exact(jH.o.1 q hq).2.1⟩
   have Bj:=zHi oO;clear g0 g1 g2 g3 g4 gf gl bL gG2 oO;clear xs0 xd0 xr0 s0 s1 s2 s3 s4 s5 s6 d0 d1 d2 d3 d4 d5 d6 r0 r1 r2 r3 r4 r5 r6 rf ls ld lr;go_upto_region 11 with fail
   go_loopw [7] (fun n wr=> ∃(k:Nat) (out:Parts) (VA:Option Addr) (vc:Nat),k<=d.to.length/\n= .int .i64 k/\Hid (R=({s with graves:=s.graves++[⟨d.place,d.cls,fin,zbe (d.to.drop k) out,[]⟩]},0))/\Hid (GrSt out (zao (d.to.drop k)))/\out.length<=k/\OwnS wr W0.heap.size 63 3 zaa (.slice VA out.length vc) out/\wr.heap[GB]?=some (.cells #[.string d.place, .int .i64 d.cls, .int .i64 (fin), .slice VA out.length vc, .slice none 0 0] 46)/\Below W0.heap.size W0 wr) (fun n _=>d.to.length-(intOf n).toNat)
   case atStart=>exact⟨0,[],none,0,Nat.zero_le _,rfl,HE,Bj,Nat.le_refl _,OwnS.nil,gT.o,aS.o⟩
   case round=>
    obtain⟨k,out,VA,vc,hk,rfl,HX,HG,kr,ae,iz,cy⟩:=hrel;have uc:=cy.size;obtain⟨g0,g1,g2,g3,g4⟩:=zec iz;have gl:=zab iz;have bA:=zHi cy;have HO:=zHi ae;have ej:=zHi iz;obtain⟨⟨xs0,xd0,xr0⟩,⟨s0,s1,s2,s3,s4,s5,s6⟩,⟨d0,d1,d2,d3,d4,d5,d6⟩,⟨r0,r1,r2,r3,r4,r5,r6⟩,rf,ls,ld,lr⟩:=ddF (ax.o wr (cy));have vl:=zHi (HS.o wr (ak.o.trans (cy.mono aw)));by_cases aa:k<d.to.length
    ·obtain⟨b,off,hA,hb,ah⟩:=vl.o.at aa;have hx:=HX.o;have am:=HG.o;have gF:d.to.drop k=d.to[k]::d.to.drop (k+1):=List.drop_eq_getElem_cons aa;rw[gF]at hx am;have bn:=(jH.o.1 _ (List.getElem_mem aa)).2.2;have aq:=zHi aa;clear gF;generalize d.to[k]=y at*;obtain⟨nm,nu,de⟩:=y;have eR:R=({s with graves:=s.graves++[⟨d.place,d.cls,fin,zbe (d.to.drop (k+1)) (za3 out nm (Rat.divInt nu de)),[]⟩]},0):=hx;have cW:GrSt out ((nm,Rat.divInt nu de)::zao (d.to.drop (k+1))):=am;simp only at bn;have i0:wr.cell? ⟨b,off+k*3,none⟩=some (.string nm):=ah 0 _ rfl;have i1:wr.cell? ⟨b,off+k*3+1,none⟩=some (.int .i64 nu):=ah 1 _ rfl;have i2:wr.cell? ⟨b,off+k*3+2,none⟩=some (.int .i64 de):=ah 2 _ rfl;have ar:(k:Int)<(d.to.length:Int):=Mcl;have aT:(0:Int)<=(k:Int):=Mcl;obtain⟨r1,r2,r3,r4⟩:=zbl bn;have eF:=zHi (fun W (hW:Below wr.heap.size wr W)=>zcR out nm (Rat.divInt nu de) VA vc W Mcl cW.parts cW.small (ziT zan (HO.o.keep hW)).1);unfold za9 at eF;rw[r1,r2]at eF;have jW:=zHi cW.next;have au:=zHi eR;have cB:=zcy nm (Rat.divInt nu de) out;rw[hA]at d4
     have aL:=zHi (fun(W:World) (h:Below wr.heap.size wr W)=>(show W.cell? ⟨w.heap.size+1,4,none⟩=some (.slice (some ⟨b,off,none⟩) d.to.length c)/\W.cell? ⟨GB,3,none⟩=some (.slice VA out.length vc)/\W.cell? ⟨b,off+k*3,none⟩=some (.string nm)/\W.cell? ⟨b,off+k*3+1,none⟩=some (.int .i64 nu)/\W.cell? ⟨b,off+k*3+2,none⟩=some (.int .i64 de) from⟨(zah h ld).trans d4,(zah h gl).trans g3,(zah h hb).trans i0,(zah h hb).trans i1,(zah h hb).trans i2⟩));clear ah hx am eR cW bn aa r1 r2 r3 r4 ae iz hA;generalize za3 out nm (Rat.divInt nu de)=out1 at*;go_upto_region 13 with fail
     refine zaC 14 (fun bb w'=>bb=true\/(w'.cell? ⟨w.heap.size+1,4,none⟩=some (.slice (some ⟨b,off,none⟩) d.to.length c)/\w'.cell? ⟨GB,3,none⟩=some (.slice VA out.length vc)/\w'.cell? ⟨b,off+k*3,none⟩=some (.string nm)/\w'.cell? ⟨b,off+k*3+1,none⟩=some (.int .i64 nu)/\w'.cell? ⟨b,off+k*3+2,none⟩=some (.int .i64 de))) Mcm (.inr (aL.o _ (zaM (Below.refl _ _)))) ?hrest
     case hrest=>
      intro hHeld;clear g0 g1 g2 g3 g4 i0 i1 i2;clear xs0 xd0 xr0 s0 s1 s2 s3 s4 s5 s6 d0 d1 d2 d3 d4 d5 d6 r0 r1 r2 r3 r4 r5 r6 rf ls ld lr;refine TkM 0 ?_;refine TkM 1 ?_;refine TkM 2 ?_;refine TkM 3 ?_;refine TkM 4 ?_;refine TkM 5 ?_;refine TkM 6 ?_;refine TkM 7 ?_;refine TkM 8 ?_;refine TkM 9 ?_;refine TkM 10 ?_;refine TkM 11 ?_;refine TkM 12 ?_;refine TkM 13 ?_;refine OnM 14 true fun K hK=> ?_
      go_simp
      refine(eF.o _ (zaM (Below.refl _ _))).mono ?_;rintro e w5 ⟨v5,rfl,o5,b5⟩;obtain⟨YA,yc,rfl,_,_⟩:=o5.sl zan;have aj:Below wr.heap.size wr w5:=(zaM (Below.refl _ _)).trans b5;have g5:=(aj.block GB gl).trans ej.o;refine NxM hK fun hHeld=> ?_
      clear hK K;refine OnM 15 true fun K hK=> ?_
      go_simp
      refine NxM hK fun hHeld=> ?_
      clear hK K;obtain⟨g0,g1,g2,g3,g4⟩:=zec g5;have gf:=frz g5;have gl5:=zab g5;refine OnM 16 true fun K hK=> ?_
      go_simp
      refine NxM hK fun hHeld=> ?_
      clear hK K;refine zaQ Mcm ?_ _;have O5:=zHi (o5.base_le (show W0.heap.size<=wr.drew.heap.size by show W0.heap.size<=wr.heap.size;omega));have G5:=zHi g5;have aH:=zHi (bA.o.trans (aj.mono uc));clear hHeld g0 g1 g2 g3 g4 gf gl5 g5 o5 b5 aj;go_wp2_with fail
      go_round
      case rel=>
       refine⟨k+1,out1,YA,yc,aq.o,by go_num,au,jW,by omega,O5.o.kept (zau _ _ _ _) G5.o Mcn,?_,zaO aH.o iR _⟩;have:=Joins.block_setCell (i:=3) G5.o (.slice YA out1.length yc);simpa using this
      case measure=>have:=aq.o;simp only[intOf];omega
    ·have ar: ¬(k:Int)<(d.to.length:Int):=Mcl;have hx:=HX.o;rw[List.drop_of_length_le Mcl]at hx;have uy:Hid (R=({s with graves:=s.graves++[⟨d.place,d.cls,fin,out,[]⟩]},0)):=Md0;have JQ:=HF.o.graves;clear hx aa ae iz;go_upto_region 14 with fail
     clear ar;obtain⟨WX,kg⟩: ∃WX,WX=wr:=⟨_,rfl⟩
     subst kg;have dQ:=bA.o.size;have bu:Hid (s.graves.length=(gxs).length):=zHi (by rw[<-HM.o,List.length_map]);have tg:Hid ((gxs).length<=1000):=zHi (by rw[<-bu.o];exact HF.o.graves);have bZ:=zHi (fun W (hB:Below WX.heap.size WX W)=>AD.o.keep (ak.o.trans ((bA.o.trans (hB.mono dQ)).mono aw)));have aL:=zHi (fun(W:World) (h:Below WX.heap.size WX W)=>(show W.cell? ⟨w.heap.size,6,none⟩=some (.slice GA s.graves.length c6)/\W.cell? ⟨GB,0,none⟩=some (.string d.place)/\W.cell? ⟨GB,1,none⟩=some (.int .i64 d.cls)/\W.cell? ⟨GB,2,none⟩=some (.int .i64 fin)/\W.cell? ⟨GB,3,none⟩=some (.slice VA out.length vc)/\W.cell? ⟨GB,4,none⟩=some (.slice none 0 0) from⟨(zah h ls).trans s6,(zah h gl).trans g0,(zah h gl).trans g1,(zah h gl).trans g2,(zah h gl).trans g3,(zah h gl).trans g4⟩));clear g0 g1 g2 g3 g4;go_cut [5]from 62 to 70 (fun v wc=>(v=v/\ ∃V c',wc.heap[w.heap.size]?=some (.cells #[.slice LA laws.length c0, .slice CA s.children.length c1, .slice MA s.marriages.length c2, .slice DA s.dead.length c3, .slice WA wd.length c4, .slice RA rd.length c5, .slice V (s.graves.length+1) c'] 40)/\wc.heap[w.heap.size+2]?=some (.cells #[.slice none 0 0, .slice none 0 0, .slice none 0 0, .slice none 0 0, .slice none 0 0, .slice none 0 0, .slice none 0 0] 40)/\Ro wc 46 GX.cells V (gxs++[(⟨⟨d.place,d.cls,fin,out,[]⟩,VA,vc,none,0⟩:GX)])/\Below w.heap.size w wc)/\Ro wc 63 zaa VA out)
     case first=>
      refine zaC 6 (fun bb w'=>bb=true\/(w'.cell? ⟨w.heap.size,6,none⟩=some (.slice GA s.graves.length c6)/\w'.cell? ⟨GB,0,none⟩=some (.string d.place)/\w'.cell? ⟨GB,1,none⟩=some (.int .i64 d.cls)/\w'.cell? ⟨GB,2,none⟩=some (.int .i64 fin)/\w'.cell? ⟨GB,3,none⟩=some (.slice VA out.length vc)/\w'.cell? ⟨GB,4,none⟩=some (.slice none 0 0))) Mcm (.inr (aL.o _ (zaM (Below.refl _ _)))) ?hrest
      case hrest=>
       intro hHeld;clear xs0 xd0 xr0 s0 s1 s2 s3 s4 s5 s6 d0 d1 d2 d3 d4 d5 d6 r0 r1 r2 r3 r4 r5 r6 rf ls ld lr;refine TkM 1 ?_;refine TkM 2 ?_;refine TkM 4 ?_;refine TwM 0 5 (fun K hK=> ?_) fun K hK=> ?_
       ·go_simp
        have e0:Below WX.heap.size WX (WX.drew.alloc (.cells #[] 46)):=zac (zaM (Below.refl _ _)) _;have m0:OwnS (WX.drew.alloc (.cells #[] 46)) WX.heap.size 46 5 GX.cells (.slice (some ⟨WX.heap.size,0,none⟩) 0 0) []:=zdT zcS WX.drew WX.heap.size (Nat.le_refl _);refine NxM hK (fun hHeld=> ?_) (.inr (aL.o _ e0));clear hK K;refine TwM 3 5 (fun K hK=> ?_) fun K hK=> ?_
        ·refine zal (v:= .slice (some ⟨WX.heap.size,0,none⟩) 0 0) (n:=0) (m:=s.graves.length) rfl _ _ rfl zhl zcS zkb rfl (xs:=[]) (ys:=gxs) (m0) rfl rfl bu.o (bZ.o _ e0) Mct McE Mcw ?_;intro v4 w4 h1 h2 h3;rw[List.nil_append]at h1;obtain⟨V4,c4',b8,_,_⟩:=h1.sl zcS;rw[<-bu.o]at b8;subst b8;have aD:Below WX.heap.size WX w4:=Below.grown e0 h2 Mdl (fun j hj=>by simp[za7]at hj;omega);refine NxM hK (fun hHeld=> ?_) (.inr (aL.o _ aD));clear hK K;refine OnM 5 false fun K hK=> ?_
         go_simp
         have e1:Below WX.heap.size WX (w4.alloc (.cells #[.string d.place, .int .i64 d.cls, .int .i64 fin, .slice VA out.length vc, .slice none 0 0] 46)):=zac aD _;have n1:(w4.alloc (.cells #[.string d.place, .int .i64 d.cls, .int .i64 fin, .slice VA out.length vc, .slice none 0 0] 46)).heap[w4.heap.size]?=some (.cells #[.string d.place, .int .i64 d.cls, .int .i64 fin, .slice VA out.length vc, .slice none 0 0] 46):=zar _ _ _ rfl;have o1:OwnS (w4.alloc (.cells #[.string d.place, .int .i64 d.cls, .int .i64 fin, .slice VA out.length vc, .slice none 0 0] 46)) WX.heap.size 46 5 GX.cells (.slice V4 s.graves.length c4') gxs:=h1.keep (n:=w4.heap.size) (zac (Below.refl _ _) _);refine NxM hK (fun hHeld=> ?_) (.inr (aL.o _ e1));clear hK K;have o9:=o1;have n9:=n1;have e9:=e1;exact Mk
        ·go_simp
         have e1:Below WX.heap.size WX ((WX.drew.alloc (.cells #[] 46)).alloc (.cells #[.string d.place, .int .i64 d.cls, .int .i64 fin, .slice VA out.length vc, .slice none 0 0] 46)):=zac e0 _;have n1:((WX.drew.alloc (.cells #[] 46)).alloc (.cells #[.string d.place, .int .i64 d.cls, .int .i64 fin, .slice VA out.length vc, .slice none 0 0] 46)).heap[WX.heap.size+1]?=some (.cells #[.string d.place, .int .i64 d.cls, .int .i64 fin, .slice VA out.length vc, .slice none 0 0] 46):=zar _ _ _ Mco;have m1:OwnS ((WX.drew.alloc (.cells #[] 46)).alloc (.cells #[.string d.place, .int .i64 d.cls, .int .i64 fin, .slice VA out.length vc, .slice none 0 0] 46)) WX.heap.size 46 5 GX.cells (.slice (some ⟨WX.heap.size,0,none⟩) 0 0) []:=m0.keep (n:=(WX.drew.alloc (.cells #[] 46)).heap.size) (zac (Below.refl _ _) _);refine NxM hK (fun hHeld=> ?_) (.inr (aL.o _ e1));clear hK K;refine OnM 3 false fun K hK=> ?_
         refine zal (v:= .slice (some ⟨WX.heap.size,0,none⟩) 0 0) (n:=0) (m:=s.graves.length) rfl _ _ rfl zhl zcS zkb rfl (xs:=[]) (ys:=gxs) (m1) rfl rfl bu.o (bZ.o _ e1) Mct McE Mcs ?_;intro v4 w4 h1 h2 h3;rw[List.nil_append]at h1;obtain⟨V4,c4',b8,_,_⟩:=h1.sl zcS;rw[<-bu.o]at b8;subst b8;have aD:Below WX.heap.size WX w4:=Below.grown e1 h2 McG (fun j hj=>by simp[za7]at hj;omega);have n2:w4.heap[WX.heap.size+1]?=some (.cells #[.string d.place, .int .i64 d.cls, .int .i64 fin, .slice VA out.length vc, .slice none 0 0] 46):=(h2.block _ McC Mdd).trans n1;exact Mb3
       ·go_simp
        have e0:Below WX.heap.size WX (WX.drew.alloc (.cells #[.string d.place, .int .i64 d.cls, .int .i64 fin, .slice VA out.length vc, .slice none 0 0] 46)):=zac (zaM (Below.refl _ _)) _;have n0:(WX.drew.alloc (.cells #[.string d.place, .int .i64 d.cls, .int .i64 fin, .slice VA out.length vc, .slice none 0 0] 46)).heap[WX.heap.size]?=some (.cells #[.string d.place, .int .i64 d.cls, .int .i64 fin, .slice VA out.length vc, .slice none 0 0] 46):=zar _ _ _ rfl;refine NxM hK (fun hHeld=> ?_) (.inr (aL.o _ e0));clear hK K;refine OnM 0 false fun K hK=> ?_
        go_simp
        have e1:Below WX.heap.size WX ((WX.drew.alloc (.cells #[.string d.place, .int .i64 d.cls, .int .i64 fin, .slice VA out.length vc, .slice none 0 0] 46)).alloc (.cells #[] 46)):=zac e0 _;have n1:((WX.drew.alloc (.cells #[.string d.place, .int .i64 d.cls, .int .i64 fin, .slice VA out.length vc, .slice none 0 0] 46)).alloc (.cells #[] 46)).heap[WX.heap.size]?=some (.cells #[.string d.place, .int .i64 d.cls, .int .i64 fin, .slice VA out.length vc, .slice none 0 0] 46):=zak n0;have m1:OwnS ((WX.drew.alloc (.cells #[.string d.place, .int .i64 d.cls, .int .i64 fin, .slice VA out.length vc, .slice none 0 0] 46)).alloc (.cells #[] 46)) WX.heap.size 46 5 GX.cells (.slice (some ⟨WX.heap.size+1,0,none⟩) 0 0) []:=by
         have:=zdT (t:=46) zcS (WX.drew.alloc (.cells #[.string d.place, .int .i64 d.cls, .int .i64 fin, .slice VA out.length vc, .slice none 0 0] 46)) WX.heap.size Mco;simpa using this
        refine NxM hK (fun hHeld=> ?_) (.inr (aL.o _ e1));clear hK K;refine OnM 3 false fun K hK=> ?_
        refine zal (v:= .slice (some ⟨WX.heap.size+1,0,none⟩) 0 0) (n:=0) (m:=s.graves.length) rfl _ _ rfl zhl zcS zkb rfl (xs:=[]) (ys:=gxs) (m1) rfl rfl bu.o (bZ.o _ e1) Mct McE Mcs ?_;intro v4 w4 h1 h2 h3;rw[List.nil_append]at h1;obtain⟨V4,c4',b8,_,_⟩:=h1.sl zcS;rw[<-bu.o]at b8;subst b8;have aD:Below WX.heap.size WX w4:=Below.grown e1 h2 McG (fun j hj=>by simp[za7]at hj;omega);have n2:w4.heap[WX.heap.size]?=some (.cells #[.string d.place, .int .i64 d.cls, .int .i64 fin, .slice VA out.length vc, .slice none 0 0] 46):=(h2.block _ McC Mdd).trans n1;exact Mb3
     case rest=>
      obtain⟨⟨_,V,c',eQ,cv,ee,oe⟩,oN⟩:=hcut;clear xs0 xd0 xr0 s0 s1 s2 s3 s4 s5 s6 d0 d1 d2 d3 d4 d5 d6 r0 r1 r2 r3 r4 r5 r6 rf ls ld lr;obtain⟨s0,s1,s2,s3,s4,s5,s6⟩:=zaG eQ;obtain⟨r0,r1,r2,r3,r4,r5,r6⟩:=zaG cv;have rf:=frz cv;have ls:=zab eQ;have lr:=zab cv;go_wp2_with fail
      rw[uy.o];have dq:=zc9 (a0:= .slice LA laws.length c0) (a1:= .slice CA s.children.length c1) (a2:= .slice MA s.marriages.length c2) (a3:= .slice DA s.dead.length c3) (a4:= .slice WA wd.length c4) (a5:= .slice RA rd.length c5) (a6:= .slice V (s.graves.length+1) c') oe (show w.heap.size<=w.heap.size+2 by omega);refine bodyPost_ret (zbA rfl _ rfl rfl (zc0 cv)) rfl ?_;have h':=H.o _ dq;refine⟨_,_,_,_,_,_,_,rfl,rfl,dq,fun _=>⟨wd,rd,LA,CA,MA,DA,WA,RA,V,c0,c1,c2,c3,c4,c5,c',rfl,rfl,rfl,rfl,rfl,rfl,by rw[List.length_append];rfl,⟨h'.laws,h'.kids,h'.marr,h'.dead,h'.wills,h'.ren,?_,h'.deadc⟩,⟨HK.o.wills,HK.o.shares,HK.o.ren,HK.o.tos⟩⟩⟩;refine slw_gx ((zjd ee cv Mcn).sl zcS) (by rw[List.map_append,HM.o];rfl) fun x hx=> ?_
      rcases List.mem_append.1 hx with hx|hx
      ·exact(dm.o x hx).keep dq
      ·rw[List.mem_singleton.1 hx];exact⟨(zjd oN cv Mcn).sl zan,Sl.nil⟩
structure OffS (b:Nat) (W W':World):Prop where
 blk: ∃cs t fr,W.heap[b]?=some (.cells cs t fr)/\ ∀(j:Nat) (u:Value),cs[j]?=some u->zcC u=true
 same: ∀g,g≠b->W'.heap[g]?=W.heap[g]?
section
variable {b:Nat} {W W':World}
theorem OffS.ne (h:OffS b W W') {g i:Nat} {u:Value} (hc:W.cell? ⟨g,i,none⟩=some u) (hu:zcC u=false):g≠b:=by
 rintro rfl;obtain⟨cs,t,fr,h1,h2⟩:=h.blk;simp only[World.cell?,h1]at hc;have:=h2 i u Meo;rw[hu]at this;cases this
theorem OffS.cell (h:OffS b W W') {g i:Nat} (hg:g≠b):W'.cell? ⟨g,i,none⟩=W.cell? ⟨g,i,none⟩:=by simp only[World.cell?,h.same g hg]
theorem OffS.lt (h:OffS b W W') {g:Nat} (hg:g≠b) (hl:g<W.heap.size):g<W'.heap.size:=by
 have:=h.same g hg;rw[Array.getElem?_eq_getElem hl]at this;exact(Array.getElem?_eq_some_iff.1 this).1
theorem OffS.sl (h:OffS b W W') {α:Type} {size:Nat} {f:α->List Value} {A:Option Addr} {xs:List α} (h0: ∀x,∃u,(f x)[0]?=some u/\zcC u=false) (hS:Sl W size f A xs):Sl W' size f A xs:=fun hl=>by
 obtain⟨g,off,hA,hg,hc⟩:=hS hl;obtain⟨u,hu,hs⟩:=h0 xs[0];have cL:=h.ne (hc 0 _ (List.getElem?_eq_getElem hl) 0 u hu) hs;exact⟨g,off,hA,h.lt cL hg,fun k x hk j v hv=>(h.cell cL).trans (hc k x hk j v hv)⟩
theorem OffS.slw (h:OffS b W W') {α:Type} {size:Nat} {R:World->α->List Value->Prop} {A:Option Addr} {xs:List α} (h0: ∀x cs,R W x cs->R W' x cs/\ ∃u,cs[0]?=some u/\zcC u=false) (hS:SlW W size R A xs):SlW W' size R A xs:=fun hl=>by
 obtain⟨g,off,hA,hg,hc⟩:=hS hl;obtain⟨cs,hr,ah⟩:=hc 0 _ (List.getElem?_eq_getElem hl);obtain⟨_,u,hu,hs⟩:=h0 _ _ hr;have cL:=h.ne (ah 0 u hu) hs;refine⟨g,off,hA,h.lt cL hg,fun k x hk=> ?_⟩;obtain⟨cs,hr,ah⟩:=hc k x hk;exact⟨cs,(h0 _ _ hr).1,fun j v hv=>(h.cell cL).trans (ah j v hv)⟩
theorem OffS.st (h:OffS b W W') {laws:List Law} {s:St} {a0 a1 a2 a3 a4 a5 a6:Value} (hS:StAt W laws s a0 a1 a2 a3 a4 a5 a6):StAt W' laws s a0 a1 a2 a3 a4 a5 a6:=by
 obtain⟨wd,rd,LA,CA,MA,DA,WA,RA,GA,c0,c1,c2,c3,c4,c5,c6,e0,e1,e2,e3,e4,e5,e6,hI,hL⟩:=hS;have hd: ∀x cs,zfC W x cs->zfC W' x cs/\ ∃u,cs[0]?=some u/\zcC u=false:=by
  rintro x cs ⟨B,c,h1,rfl,h3⟩;exact⟨⟨B,c,h1,rfl,h.sl (fun p=>⟨_,rfl,rfl⟩) h3⟩,_,rfl,rfl⟩
 have hg: ∀x cs,zhZ W x cs->zhZ W' x cs/\ ∃u,cs[0]?=some u/\zcC u=false:=by
  rintro x cs ⟨H,hc,D,dc,rfl,h1,h2⟩;exact⟨⟨H,hc,D,dc,rfl,h.sl (fun p=>⟨_,rfl,rfl⟩) h1,h.sl (fun p=>⟨_,rfl,rfl⟩) h2⟩,_,rfl,rfl⟩
 exact⟨wd,rd,LA,CA,MA,DA,WA,RA,GA,c0,c1,c2,c3,c4,c5,c6,e0,e1,e2,e3,e4,e5,e6,
  ⟨h.sl (fun p=>⟨_,rfl,rfl⟩) hI.laws,h.sl (fun p=>⟨_,rfl,rfl⟩) hI.kids,h.sl (fun p=>⟨_,rfl,rfl⟩) hI.marr,h.sl (fun p=>⟨_,rfl,rfl⟩) hI.dead,h.slw hd hI.wills,h.slw hd hI.ren,h.slw hg hI.graves,hI.deadc⟩,hL⟩
theorem zc4 {x0 x1 x2 x3 x4 x5 x6 a0 a1 a2 a3 a4 a5 a6:Value} {t:TypeId} {fr:Nat×Nat} (hb:W.heap[b]?=some (.cells #[x0,x1,x2,x3,x4,x5,x6] t fr)) (hx:([x0,x1,x2,x3,x4,x5,x6].all zcC)=true):
 OffS b W (((((((W.setCell ⟨b,0,none⟩ a0).setCell ⟨b,1,none⟩ a1).setCell ⟨b,2,none⟩ a2).setCell ⟨b,3,none⟩ a3).setCell ⟨b,4,none⟩ a4).setCell ⟨b,5,none⟩ a5).setCell ⟨b,6,none⟩ a6):=by
 refine⟨⟨_,t,fr,hb,fun j u hu=> ?_⟩,fun g hg=> ?_⟩
 ·rw[List.all_eq_true]at hx;refine hx u ?_;have:=Array.mem_of_getElem? hu;simpa using this
 ·cases hc:W.heap[g]? with
  |some o=>exact J_ne hg (J_ne hg (J_ne hg (J_ne hg (J_ne hg (J_ne hg (J_ne hg hc))))))
  |none=>
   have hs:W.heap.size<=g:=Meo;rw[Array.getElem?_eq_none];simp;exact hs
end
theorem StAt.keep {W W':World} {laws:List Law} {s:St} {a0 a1 a2 a3 a4 a5 a6:Value} (h:StAt W laws s a0 a1 a2 a3 a4 a5 a6) (hB:Below W.heap.size W W'):StAt W' laws s a0 a1 a2 a3 a4 a5 a6:=by
 obtain⟨wd,rd,LA,CA,MA,DA,WA,RA,GA,c0,c1,c2,c3,c4,c5,c6,e0,e1,e2,e3,e4,e5,e6,hI,hL⟩:=h;exact⟨wd,rd,LA,CA,MA,DA,WA,RA,GA,c0,c1,c2,c3,c4,c5,c6,e0,e1,e2,e3,e4,e5,e6,hI.keep hB,hL⟩
def zkT (w:World) (laws:List Law) (R:St×Int) (e:Ending) (w':World):Prop:=
 ∃a0 a1 a2 a3 a4 a5 a6 b,e= .returned (.tuple #[.agg #[a0,a1,a2,a3,a4,a5,a6], .bool b])/\([a0,a1,a2,a3,a4,a5,a6].all zcC)=true/\Below w.heap.size w w'/\((b=true/\R.2=0/\StAt w' laws R.1 a0 a1 a2 a3 a4 a5 a6)\/(b=false/\R.2=8))
def zpl (laws:List Law) (s:St) (n:ByteArray) (day:Int):St×Int:=match zbz s n day (zbZ s (zaV laws day) n) 0 s.graves with
 |none=>(s,8)
 |some gs=>({s with graves:=gs,dead:=s.dead++[n]},0)
theorem rTake_of (laws:List Law) (s:St) (wd rd:List Deed) (LA CA MA DA WA RA GA:Option Addr) (c0 c1 c2 c3 c4 c5 c6:Nat) (d:Deed) (B:Option Addr) (c:Nat) (w:World) (h:StIn w laws s wd rd LA CA MA DA WA RA GA c0 c1 c2 c3 c4 c5 c6) (hk:StLink s wd rd) (hf:StFew s wd rd) (hd:OkD d) (hS:Sl w 3 RPart.cells B d.to) (ay:d.to.length<=c) (b9: ∀g∈s.graves,GoodG g/\g.holders.length<=50000) (bN: ∀g∈s.graves,g.fin<=200000)
 (ix: ∀W,Below w.heap.size w W->Calls Tryz.prog 140 #[.agg #[.slice LA laws.length c0, .slice CA s.children.length c1, .slice MA s.marriages.length c2, .slice DA s.dead.length c3, .slice WA wd.length c4, .slice RA rd.length c5, .slice GA s.graves.length c6], .string d.frm, .int .i64 d.day] W (zkT W laws (zpl laws s d.frm d.day))):Calls Tryz.prog 104 #[.agg #[.slice LA laws.length c0, .slice CA s.children.length c1, .slice MA s.marriages.length c2, .slice DA s.dead.length c3, .slice WA wd.length c4, .slice RA rd.length c5, .slice GA s.graves.length c6],d.v B c] w (zfH w laws (zbq laws s d)):=by
 obtain⟨R,hR⟩: ∃R,R=zbq laws s d:=⟨_,rfl⟩
 rw[<-hR];unfold zbq at hR;have ej:=zHi b9;have qk:=zHi bN;have yJ:=zHi ix;have lA:=zHi ay;obtain⟨dvs,wO,wP,rR⟩:=dv_of h.wills;have yM:=zHi wO;have sP:=zHi wP;have qe:=zHi rR;clear b9 bN ix ay wO wP rR;have H:=zHi (fun W (hB:Below w.heap.size w W)=>h.keep hB);have HK:=zHi hk;have HF:=zHi hf;have HD:=zHi hd;have HS:=zHi (fun W (hB:Below w.heap.size w W)=>hS.keep hB);have HR:=zHi hR;unfold Deed.v;clear h hk hf hd hS hR;go_enter Tryz.func104,Tryz.ntmps104
 go_upto_region 1 with fail
 generalize ao:World.alloc (World.alloc (World.alloc w _) _) _=W0;obtain⟨ak,ax⟩:=zeK ao;clear ao;have aw:=ak.o.size;obtain⟨⟨xs0,xd0,xr0⟩,⟨s0,s1,s2,s3,s4,s5,s6⟩,⟨d0,d1,d2,d3,d4,d5,d6⟩,⟨r0,r1,r2,r3,r4,r5,r6⟩,rf,ls,ld,lr⟩:=ddF (ax.o W0 (Below.refl _ _));have hr:=HR.o;have hH:=H.o W0 ak.o;have pj:=HS.o W0 ak.o;go_upto_region 1 with fail
 by_cases h0:d.kind=0
 ·have k0:(d.kind==0)=true:=by simp[h0]
  have HT:=zHi (zpk laws s wd rd LA CA MA DA WA RA GA c0 c1 c2 c3 c4 c5 c6 d B c W0 hH HK.o HF.o HD.o pj h0);have cR:R=zcM s d:=by rw[hr];simp[h0]
  rw[<-cR]at HT;unfold Deed.v at HT;clear hr h0 cR
  go_wp2_with (go_at_call 133
               go_must(refine(HT.o).mono ?_)
               rintro e w5 ⟨a0,a1,a2,a3,a4,a5,a6,rfl,aP,aj,am⟩;obtain⟨⟨_,_,_,rfl⟩,⟨_,_,_,rfl⟩,⟨_,_,_,rfl⟩,⟨_,_,_,rfl⟩,⟨_,_,_,rfl⟩,⟨_,_,_,rfl⟩,⟨_,_,_,rfl⟩⟩:=zcd aP;have aH:=zHi aj;have aB:=zHi am;obtain⟨_,_,xr5⟩:=ax.o w5 aj;obtain⟨t0,t1,t2,t3,t4,t5,t6⟩:=zaG xr5;have tf:=frz xr5
               clear aj am aP)
  exact Mv
 have k0:(d.kind==0)=false:=by simp[h0]
 by_cases h1:d.kind=1
 ·have k1:(d.kind==1)=true:=by simp[h1]
  have HT:=zHi (zkR laws s wd rd LA CA MA DA WA RA GA c0 c1 c2 c3 c4 c5 c6 d B c W0 hH HK.o HF.o HD.o pj h1 ej.o);have cR:R=zbp s d:=by rw[hr];simp[h1]
  rw[<-cR]at HT;unfold Deed.v at HT;clear hr h1 cR
  go_wp2_with (go_at_call 134
               go_must(refine(HT.o).mono ?_)
               rintro e w5 ⟨a0,a1,a2,a3,a4,a5,a6,rfl,aP,aj,am⟩;obtain⟨⟨_,_,_,rfl⟩,⟨_,_,_,rfl⟩,⟨_,_,_,rfl⟩,⟨_,_,_,rfl⟩,⟨_,_,_,rfl⟩,⟨_,_,_,rfl⟩,⟨_,_,_,rfl⟩⟩:=zcd aP;have aH:=zHi aj;have aB:=zHi am;obtain⟨_,_,xr5⟩:=ax.o w5 aj;obtain⟨t0,t1,t2,t3,t4,t5,t6⟩:=zaG xr5;have tf:=frz xr5
               clear aj am aP)
  exact Mv
 have k1:(d.kind==1)=false:=by simp[h1]
 by_cases h2:d.kind=2
 ·have k2:(d.kind==2)=true:=by simp[h2]
  have HT:=zHi (zjv laws s wd rd LA CA MA DA WA RA GA c0 c1 c2 c3 c4 c5 c6 d B c W0 hH HK.o HF.o HD.o pj ej.o);have cR:R=zaZ s d:=by rw[hr];simp[h2]
  rw[<-cR]at HT;unfold Deed.v at HT;clear hr h2 cR
  go_wp2_with (go_at_call 135
               go_must(refine(HT.o).mono ?_)
               rintro e w5 ⟨a0,a1,a2,a3,a4,a5,a6,rfl,aP,aj,am⟩;obtain⟨⟨_,_,_,rfl⟩,⟨_,_,_,rfl⟩,⟨_,_,_,rfl⟩,⟨_,_,_,rfl⟩,⟨_,_,_,rfl⟩,⟨_,_,_,rfl⟩,⟨_,_,_,rfl⟩⟩:=zcd aP;have aH:=zHi aj;have aB:=zHi am;obtain⟨_,_,xr5⟩:=ax.o w5 aj;obtain⟨t0,t1,t2,t3,t4,t5,t6⟩:=zaG xr5;have tf:=frz xr5
               clear aj am aP)
  exact Mv
 have k2:(d.kind==2)=false:=by simp[h2]
 by_cases h3:d.kind=3
 ·have k3:(d.kind==3)=true:=by simp[h3]
  have HT:=zHi (zpf laws s wd rd LA CA MA DA WA RA GA c0 c1 c2 c3 c4 c5 c6 d B c W0 hH HK.o HF.o HD.o pj qk.o);have cR:R=zcX s d:=by rw[hr];simp[h3]
  rw[<-cR]at HT;unfold Deed.v at HT;clear hr h3 cR
  go_wp2_with (go_at_call 136
               go_must(refine(HT.o).mono ?_)
               rintro e w5 ⟨a0,a1,a2,a3,a4,a5,a6,rfl,aP,aj,am⟩;obtain⟨⟨_,_,_,rfl⟩,⟨_,_,_,rfl⟩,⟨_,_,_,rfl⟩,⟨_,_,_,rfl⟩,⟨_,_,_,rfl⟩,⟨_,_,_,rfl⟩,⟨_,_,_,rfl⟩⟩:=zcd aP;have aH:=zHi aj;have aB:=zHi am;obtain⟨_,_,xr5⟩:=ax.o w5 aj;obtain⟨t0,t1,t2,t3,t4,t5,t6⟩:=zaG xr5;have tf:=frz xr5
               clear aj am aP)
  exact Mv
 have k3:(d.kind==3)=false:=by simp[h3]
 by_cases h5:d.kind=5
 ·have k5:(d.kind==5)=true:=by simp[h5]
  have HT:=zHi (zkS laws s wd rd LA CA MA DA WA RA GA c0 c1 c2 c3 c4 c5 c6 d B c W0 hH HK.o HF.o HD.o pj h5 lA.o);have cR:R=zb7 s d:=by rw[hr];simp[h5]
  rw[<-cR]at HT;unfold Deed.v at HT;clear hr h5 cR
  go_wp2_with (go_at_call 137
               go_must(refine(HT.o).mono ?_)
               rintro e w5 ⟨a0,a1,a2,a3,a4,a5,a6,rfl,aP,aj,am⟩;obtain⟨⟨_,_,_,rfl⟩,⟨_,_,_,rfl⟩,⟨_,_,_,rfl⟩,⟨_,_,_,rfl⟩,⟨_,_,_,rfl⟩,⟨_,_,_,rfl⟩,⟨_,_,_,rfl⟩⟩:=zcd aP;have aH:=zHi aj;have aB:=zHi am;obtain⟨_,_,xr5⟩:=ax.o w5 aj;obtain⟨t0,t1,t2,t3,t4,t5,t6⟩:=zaG xr5;have tf:=frz xr5
               clear aj am aP)
  exact Mv
 have k5:(d.kind==5)=false:=by simp[h5]
 by_cases h6:d.kind=6
 ·have k6:(d.kind==6)=true:=by simp[h6]
  have HT:=zHi (zpj laws s wd rd LA CA MA DA WA RA GA c0 c1 c2 c3 c4 c5 c6 d B c W0 hH HK.o HF.o HD.o pj h6);have cR:R=zcD s d:=by rw[hr];simp[h6]
  rw[<-cR]at HT;unfold Deed.v at HT;clear hr h6 cR
  go_wp2_with (go_at_call 138
               go_must(refine(HT.o).mono ?_)
               rintro e w5 ⟨a0,a1,a2,a3,a4,a5,a6,rfl,aP,aj,am⟩;obtain⟨⟨_,_,_,rfl⟩,⟨_,_,_,rfl⟩,⟨_,_,_,rfl⟩,⟨_,_,_,rfl⟩,⟨_,_,_,rfl⟩,⟨_,_,_,rfl⟩,⟨_,_,_,rfl⟩⟩:=zcd aP;have aH:=zHi aj;have aB:=zHi am;obtain⟨_,_,xr5⟩:=ax.o w5 aj;obtain⟨t0,t1,t2,t3,t4,t5,t6⟩:=zaG xr5;have tf:=frz xr5
               clear aj am aP)
  exact Mv
 have k6:(d.kind==6)=false:=by simp[h6]
 by_cases h7:d.kind=7
 ·have k7:(d.kind==7)=true:=by simp[h7]
  have HT:=zHi (zph laws s wd rd LA CA MA DA WA RA GA c0 c1 c2 c3 c4 c5 c6 d B c W0 hH HK.o HF.o HD.o pj h7);have cR:R=zdp s d:=by rw[hr];simp[h7]
  rw[<-cR]at HT;unfold Deed.v at HT;clear hr h7 cR
  go_wp2_with (go_at_call 139
               go_must(refine(HT.o).mono ?_)
               rintro e w5 ⟨a0,a1,a2,a3,a4,a5,a6,rfl,aP,aj,am⟩;obtain⟨⟨_,_,_,rfl⟩,⟨_,_,_,rfl⟩,⟨_,_,_,rfl⟩,⟨_,_,_,rfl⟩,⟨_,_,_,rfl⟩,⟨_,_,_,rfl⟩,⟨_,_,_,rfl⟩⟩:=zcd aP;have aH:=zHi aj;have aB:=zHi am;obtain⟨_,_,xr5⟩:=ax.o w5 aj;obtain⟨t0,t1,t2,t3,t4,t5,t6⟩:=zaG xr5;have tf:=frz xr5
               clear aj am aP)
  exact Mv
 have k7:(d.kind==7)=false:=by simp[h7]
 rw[k0,k1,k2,k3,k5,k6,k7]at hr;simp only[Bool.false_eq_true,if_false]at hr;have ig:=zHi (sDead d.frm W0 hH HF.o);clear pj hH;by_cases h4:d.kind=4
 ·have k4:(d.kind==4)=true:=by simp[h4]
  have Id:=zHi (zdX (HD.o.parts (.inr (.inr h4))).2).1;rw[k4,if_pos rfl]at hr;unfold zgO at hr;clear h0 h1 h2 h3 h4 h5 h6 h7;cases cd:zaH s d.frm;rotate_left 1
  ·exact Mcj
  rw[cd,if_neg Mco]at hr;rw[cd]at ig;have HE:=zHi hr;clear hr cd;go_upto_region 19 with(go_at_call 17;go_must(refine(ig.o).mono ?_);rintro e wq ⟨rfl,z,rfl⟩)
  obtain⟨WX,kg⟩: ∃WX,WX=W0.ext z:=⟨_,rfl⟩
  have hJ:Below W0.heap.size W0 WX:=by rw[kg];exact zam _ _
  rw[<-kg];have bA:=zHi hJ;have dQ:=hJ.size;clear kg hJ ig;clear xs0 xd0 xr0 s0 s1 s2 s3 s4 s5 s6 d0 d1 d2 d3 d4 d5 d6 r0 r1 r2 r3 r4 r5 r6 rf ls ld lr;obtain⟨⟨xs0,xd0,xr0⟩,⟨s0,s1,s2,s3,s4,s5,s6⟩,⟨d0,d1,d2,d3,d4,d5,d6⟩,⟨r0,r1,r2,r3,r4,r5,r6⟩,rf,ls,ld,lr⟩:=ddF (ax.o WX (bA.o));have KU:=HF.o.wills;have bu:Hid (wd.length=(dvs).length):=zHi (by rw[<-yM.o,List.length_map]);have tg:Hid ((dvs).length<=1000):=zHi (by rw[<-bu.o];exact HF.o.wills);have bZ:=zHi (fun W (hB:Below WX.heap.size WX W)=>qe.o.keep (ak.o.trans ((bA.o.trans (hB.mono dQ)).mono aw)));have aL:=zHi (fun(W:World) (h:Below WX.heap.size WX W)=>(show W.cell? ⟨w.heap.size,4,none⟩=some (.slice WA wd.length c4)/\W.cell? ⟨w.heap.size+1,0,none⟩=some (.int .i64 d.kind)/\W.cell? ⟨w.heap.size+1,1,none⟩=some (.int .i64 d.day)/\W.cell? ⟨w.heap.size+1,2,none⟩=some (.string d.place)/\W.cell? ⟨w.heap.size+1,3,none⟩=some (.string d.frm)/\W.cell? ⟨w.heap.size+1,4,none⟩=some (.slice B d.to.length c)/\W.cell? ⟨w.heap.size+1,5,none⟩=some (.int .i64 d.cls)/\W.cell? ⟨w.heap.size+1,6,none⟩=some (.int .i64 d.years) from⟨(zah h ls).trans s4,(zah h ld).trans d0,(zah h ld).trans d1,(zah h ld).trans d2,(zah h ld).trans d3,(zah h ld).trans d4,(zah h ld).trans d5,(zah h ld).trans d6⟩))
  go_cut [5]from 67 to 75 (fun v wc=>v=v/\ ∃V c',wc.heap[w.heap.size]?=some (.cells #[.slice LA laws.length c0, .slice CA s.children.length c1, .slice MA s.marriages.length c2, .slice DA s.dead.length c3, .slice V (wd.length+1) c', .slice RA rd.length c5, .slice GA s.graves.length c6] 40)/\wc.heap[w.heap.size+2]?=some (.cells #[.slice none 0 0, .slice none 0 0, .slice none 0 0, .slice none 0 0, .slice none 0 0, .slice none 0 0, .slice none 0 0] 40)/\Ro wc 68 DV.cells V (dvs++[(⟨d,B,c⟩:DV)])/\Below w.heap.size w wc)
  case first=>
   refine zaC 6 (fun bb w'=>bb=true\/(w'.cell? ⟨w.heap.size,4,none⟩=some (.slice WA wd.length c4)/\w'.cell? ⟨w.heap.size+1,0,none⟩=some (.int .i64 d.kind)/\w'.cell? ⟨w.heap.size+1,1,none⟩=some (.int .i64 d.day)/\w'.cell? ⟨w.heap.size+1,2,none⟩=some (.string d.place)/\w'.cell? ⟨w.heap.size+1,3,none⟩=some (.string d.frm)/\w'.cell? ⟨w.heap.size+1,4,none⟩=some (.slice B d.to.length c)/\w'.cell? ⟨w.heap.size+1,5,none⟩=some (.int .i64 d.cls)/\w'.cell? ⟨w.heap.size+1,6,none⟩=some (.int .i64 d.years))) Mcm (.inr (aL.o _ (zaM (Below.refl _ _)))) ?hrest
   case hrest=>
    intro hHeld;clear xs0 xd0 xr0 s0 s1 s2 s3 s4 s5 s6 d0 d1 d2 d3 d4 d5 d6 r0 r1 r2 r3 r4 r5 r6 rf ls ld lr;refine TkM 1 ?_;refine TkM 2 ?_;refine TkM 4 ?_;refine TwM 0 5 (fun K hK=> ?_) fun K hK=> ?_
    ·go_simp
     have e0:Below WX.heap.size WX (WX.drew.alloc (.cells #[] 68)):=zac (zaM (Below.refl _ _)) _;have m0:OwnS (WX.drew.alloc (.cells #[] 68)) WX.heap.size 68 7 DV.cells (.slice (some ⟨WX.heap.size,0,none⟩) 0 0) []:=zdT zcj WX.drew WX.heap.size (Nat.le_refl _);refine NxM hK (fun hHeld=> ?_) (.inr (aL.o _ e0));clear hK K;refine TwM 3 5 (fun K hK=> ?_) fun K hK=> ?_
     ·refine zal (v:= .slice (some ⟨WX.heap.size,0,none⟩) 0 0) (n:=0) (m:=wd.length) rfl _ _ rfl zgw zcj zgv rfl (xs:=[]) (ys:=dvs) (m0) rfl rfl bu.o (bZ.o _ e0) Mct McE Mcw ?_;intro v4 w4 h1 h2 h3;rw[List.nil_append]at h1;obtain⟨V4,c4',b8,_,_⟩:=h1.sl zcj;rw[<-bu.o]at b8;subst b8;have aD:Below WX.heap.size WX w4:=Below.grown e0 h2 Mdl (fun j hj=>by simp[za7]at hj;omega);refine NxM hK (fun hHeld=> ?_) (.inr (aL.o _ aD));clear hK K;refine OnM 5 false fun K hK=> ?_
      go_simp
      have e1:Below WX.heap.size WX (w4.alloc (.cells #[.int .i64 d.kind, .int .i64 d.day, .string d.place, .string d.frm, .slice B d.to.length c, .int .i64 d.cls, .int .i64 d.years] 68)):=zac aD _;have n1:(w4.alloc (.cells #[.int .i64 d.kind, .int .i64 d.day, .string d.place, .string d.frm, .slice B d.to.length c, .int .i64 d.cls, .int .i64 d.years] 68)).heap[w4.heap.size]?=some (.cells #[.int .i64 d.kind, .int .i64 d.day, .string d.place, .string d.frm, .slice B d.to.length c, .int .i64 d.cls, .int .i64 d.years] 68):=zar _ _ _ rfl;have o1:OwnS (w4.alloc (.cells #[.int .i64 d.kind, .int .i64 d.day, .string d.place, .string d.frm, .slice B d.to.length c, .int .i64 d.cls, .int .i64 d.years] 68)) WX.heap.size 68 7 DV.cells (.slice V4 wd.length c4') dvs:=h1.keep (n:=w4.heap.size) (zac (Below.refl _ _) _);refine NxM hK (fun hHeld=> ?_) (.inr (aL.o _ e1));clear hK K;have o9:=o1;have n9:=n1;have e9:=e1;exact Mp
     ·go_simp
      have e1:Below WX.heap.size WX ((WX.drew.alloc (.cells #[] 68)).alloc (.cells #[.int .i64 d.kind, .int .i64 d.day, .string d.place, .string d.frm, .slice B d.to.length c, .int .i64 d.cls, .int .i64 d.years] 68)):=zac e0 _;have n1:((WX.drew.alloc (.cells #[] 68)).alloc (.cells #[.int .i64 d.kind, .int .i64 d.day, .string d.place, .string d.frm, .slice B d.to.length c, .int .i64 d.cls, .int .i64 d.years] 68)).heap[WX.heap.size+1]?=some (.cells #[.int .i64 d.kind, .int .i64 d.day, .string d.place, .string d.frm, .slice B d.to.length c, .int .i64 d.cls, .int .i64 d.years] 68):=zar _ _ _ Mco;have m1:OwnS ((WX.drew.alloc (.cells #[] 68)).alloc (.cells #[.int .i64 d.kind, .int .i64 d.day, .string d.place, .string d.frm, .slice B d.to.length c, .int .i64 d.cls, .int .i64 d.years] 68)) WX.heap.size 68 7 DV.cells (.slice (some ⟨WX.heap.size,0,none⟩) 0 0) []:=m0.keep (n:=(WX.drew.alloc (.cells #[] 68)).heap.size) (zac (Below.refl _ _) _);refine NxM hK (fun hHeld=> ?_) (.inr (aL.o _ e1));clear hK K;refine OnM 3 false fun K hK=> ?_
      refine zal (v:= .slice (some ⟨WX.heap.size,0,none⟩) 0 0) (n:=0) (m:=wd.length) rfl _ _ rfl zgw zcj zgv rfl (xs:=[]) (ys:=dvs) (m1) rfl rfl bu.o (bZ.o _ e1) Mct McE Mcs ?_;intro v4 w4 h1 h2 h3;rw[List.nil_append]at h1;obtain⟨V4,c4',b8,_,_⟩:=h1.sl zcj;rw[<-bu.o]at b8;subst b8;have aD:Below WX.heap.size WX w4:=Below.grown e1 h2 McG (fun j hj=>by simp[za7]at hj;omega);have n2:w4.heap[WX.heap.size+1]?=some (.cells #[.int .i64 d.kind, .int .i64 d.day, .string d.place, .string d.frm, .slice B d.to.length c, .int .i64 d.cls, .int .i64 d.years] 68):=(h2.block _ McC Mdd).trans n1;exact Mb6
    ·go_simp
     have e0:Below WX.heap.size WX (WX.drew.alloc (.cells #[.int .i64 d.kind, .int .i64 d.day, .string d.place, .string d.frm, .slice B d.to.length c, .int .i64 d.cls, .int .i64 d.years] 68)):=zac (zaM (Below.refl _ _)) _;have n0:(WX.drew.alloc (.cells #[.int .i64 d.kind, .int .i64 d.day, .string d.place, .string d.frm, .slice B d.to.length c, .int .i64 d.cls, .int .i64 d.years] 68)).heap[WX.heap.size]?=some (.cells #[.int .i64 d.kind, .int .i64 d.day, .string d.place, .string d.frm, .slice B d.to.length c, .int .i64 d.cls, .int .i64 d.years] 68):=zar _ _ _ rfl;refine NxM hK (fun hHeld=> ?_) (.inr (aL.o _ e0));clear hK K;refine OnM 0 false fun K hK=> ?_
     go_simp
     have e1:Below WX.heap.size WX ((WX.drew.alloc (.cells #[.int .i64 d.kind, .int .i64 d.day, .string d.place, .string d.frm, .slice B d.to.length c, .int .i64 d.cls, .int .i64 d.years] 68)).alloc (.cells #[] 68)):=zac e0 _;have n1:((WX.drew.alloc (.cells #[.int .i64 d.kind, .int .i64 d.day, .string d.place, .string d.frm, .slice B d.to.length c, .int .i64 d.cls, .int .i64 d.years] 68)).alloc (.cells #[] 68)).heap[WX.heap.size]?=some (.cells #[.int .i64 d.kind, .int .i64 d.day, .string d.place, .string d.frm, .slice B d.to.length c, .int .i64 d.cls, .int .i64 d.years] 68):=zak n0;have m1:OwnS ((WX.drew.alloc (.cells #[.int .i64 d.kind, .int .i64 d.day, .string d.place, .string d.frm, .slice B d.to.length c, .int .i64 d.cls, .int .i64 d.years] 68)).alloc (.cells #[] 68)) WX.heap.size 68 7 DV.cells (.slice (some ⟨WX.heap.size+1,0,none⟩) 0 0) []:=by
      exact Maw
     refine NxM hK (fun hHeld=> ?_) (.inr (aL.o _ e1));clear hK K;refine OnM 3 false fun K hK=> ?_
     refine zal (v:= .slice (some ⟨WX.heap.size+1,0,none⟩) 0 0) (n:=0) (m:=wd.length) rfl _ _ rfl zgw zcj zgv rfl (xs:=[]) (ys:=dvs) (m1) rfl rfl bu.o (bZ.o _ e1) Mct McE Mcs ?_;intro v4 w4 h1 h2 h3;rw[List.nil_append]at h1;obtain⟨V4,c4',b8,_,_⟩:=h1.sl zcj;rw[<-bu.o]at b8;subst b8;have aD:Below WX.heap.size WX w4:=Below.grown e1 h2 McG (fun j hj=>by simp[za7]at hj;omega);have n2:w4.heap[WX.heap.size]?=some (.cells #[.int .i64 d.kind, .int .i64 d.day, .string d.place, .string d.frm, .slice B d.to.length c, .int .i64 d.cls, .int .i64 d.years] 68):=(h2.block _ McC Mdd).trans n1;exact Mb6
  case rest=>
   obtain⟨_,V,c',eQ,cv,ee,oe⟩:=hcut;clear xs0 xd0 xr0 s0 s1 s2 s3 s4 s5 s6 d0 d1 d2 d3 d4 d5 d6 r0 r1 r2 r3 r4 r5 r6 rf ls ld lr;obtain⟨s0,s1,s2,s3,s4,s5,s6⟩:=zaG eQ;obtain⟨r0,r1,r2,r3,r4,r5,r6⟩:=zaG cv;have rf:=frz cv;have ls:=zab eQ;have lr:=zab cv;go_wp2_with fail
   rw[HE.o];have dq:=zc9 (a0:= .slice LA laws.length c0) (a1:= .slice CA s.children.length c1) (a2:= .slice MA s.marriages.length c2) (a3:= .slice DA s.dead.length c3) (a4:= .slice V (wd.length+1) c') (a5:= .slice RA rd.length c5) (a6:= .slice GA s.graves.length c6) oe (show w.heap.size<=w.heap.size+2 by omega);refine bodyPost_ret (zbA rfl _ rfl rfl (zc0 cv)) rfl ?_;have h':=H.o _ dq;refine⟨_,_,_,_,_,_,_,rfl,rfl,dq,fun _=>⟨wd++[d],rd,LA,CA,MA,DA,V,RA,GA,c0,c1,c2,c3,c',c5,c6,rfl,rfl,rfl,rfl,by rw[List.length_append];rfl,rfl,rfl,⟨h'.laws,h'.kids,h'.marr,h'.dead,?_,h'.ren,h'.graves,h'.deadc⟩,⟨?_,?_,HK.o.ren,HK.o.tos⟩⟩⟩
   ·exact Mai
   ·rw[List.map_append,<-HK.o.wills];rfl
   ·intro x hx;rcases List.mem_append.1 hx with hx|hx
    ·exact HK.o.shares x hx
    ·rw[List.mem_singleton.1 hx];exact fun p hp=>(Id.o p hp).2.2
 ·have k4:(d.kind==4)=false:=by simp[h4]
  rw[k4]at hr;simp only[Bool.false_eq_true,if_false]at hr;unfold zdJ at hr;clear h0 h1 h2 h3 h4 h5 h6 h7;cases cd:zaH s d.frm;rotate_left 1
  ·exact Mcj
  rw[cd,if_neg Mco]at hr;rw[cd]at ig;have cR:R=zpl laws s d.frm d.day:=hr;have us:=zHi (fun W (hB:Below W0.heap.size W0 W)=>yJ.o W (ak.o.trans (hB.mono aw)));rw[<-cR]at us;clear hr cd cR yJ;go_upto_region 21 with(go_at_call 17;go_must(refine(ig.o).mono ?_);rintro e wq ⟨rfl,z,rfl⟩)
  obtain⟨W1,aV⟩: ∃W1,W1=W0.ext z:=⟨_,rfl⟩
  have aZ:Below W0.heap.size W0 W1:=Mdi;rw[<-aV];have im:=aZ.size;have aG:=zHi aZ;clear aV aZ ig;clear xs0 xd0 xr0 s0 s1 s2 s3 s4 s5 s6 d0 d1 d2 d3 d4 d5 d6 r0 r1 r2 r3 r4 r5 r6 rf ls ld lr;obtain⟨⟨xs0,xd0,xr0⟩,⟨s0,s1,s2,s3,s4,s5,s6⟩,⟨d0,d1,d2,d3,d4,d5,d6⟩,⟨r0,r1,r2,r3,r4,r5,r6⟩,rf,ls,ld,lr⟩:=ddF (ax.o W1 (aG.o))
  go_upto_region 22 with(go_at_call 140
                         go_must(refine(us.o _ aG.o).mono ?_)
                         rintro e w5 ⟨a0,a1,a2,a3,a4,a5,a6,bb,rfl,aP,aj,am⟩;obtain⟨⟨X0,n0,m0,rfl⟩,⟨X1,n1,m1,rfl⟩,⟨X2,n2,m2,rfl⟩,⟨X3,n3,m3,rfl⟩,⟨X4,n4,m4,rfl⟩,⟨X5,n5,m5,rfl⟩,⟨X6,n6,m6,rfl⟩⟩:=zcd aP;have aH:=zHi (aG.o.trans (aj.mono im));have aB:=zHi am
                         clear aj am aP)
  obtain⟨W6,eK⟩: ∃W6,W6=w5.alloc (.cells #[.slice X0 n0 m0, .slice X1 n1 m1, .slice X2 n2 m2, .slice X3 n3 m3, .slice X4 n4 m4, .slice X5 n5 m5, .slice X6 n6 m6] 40):=⟨_,rfl⟩
  have gY:W6.heap[w5.heap.size]?=some (.cells #[.slice X0 n0 m0, .slice X1 n1 m1, .slice X2 n2 m2, .slice X3 n3 m3, .slice X4 n4 m4, .slice X5 n5 m5, .slice X6 n6 m6] 40):=by rw[eK];exact zar _ _ _ rfl
  have aE:Below w5.heap.size w5 W6:=by rw[eK];exact zac (Below.refl _ _) _
  have aC:=zHi (aH.o.trans (aE.mono aH.o.size));have lm:=zHi aE;obtain⟨YB,ry⟩: ∃YB,YB=w5.heap.size:=⟨_,rfl⟩
  rw[<-eK,<-ry];rw[<-ry]at gY;clear eK ry aE;clear xs0 xd0 xr0 s0 s1 s2 s3 s4 s5 s6 d0 d1 d2 d3 d4 d5 d6 r0 r1 r2 r3 r4 r5 r6 rf ls ld lr;obtain⟨⟨xs0,xd0,xr0⟩,⟨s0,s1,s2,s3,s4,s5,s6⟩,⟨d0,d1,d2,d3,d4,d5,d6⟩,⟨r0,r1,r2,r3,r4,r5,r6⟩,rf,ls,ld,lr⟩:=ddF (ax.o W6 (aC.o));obtain⟨y0,y1,y2,y3,y4,y5,y6⟩:=zaG gY;have yB:=zab gY;obtain⟨R1,R2⟩:=R;rcases aB.o with⟨rfl,hz,am⟩|⟨rfl,hz⟩
  ·simp only at hz;subst hz;have eW:=zHi am;clear am;go_wp2_with fail
   refine bodyPost_ret (zbA rfl _ rfl rfl (zc0 xr0)) rfl ?_;exact⟨_,_,_,_,_,_,_,rfl,rfl,zc9 (ak.o.trans (aC.o.mono aw)) (show w.heap.size<=w.heap.size+2 by omega),fun _=>(zc4 xr0 rfl).st (eW.o.keep lm.o)⟩
  ·simp only at hz;subst hz;go_wp2_with fail
   refine bodyPost_ret (zbA rfl _ rfl rfl (zc0 xr0)) rfl ?_;exact⟨_,_,_,_,_,_,_,rfl,rfl,zc9 (ak.o.trans (aC.o.mono aw)) (show w.heap.size<=w.heap.size+2 by omega),fun e=>by cases e⟩
noncomputable def nxP (laws:List Law) (s:St) (ds:List Deed) (d:Deed):St×Int:=
 if decide (60<=ds.length)then(s,8)else if(ds.getLast?.map fun e=>decide (d.day<e.day)).getD false then(s,9)else zbq laws s d
theorem rNext_of (laws:List Law) (s:St) (wd rd:List Deed) (LA CA MA DA WA RA GA:Option Addr) (c0 c1 c2 c3 c4 c5 c6:Nat) (d:Deed) (B:Option Addr) (c:Nat) (w:World) (h:StIn w laws s wd rd LA CA MA DA WA RA GA c0 c1 c2 c3 c4 c5 c6) (hk:StLink s wd rd) (hf:StFew s wd rd) (hd:OkD d) (hS:Sl w 3 RPart.cells B d.to) (ds:List Deed) (DB:Option Addr) (dc:Nat) (ke:SlW w 7 zfC DB ds) (ay:d.to.length<=c) (b9: ∀g∈s.graves,GoodG g/\g.holders.length<=50000) (bN: ∀g∈s.graves,g.fin<=200000)
 (ix: ∀W,Below w.heap.size w W->Calls Tryz.prog 140 #[.agg #[.slice LA laws.length c0, .slice CA s.children.length c1, .slice MA s.marriages.length c2, .slice DA s.dead.length c3, .slice WA wd.length c4, .slice RA rd.length c5, .slice GA s.graves.length c6], .string d.frm, .int .i64 d.day] W (zkT W laws (zpl laws s d.frm d.day))):Calls Tryz.prog 64 #[.agg #[.slice LA laws.length c0, .slice CA s.children.length c1, .slice MA s.marriages.length c2, .slice DA s.dead.length c3, .slice WA wd.length c4, .slice RA rd.length c5, .slice GA s.graves.length c6], .slice DB ds.length dc,d.v B c] w (zfH w laws (nxP laws s ds d)):=by
 obtain⟨R,hR⟩: ∃R,R=nxP laws s ds d:=⟨_,rfl⟩
 rw[<-hR];unfold nxP at hR;have ej:=zHi b9;have qk:=zHi bN;have yJ:=zHi ix;have lA:=zHi ay;have g9:=zHi ke;clear b9 bN ix ay ke;have H:=zHi (fun W (hB:Below w.heap.size w W)=>h.keep hB);have HK:=zHi hk;have HF:=zHi hf;have HD:=zHi hd;have HS:=zHi (fun W (hB:Below w.heap.size w W)=>hS.keep hB);have HR:=zHi hR;unfold Deed.v;clear h hk hf hd hS hR;go_enter Tryz.func64,Tryz.ntmps64
 go_upto_region 1 with fail
 generalize ao:World.alloc (World.alloc (World.alloc w _) _) _=W0;obtain⟨ak,ax⟩:=zeK ao;clear ao;have aw:=ak.o.size;obtain⟨⟨xs0,xd0,xr0⟩,⟨s0,s1,s2,s3,s4,s5,s6⟩,⟨d0,d1,d2,d3,d4,d5,d6⟩,⟨r0,r1,r2,r3,r4,r5,r6⟩,rf,ls,ld,lr⟩:=ddF (ax.o W0 (Below.refl _ _));have hr:=HR.o
 have kQ:=zHi (fun W (hB:Below W0.heap.size W0 W)=>rTake_of laws s wd rd LA CA MA DA WA RA GA c0 c1 c2 c3 c4 c5 c6 d B c W (H.o W (ak.o.trans (hB.mono aw))) HK.o HF.o HD.o (HS.o W (ak.o.trans (hB.mono aw))) lA.o ej.o qk.o
  fun W' fD=>yJ.o W' ((ak.o.trans (hB.mono aw)).trans (fD.mono (by have:=ak.o.size;have:=hB.size;omega))))
 unfold Deed.v at kQ;by_cases h60:60<=ds.length
 ·have HE:Hid (R=(s,8)):=by show _=_;rw[hr,if_pos (by simpa using h60)]
  have hk:(60:Int)<=(ds.length:Int):=Mcl;clear hr;go_upto_region 2 with fail
  have bs:=Below.refl W0.heap.size W0;exact Mg
 have hk: ¬(60:Int)<=(ds.length:Int):=Mcl;rw[if_neg (by simpa using h60)]at hr;go_upto_region 3 with fail
 by_cases h0:0<ds.length
 ·have aa:ds.length-1<ds.length:=Mcl;obtain⟨gb,go,cs,kf,cL,dt,ah⟩:=(g9.o.keep zcf ak.o).at aa;have cB:ds.getLast?=some ds[ds.length-1]:=by rw[List.getLast?_eq_getElem?,List.getElem?_eq_getElem aa]
  rw[cB]at hr;generalize ds[ds.length-1]=e at*;obtain⟨EB,ec,tJ,rfl,hP⟩:=dt;have i1:W0.cell? ⟨gb,go+(ds.length-1)*7+1,none⟩=some (.int .i64 e.day):=ah 1 _ rfl;have tZ:R=if decide (d.day<e.day)=true then(s,9)else zbq laws s d:=hr;have bx:=zHi tZ;subst kf;generalize hn:ds.length=n at*;have hz:(0:Int)<(n:Int):=Mcl;have jD:wrap64 ((n:Int)-1)=(n:Int)-1:=wrap_m Mcl;have yt:(0:Int)<=(n:Int)-1:=Mcl;have KP:(n:Int)-1<(n:Int):=Mcl;have Gn:((n:Int)-1).toNat=n-1:=Mcl;clear hr tZ cB ah hP tJ hn h60;by_cases fj:d.day<e.day
  ·have HE:Hid (R=(s,9)):=by show _=_;rw[bx.o,if_pos (by simpa using fj)]
   (refine zaj Mcm Mcm ?_
    repeat(first|go_big_quiet_skip|(go_big_quiet_want;go_big_quiet_op;first|go_big_quiet_on|(apply Exists.intro;refine⟨fun _=> ?_,?_⟩;(fail);go_big_quiet_on)))
    refine wpQuiet_nil ?_
    rintro _ ⟨zq,rfl⟩)
   clear xs0 xd0 xr0 s0 s1 s2 s3 s4 s5 s6 d0 d1 d2 d3 d4 d5 d6 r0 r1 r2 r3 r4 r5 r6 rf ls ld lr;obtain⟨⟨xs0,xd0,xr0⟩,⟨s0,s1,s2,s3,s4,s5,s6⟩,⟨d0,d1,d2,d3,d4,d5,d6⟩,⟨r0,r1,r2,r3,r4,r5,r6⟩,rf,ls,ld,lr⟩:=ddF (ax.o (W0.ext zq) (zam _ _));clear i1;have bs:=zam W0 zq;exact Mg
  ·have cR:R=zbq laws s d:=by rw[bx.o,if_neg (by simpa using fj)]
   rw[<-cR]at kQ;clear cR
   (refine zaj Mcm Mcm ?_
    repeat(first|go_big_quiet_skip|(go_big_quiet_want;go_big_quiet_op;first|go_big_quiet_on|(apply Exists.intro;refine⟨fun _=> ?_,?_⟩;(fail);go_big_quiet_on)))
    refine wpQuiet_nil ?_
    rintro _ ⟨zq,rfl⟩)
   clear xs0 xd0 xr0 s0 s1 s2 s3 s4 s5 s6 d0 d1 d2 d3 d4 d5 d6 r0 r1 r2 r3 r4 r5 r6 rf ls ld lr;obtain⟨⟨xs0,xd0,xr0⟩,⟨s0,s1,s2,s3,s4,s5,s6⟩,⟨d0,d1,d2,d3,d4,d5,d6⟩,⟨r0,r1,r2,r3,r4,r5,r6⟩,rf,ls,ld,lr⟩:=ddF (ax.o (W0.ext zq) (zam _ _));clear i1;exact MbV
 ·have mO:ds=[]:=List.eq_nil_of_length_eq_zero Mcl;have cR:R=zbq laws s d:=by rw[hr,mO];rfl
  rw[<-cR]at kQ;generalize hn:ds.length=n at*;have hz:decide ((0:Int)<(n:Int))=false:=Mcq;have j9:decide (0<n)=false:=Mcq;have hz3: ¬0<n:=Mcl;clear hr cR mO hn h60 h0
  (refine zaj Mcm Mcm ?_
   repeat(first|go_big_quiet_skip|(go_big_quiet_want;go_big_quiet_op;first|go_big_quiet_on|(apply Exists.intro;refine⟨fun _=> ?_,?_⟩;(fail);go_big_quiet_on)))
   refine wpQuiet_nil ?_
   rintro _ ⟨zq,rfl⟩)
  clear xs0 xd0 xr0 s0 s1 s2 s3 s4 s5 s6 d0 d1 d2 d3 d4 d5 d6 r0 r1 r2 r3 r4 r5 r6 rf ls ld lr;obtain⟨⟨xs0,xd0,xr0⟩,⟨s0,s1,s2,s3,s4,s5,s6⟩,⟨d0,d1,d2,d3,d4,d5,d6⟩,⟨r0,r1,r2,r3,r4,r5,r6⟩,rf,ls,ld,lr⟩:=ddF (ax.o (W0.ext zq) (zam _ _));exact MbV
end Go.Proofs.YtckkbkdcdkhglaaGreatDoor

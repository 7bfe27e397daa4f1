/- Walk of the reference's next. -/
import Derived.Test.YtmfbdfejhdkiaaaGreatDoorXM
set_option linter.all false
set_option maxRecDepth 100000
set_option maxHeartbeats 4000000
namespace Go.Proofs.YtmfbdfejhdkiaaaGreatDoor
open Go.RowKit Go.Shelf
attribute [local go_sem] World.cell?_alloc_mark zae za4 zao za8 zav zaw zax zay zaz za0 za1
attribute [local go_sem] zap zac
structure GrSt (out l:Parts):Prop where
 good:GoodParts out
 isN:∀p∈out,IsN 720720 p.2
 le:sumQ out+sumQ l<=1
 pos:∀p∈l,0<=p.2
 lN:∀p∈l,IsN 720720 p.2
theorem GrSt.parts{out l:Parts}(h:GrSt out l):∀p∈out,zaL p.2:=by
 have h1:0<=sumQ l:=zbu h.pos;exact fun p hp=>(zdO (hs:=out) ⟨h.good,zc5 Mcu Mcu h.isN,by have:=h.le;grind⟩ hp).2.2
theorem GrSt.next{out l:Parts}{n:ByteArray}{q:Rat}(h:GrSt out ((n,q)::l)):GrSt (za5 out n q) l:=by
 have hq:=h.pos (n,q) Mcv;have bu:=h.le;rw[sumQ]at bu;exact⟨zbz hq h.good,zcF (h.lN (n,q) Mcv) h.isN,by rw[zbU];grind,fun p hp=>h.pos p Mds,fun p hp=>h.lN p Mds⟩
theorem GrSt.small{out l:Parts}{n:ByteArray}{q:Rat}(h:GrSt out ((n,q)::l)):zaL q:=by
 have hq:=h.pos (n,q) Mcv;have bu:=h.le;rw[sumQ]at bu;have h1:0<=sumQ l:=zbu fun p hp=>h.pos p Mds
 have h2:0<=sumQ out:=zbu fun p hp=>by have:=h.good.pos p hp;grind
 simp only at hq bu;exact zc8 Mcu Mcu (h.lN (n,q) Mcv) hq McN
theorem sl_grave{W:World}{b:Nat}{t:TypeId}{fr:Nat×Nat}(x:GX)(h:W.heap[b]?=some (.cells #[.string x.g.place,.int .i64 x.g.cls,.int .i64 x.g.fin,.slice x.H x.g.holders.length x.hc,.slice x.D x.g.died.length x.dc] t fr)):Sl W 5 GX.cells (some ⟨b,0,none⟩) [x]:=
 zgI zcX h (by simp[GX.cells])
theorem zpo(laws:List Law)(s:St)(wd rd:List Deed)(LA CA MA DA WA RA GA:Option Addr)(c0 c1 c2 c3 c4 c5 c6:Nat)(d:Deed)(B:Option Addr)(c:Nat)(w:World)(h:StIn w laws s wd rd LA CA MA DA WA RA GA c0 c1 c2 c3 c4 c5 c6)(hk:StLink s wd rd)(hf:StFew s wd rd)(hd:OkD d)(hS:Sl w 3 RPart.cells B d.to)(cC:d.kind=0):Calls Tryz.prog 73 #[.agg #[.slice LA laws.length c0,.slice CA s.children.length c1,.slice MA s.marriages.length c2,.slice DA s.dead.length c3,.slice WA wd.length c4,.slice RA rd.length c5,.slice GA s.graves.length c6],d.v B c] w (zfR w laws (zcT s d)):=by
 obtain⟨R,hR⟩:=Qd (zcT s d)
 rw[<-hR];have gZ:=zHi (zee (hd.parts (.inl cC)).2);have br:=hd.len;obtain⟨gxs,hm,bs,bv⟩:=zpf h.graves;obtain⟨HM,cY,BK⟩:=yH3 hm bs bv;unfold zcT at hR;clear cC hm bs bv;obtain⟨H,HK,HF,HD,HS,HR⟩:=yH6 (fun W (hB:Qa w W)=>h.keep hB) hk hf hd (fun W (hB:Qa w W)=>hS.keep hB) hR;unfold Deed.v;clear h hk hf hd hS hR;go_enter Tryz.func73,Tryz.ntmps73
 go_upto_region 1 with fail
 generalize am:World.alloc (World.alloc (World.alloc w _) _) _=W0;obtain⟨aj,au⟩:=zeL am;clear am;have aw:=aj.o.size;obtain⟨⟨xs0,xd0,xr0⟩,⟨s0,s1,s2,s3,s4,s5,s6⟩,⟨d0,d1,d2,d3,d4,d5,d6⟩,⟨r0,r1,r2,r3,r4,r5,r6⟩,rf,ls,ld,lr⟩:=ddF (au.o W0 Qb);have eC:=zHi (fun W (hB:Qa W0 W)=>zlZ d.place d.day W (H.o W (aj.o.trans (hB.mono aw))) HF.o);have ki:=zHi (fun W (hB:Qa W0 W)=>zma d.to B c W (H.o W (aj.o.trans (hB.mono aw))) HF.o Mcq (HS.o W (aj.o.trans (hB.mono aw))));have hr:=HR.o;cases aK:zaS s d.place d.day with
 |some i=>
  rw[aK]at hr;rw[zez aK]at eC;have eG:(0:Int)<=(i:Int):=Mcq;have HE:Hid (R=(s,13)):=zHi hr;clear hr aK;go_upto_region 2 with(go_at_call 116;go_must(refine(eC.o _ Qb).mono ?_);rintro e wq ⟨rfl,z,rfl⟩)
  have aZ:=zaq W0 z;exact MbS
 |none=>
  rw[aK]at hr;rw[ziZ aK]at eC;simp only[Option.isSome_none,Bool.false_eq_true,if_false]at hr;cases fX:ze1 s d.to;rotate_left 1
  ·have HE:Hid (R=(s,28)):=by show _=_;rw[hr,fX];rfl
   rw[fX]at ki;clear hr aK fX
   go_upto_region 4 with(first
    |(go_at_call 116;go_must(refine(eC.o _ Qb).mono ?_);rintro e wq ⟨rfl,z,rfl⟩)
    |(go_at_call 117;go_must(refine(ki.o _ Bw).mono ?_);rintro e wq ⟨rfl,z3,rfl⟩))
   have aZ:Qa W0 ((W0.ext z).ext z3):=zaZ (zaq _ _) _;have aZ:=aZ;exact MbS
  rw[fX,if_neg Mcv]at hr;rw[fX]at ki;have Bh:=zHi (fun W=>zjV d.day d.years W HD.o.day.1 HD.o.day.2 HD.o.years.1 HD.o.years.2);generalize zcg d.day d.years=af at*;have bA:=zHi hr;clear hr aK fX
  go_upto_region 6 with(first
   |(go_at_call 116;go_must(refine(eC.o _ Qb).mono ?_);rintro e wq ⟨rfl,z,rfl⟩)
   |(go_at_call 117;go_must(refine(ki.o _ Bw).mono ?_);rintro e wq ⟨rfl,z3,rfl⟩))
  obtain⟨GB,jl⟩:=Qd (W0.heap.size+z.os.size+z3.os.size)
  obtain⟨W1,aP⟩:=Qd (((W0.ext z).ext z3).alloc (.cells #[.string d.place,.int .i64 d.cls,.int .i64 (-1),.slice none 0 0,.slice none 0 0] 161))
  have gG:W1.heap[GB]?=some (.cells #[.string d.place,.int .i64 d.cls,.int .i64 (-1),.slice none 0 0,.slice none 0 0] 161):=by rw[aP];exact zat _ _ _ (by rw[jl];simp[zae])
  have aO:Qa W0 W1:=by rw[aP];exact zad (zaZ (zaq _ _) _) _
  have iY:W0.heap.size<=GB:=Mcq;rw[<-aP,<-jl];clear aP jl eC ki;clear xs0 xd0 xr0 s0 s1 s2 s3 s4 s5 s6 d0 d1 d2 d3 d4 d5 d6 r0 r1 r2 r3 r4 r5 r6 rf ls ld lr;obtain⟨g0,g1,g2,g3,g4⟩:=zeg gG;have gf:=frz gG;have gl:=zab gG;obtain⟨GG,aE⟩:=yH2 gG aO;clear gG aO;obtain⟨⟨xs0,xd0,xr0⟩,⟨s0,s1,s2,s3,s4,s5,s6⟩,⟨d0,d1,d2,d3,d4,d5,d6⟩,⟨r0,r1,r2,r3,r4,r5,r6⟩,rf,ls,ld,lr⟩:=ddF (au.o W1 (aE.o));go_upto_if 28 with fail
  go_cut [5]from 26 to 39 (fun v wc=>v=v/\∃fin:Int,Hid (R=({s with graves:=s.graves++[⟨d.place,d.cls,fin,zbe d.to [],[]⟩]},0))/\wc.heap[GB]?=some (.cells #[.string d.place,.int .i64 d.cls,.int .i64 (fin),.slice none 0 0,.slice none 0 0] 161)/\Qa W0 wc)
  case first=>
   by_cases hy:0<d.years
   ·have hr:=bA.o;have oW:decide (0<d.years)=true:=by simpa using hy
    rw[oW]at hr;simp only[Bool.true_and,if_true]at hr;go_upto_region 8 with(go_at_call 118;go_must(refine(Bh.o _).mono ?_);rintro e wq ⟨rfl,z5,rfl⟩)
    obtain⟨W2,cF⟩:=Qd ((W1.setCell ⟨GB,2,none⟩ (.int .i64 af)).ext z5)
    have gG2:W2.heap[GB]?=some (.cells #[.string d.place,.int .i64 d.cls,.int .i64 (af),.slice none 0 0,.slice none 0 0] 161):=by
     rw[cF];exact Mbt
    have bx:Qa W0 W2:=by rw[cF];exact zaZ (zaN aE.o iY _) z5
    rw[<-cF];clear cF g0 g1 g2 g3 g4 gf gl;clear xs0 xd0 xr0 s0 s1 s2 s3 s4 s5 s6 d0 d1 d2 d3 d4 d5 d6 r0 r1 r2 r3 r4 r5 r6 rf ls ld lr;obtain⟨g0,g1,g2,g3,g4⟩:=zeg gG2;have gl:=zab gG2;obtain⟨aC,G2⟩:=yH2 bx gG2;clear bx gG2;obtain⟨⟨xs0,xd0,xr0⟩,⟨s0,s1,s2,s3,s4,s5,s6⟩,⟨d0,d1,d2,d3,d4,d5,d6⟩,⟨r0,r1,r2,r3,r4,r5,r6⟩,rf,ls,ld,lr⟩:=ddF (au.o W2 (aC.o));by_cases oN:af<0
    ·have HE:Hid (R=(s,2)):=by show _=_;rw[hr,if_pos (by simpa using oN)]
     clear hr;go_upto_region 9 with fail
     have aZ:=aC.o;exact Mf
    ·have HE:Hid (R=({s with graves:=s.graves++[⟨d.place,d.cls,af,zbe d.to [],[]⟩]},0)):=by show _=_;rw[hr,if_neg (by simpa using oN)]
     clear hr;go_wp2_with fail
     go_meet
     exact⟨by first|rfl|trivial,af,HE,G2.o,aC.o⟩
   ·have hr:=bA.o;have oW:decide (0<d.years)=false:=by simpa using hy
    rw[oW]at hr;simp only[Bool.false_and,Bool.false_eq_true,if_false]at hr;have HE:=zHi hr;clear hr;go_wp2_with fail
    go_meet
    exact⟨by first|rfl|trivial,-1,HE,GG.o,aE.o⟩
  case rest=>
   obtain⟨_,fin,HE,gG2,bx⟩:=hcut;obtain⟨W2,cF⟩:=Qd wc
   subst cF;have aC:=zHi bx;have l8:=bx.size;have fQ:=zHi gG2
   have pF:GrSt [] (zan d.to):=⟨⟨List.Pairwise.nil,by simp⟩,by simp,by show(0:Rat)+_<=1;have:=gZ.o.2.1;grind,fun p hp=>by
    obtain⟨q,hq,rfl⟩:=List.mem_map.1 hp;have:=(gZ.o.1 q hq).1;show 0<=q.rat;grind,fun p hp=>by
    obtain⟨q,hq,rfl⟩:=List.mem_map.1 hp
    exact(gZ.o.1 q hq).2.1⟩
   have Co:=zHi pF;clear g0 g1 g2 g3 g4 gf gl bx gG2 pF;clear xs0 xd0 xr0 s0 s1 s2 s3 s4 s5 s6 d0 d1 d2 d3 d4 d5 d6 r0 r1 r2 r3 r4 r5 r6 rf ls ld lr;go_upto_region 11 with fail
   go_loopw [7] (fun n wr=>∃(k:Nat) (out:Parts) (VA:Option Addr) (vc:Nat),k<=d.to.length/\n=.int .i64 k/\Hid (R=({s with graves:=s.graves++[⟨d.place,d.cls,fin,zbe (d.to.drop k) out,[]⟩]},0))/\Hid (GrSt out (zan (d.to.drop k)))/\out.length<=k/\OwnS wr W0.heap.size 59 3 zaa (.slice VA out.length vc) out/\wr.heap[GB]?=some (.cells #[.string d.place,.int .i64 d.cls,.int .i64 (fin),.slice VA out.length vc,.slice none 0 0] 161)/\Qa W0 wr) (fun n _=>d.to.length-(intOf n).toNat)
   case atStart=>exact⟨0,[],none,0,Nat.zero_le _,rfl,HE,Co,Qc,OwnS.nil,fQ.o,aC.o⟩
   case round=>
    obtain⟨k,out,VA,vc,hk,rfl,HX,HG,nV,ac,iw,cw⟩:=hrel;have uJ:=cw.size;obtain⟨g0,g1,g2,g3,g4⟩:=zeg iw;have gl:=zab iw;obtain⟨bw,HO,ej⟩:=yH3 cw ac iw;obtain⟨⟨xs0,xd0,xr0⟩,⟨s0,s1,s2,s3,s4,s5,s6⟩,⟨d0,d1,d2,d3,d4,d5,d6⟩,⟨r0,r1,r2,r3,r4,r5,r6⟩,rf,ls,ld,lr⟩:=ddF (au.o wr (cw));have vR:=zHi (HS.o wr (aj.o.trans (cw.mono aw)));by_cases aa:k<d.to.length
    ·obtain⟨b,off,hA,hb,ah⟩:=vR.o.at aa;have hx:=HX.o;have ai:=HG.o;have gI:d.to.drop k=d.to[k]::d.to.drop (k+1):=List.drop_eq_getElem_cons aa;rw[gI]at hx ai;have bJ:=(gZ.o.1 _ (List.getElem_mem aa)).2.2;have ak:=zHi aa;clear gI;generalize d.to[k]=y at*;obtain⟨nm,nu,de⟩:=y;have cW:R=({s with graves:=s.graves++[⟨d.place,d.cls,fin,zbe (d.to.drop (k+1)) (za5 out nm (Rat.divInt nu de)),[]⟩]},0):=hx;have bQ:GrSt out ((nm,Rat.divInt nu de)::zan (d.to.drop (k+1))):=ai;simp only at bJ;have i0:wr.cell? ⟨b,off+k*3,none⟩=some (.string nm):=ah 0 _ rfl;have i1:wr.cell? ⟨b,off+k*3+1,none⟩=some (.int .i64 nu):=ah 1 _ rfl;have i2:wr.cell? ⟨b,off+k*3+2,none⟩=some (.int .i64 de):=ah 2 _ rfl;have ar:(k:Int)<(d.to.length:Int):=Mcq;have aR:(0:Int)<=(k:Int):=Mcq;obtain⟨r1,r2,r3,r4⟩:=zbl bJ;have eD:=zHi (fun W (hW:Qa wr W)=>zcW out nm (Rat.divInt nu de) VA vc W Mcq bQ.parts bQ.small (ziM zai (HO.o.keep hW)).1);unfold zaD at eD;rw[r1,r2]at eD;obtain⟨gX,ax⟩:=yH2 bQ.next cW;have cg:=zc0 nm (Rat.divInt nu de) out;rw[hA]at d4
     have aB:=zHi (fun(W:World) (h:Qa wr W)=>(show W.cell? ⟨w.heap.size+1,4,none⟩=some (.slice (some ⟨b,off,none⟩) d.to.length c)/\W.cell? ⟨GB,3,none⟩=some (.slice VA out.length vc)/\W.cell? ⟨b,off+k*3,none⟩=some (.string nm)/\W.cell? ⟨b,off+k*3+1,none⟩=some (.int .i64 nu)/\W.cell? ⟨b,off+k*3+2,none⟩=some (.int .i64 de) from⟨(zah h ld).trans d4,(zah h gl).trans g3,(zah h hb).trans i0,(zah h hb).trans i1,(zah h hb).trans i2⟩));clear ah hx ai cW bQ bJ aa r1 r2 r3 r4 ac iw hA;generalize za5 out nm (Rat.divInt nu de)=out1 at*;go_upto_region 13 with fail
     refine zaJ 14 (fun bb w'=>bb=true\/(w'.cell? ⟨w.heap.size+1,4,none⟩=some (.slice (some ⟨b,off,none⟩) d.to.length c)/\w'.cell? ⟨GB,3,none⟩=some (.slice VA out.length vc)/\w'.cell? ⟨b,off+k*3,none⟩=some (.string nm)/\w'.cell? ⟨b,off+k*3+1,none⟩=some (.int .i64 nu)/\w'.cell? ⟨b,off+k*3+2,none⟩=some (.int .i64 de))) Mcs (.inr (aB.o _ (zaF Qb))) ?hrest
     case hrest=>
      intro hHeld;clear g0 g1 g2 g3 g4 i0 i1 i2;clear xs0 xd0 xr0 s0 s1 s2 s3 s4 s5 s6 d0 d1 d2 d3 d4 d5 d6 r0 r1 r2 r3 r4 r5 r6 rf ls ld lr;refine TkM 0 ?_;refine TkM 1 ?_;refine TkM 2 ?_;refine TkM 3 ?_;refine TkM 4 ?_;refine TkM 5 ?_;refine TkM 6 ?_;refine TkM 7 ?_;refine TkM 8 ?_;refine TkM 9 ?_;refine TkM 10 ?_;refine TkM 11 ?_;refine TkM 12 ?_;refine TkM 13 ?_;refine OnM 14 true fun K hK=>?_
      go_simp
      refine(eD.o _ (zaF Qb)).mono ?_;rintro e w5 ⟨v5,rfl,o5,b5⟩;obtain⟨YA,yc,rfl,_,_⟩:=o5.sl zai;have aq:Qa wr w5:=(zaF Qb).trans b5;have g5:=(aq.block GB gl).trans ej.o;refine NxM hK fun hHeld=>?_
      clear hK K;refine OnM 15 true fun K hK=>?_
      go_simp
      refine NxM hK fun hHeld=>?_
      clear hK K;obtain⟨g0,g1,g2,g3,g4⟩:=zeg g5;have gf:=frz g5;have gl5:=zab g5;refine OnM 16 true fun K hK=>?_
      go_simp
      refine NxM hK fun hHeld=>?_
      clear hK K;refine zaV Mcs ?_ _;obtain⟨O5,G5,bn⟩:=yH3 (o5.base_le (show W0.heap.size<=wr.drew.heap.size by show W0.heap.size<=wr.heap.size;omega)) g5 (bw.o.trans (aq.mono uJ));clear hHeld g0 g1 g2 g3 g4 gf gl5 g5 o5 b5 aq;go_wp2_with fail
      go_round
      case rel=>
       refine⟨k+1,out1,YA,yc,ak.o,by go_num,ax,gX,by omega,O5.o.kept (za2 _ _ _ _) G5.o Mcu,?_,zaN bn.o iY _⟩;have:=Joins.block_setCell (i:=3) G5.o (.slice YA out1.length yc);simpa using this
      case measure=>have:=ak.o;simp only[intOf];omega
    ·have ar:¬(k:Int)<(d.to.length:Int):=Mcq;have hx:=HX.o;rw[List.drop_of_length_le Mcq]at hx;have iJ:Hid (R=({s with graves:=s.graves++[⟨d.place,d.cls,fin,out,[]⟩]},0)):=Md9;have Lt:=HF.o.graves;clear hx aa ac iw;go_upto_region 14 with fail
     clear ar;obtain⟨WX,ku⟩:=Qd wr
     subst ku;have dG:=bw.o.size;have bp:Hid (s.graves.length=(gxs).length):=zHi (by rw[<-HM.o,List.length_map]);have u9:Hid ((gxs).length<=1000):=zHi (by rw[<-bp.o];exact HF.o.graves);have cd:=zHi (fun W (hB:Qa WX W)=>BK.o.keep (aj.o.trans ((bw.o.trans (hB.mono dG)).mono aw)));have aB:=zHi (fun(W:World) (h:Qa WX W)=>(show W.cell? ⟨w.heap.size,6,none⟩=some (.slice GA s.graves.length c6)/\W.cell? ⟨GB,0,none⟩=some (.string d.place)/\W.cell? ⟨GB,1,none⟩=some (.int .i64 d.cls)/\W.cell? ⟨GB,2,none⟩=some (.int .i64 fin)/\W.cell? ⟨GB,3,none⟩=some (.slice VA out.length vc)/\W.cell? ⟨GB,4,none⟩=some (.slice none 0 0) from⟨(zah h ls).trans s6,(zah h gl).trans g0,(zah h gl).trans g1,(zah h gl).trans g2,(zah h gl).trans g3,(zah h gl).trans g4⟩));clear g0 g1 g2 g3 g4;go_cut [5]from 62 to 70 (fun v wc=>(v=v/\∃V c',wc.heap[w.heap.size]?=some (.cells #[.slice LA laws.length c0,.slice CA s.children.length c1,.slice MA s.marriages.length c2,.slice DA s.dead.length c3,.slice WA wd.length c4,.slice RA rd.length c5,.slice V (s.graves.length+1) c'] 35)/\wc.heap[w.heap.size+2]?=some (.cells #[.slice none 0 0,.slice none 0 0,.slice none 0 0,.slice none 0 0,.slice none 0 0,.slice none 0 0,.slice none 0 0] 35)/\Ro wc 161 GX.cells V (gxs++[(⟨⟨d.place,d.cls,fin,out,[]⟩,VA,vc,none,0⟩:GX)])/\Qa w wc)/\Ro wc 59 zaa VA out)
     case first=>
      refine zaJ 6 (fun bb w'=>bb=true\/(w'.cell? ⟨w.heap.size,6,none⟩=some (.slice GA s.graves.length c6)/\w'.cell? ⟨GB,0,none⟩=some (.string d.place)/\w'.cell? ⟨GB,1,none⟩=some (.int .i64 d.cls)/\w'.cell? ⟨GB,2,none⟩=some (.int .i64 fin)/\w'.cell? ⟨GB,3,none⟩=some (.slice VA out.length vc)/\w'.cell? ⟨GB,4,none⟩=some (.slice none 0 0))) Mcs (.inr (aB.o _ (zaF Qb))) ?hrest
      case hrest=>
       intro hHeld;clear xs0 xd0 xr0 s0 s1 s2 s3 s4 s5 s6 d0 d1 d2 d3 d4 d5 d6 r0 r1 r2 r3 r4 r5 r6 rf ls ld lr;refine TkM 1 ?_;refine TkM 2 ?_;refine TkM 4 ?_;refine TwM 0 5 (fun K hK=>?_) fun K hK=>?_
       ·go_simp
        have e0:Qa WX (WX.drew.alloc (.cells #[] 161)):=zad (zaF Qb) _;have m0:OwnS (WX.drew.alloc (.cells #[] 161)) WX.heap.size 161 5 GX.cells (.slice (some ⟨WX.heap.size,0,none⟩) 0 0) []:=zea zcX WX.drew WX.heap.size Qc;refine NxM hK (fun hHeld=>?_) (.inr (aB.o _ e0));clear hK K;refine TwM 3 5 (fun K hK=>?_) fun K hK=>?_
        ·refine zak (v:=.slice (some ⟨WX.heap.size,0,none⟩) 0 0) (n:=0) (m:=s.graves.length) rfl _ _ rfl zhw zcX zjW rfl (xs:=[]) (ys:=gxs) (m0) rfl rfl bp.o (cd.o _ e0) Mcy McJ McC ?_;intro v4 w4 h1 h2 h3;rw[List.nil_append]at h1;obtain⟨V4,c4',aT,_,_⟩:=h1.sl zcX;rw[<-bp.o]at aT;subst aT;have ay:Qa WX w4:=Below.grown e0 h2 Mdr (fun j hj=>by simp[za6]at hj;omega);refine NxM hK (fun hHeld=>?_) (.inr (aB.o _ ay));clear hK K;refine OnM 5 false fun K hK=>?_
         go_simp
         have e1:Qa WX (w4.alloc (.cells #[.string d.place,.int .i64 d.cls,.int .i64 fin,.slice VA out.length vc,.slice none 0 0] 161)):=zad ay _;have n1:(w4.alloc (.cells #[.string d.place,.int .i64 d.cls,.int .i64 fin,.slice VA out.length vc,.slice none 0 0] 161)).heap[w4.heap.size]?=some (.cells #[.string d.place,.int .i64 d.cls,.int .i64 fin,.slice VA out.length vc,.slice none 0 0] 161):=zat _ _ _ rfl;have o1:OwnS (w4.alloc (.cells #[.string d.place,.int .i64 d.cls,.int .i64 fin,.slice VA out.length vc,.slice none 0 0] 161)) WX.heap.size 161 5 GX.cells (.slice V4 s.graves.length c4') gxs:=h1.keep (n:=w4.heap.size) (zad Qb _);refine NxM hK (fun hHeld=>?_) (.inr (aB.o _ e1));clear hK K;have o9:=o1;have n9:=n1;have e9:=e1;exact Mj
        ·go_simp
         have e1:Qa WX ((WX.drew.alloc (.cells #[] 161)).alloc (.cells #[.string d.place,.int .i64 d.cls,.int .i64 fin,.slice VA out.length vc,.slice none 0 0] 161)):=zad e0 _;have n1:((WX.drew.alloc (.cells #[] 161)).alloc (.cells #[.string d.place,.int .i64 d.cls,.int .i64 fin,.slice VA out.length vc,.slice none 0 0] 161)).heap[WX.heap.size+1]?=some (.cells #[.string d.place,.int .i64 d.cls,.int .i64 fin,.slice VA out.length vc,.slice none 0 0] 161):=zat _ _ _ Mcv;have m1:OwnS ((WX.drew.alloc (.cells #[] 161)).alloc (.cells #[.string d.place,.int .i64 d.cls,.int .i64 fin,.slice VA out.length vc,.slice none 0 0] 161)) WX.heap.size 161 5 GX.cells (.slice (some ⟨WX.heap.size,0,none⟩) 0 0) []:=m0.keep (n:=(WX.drew.alloc (.cells #[] 161)).heap.size) (zad Qb _);refine NxM hK (fun hHeld=>?_) (.inr (aB.o _ e1));clear hK K;refine OnM 3 false fun K hK=>?_
         refine zak (v:=.slice (some ⟨WX.heap.size,0,none⟩) 0 0) (n:=0) (m:=s.graves.length) rfl _ _ rfl zhw zcX zjW rfl (xs:=[]) (ys:=gxs) (m1) rfl rfl bp.o (cd.o _ e1) Mcy McJ Mcx ?_;intro v4 w4 h1 h2 h3;rw[List.nil_append]at h1;obtain⟨V4,c4',aT,_,_⟩:=h1.sl zcX;rw[<-bp.o]at aT;subst aT;have ay:Qa WX w4:=Below.grown e1 h2 McM (fun j hj=>by simp[za6]at hj;omega);have n2:w4.heap[WX.heap.size+1]?=some (.cells #[.string d.place,.int .i64 d.cls,.int .i64 fin,.slice VA out.length vc,.slice none 0 0] 161):=(h2.block _ McI Mde).trans n1;exact Mb8
       ·go_simp
        have e0:Qa WX (WX.drew.alloc (.cells #[.string d.place,.int .i64 d.cls,.int .i64 fin,.slice VA out.length vc,.slice none 0 0] 161)):=zad (zaF Qb) _;have n0:(WX.drew.alloc (.cells #[.string d.place,.int .i64 d.cls,.int .i64 fin,.slice VA out.length vc,.slice none 0 0] 161)).heap[WX.heap.size]?=some (.cells #[.string d.place,.int .i64 d.cls,.int .i64 fin,.slice VA out.length vc,.slice none 0 0] 161):=zat _ _ _ rfl;refine NxM hK (fun hHeld=>?_) (.inr (aB.o _ e0));clear hK K;refine OnM 0 false fun K hK=>?_
        go_simp
        have e1:Qa WX ((WX.drew.alloc (.cells #[.string d.place,.int .i64 d.cls,.int .i64 fin,.slice VA out.length vc,.slice none 0 0] 161)).alloc (.cells #[] 161)):=zad e0 _;have n1:((WX.drew.alloc (.cells #[.string d.place,.int .i64 d.cls,.int .i64 fin,.slice VA out.length vc,.slice none 0 0] 161)).alloc (.cells #[] 161)).heap[WX.heap.size]?=some (.cells #[.string d.place,.int .i64 d.cls,.int .i64 fin,.slice VA out.length vc,.slice none 0 0] 161):=zal n0;have m1:OwnS ((WX.drew.alloc (.cells #[.string d.place,.int .i64 d.cls,.int .i64 fin,.slice VA out.length vc,.slice none 0 0] 161)).alloc (.cells #[] 161)) WX.heap.size 161 5 GX.cells (.slice (some ⟨WX.heap.size+1,0,none⟩) 0 0) []:=by
         have:=zea (t:=161) zcX (WX.drew.alloc (.cells #[.string d.place,.int .i64 d.cls,.int .i64 fin,.slice VA out.length vc,.slice none 0 0] 161)) WX.heap.size Mcv;simpa using this
        refine NxM hK (fun hHeld=>?_) (.inr (aB.o _ e1));clear hK K;refine OnM 3 false fun K hK=>?_
        refine zak (v:=.slice (some ⟨WX.heap.size+1,0,none⟩) 0 0) (n:=0) (m:=s.graves.length) rfl _ _ rfl zhw zcX zjW rfl (xs:=[]) (ys:=gxs) (m1) rfl rfl bp.o (cd.o _ e1) Mcy McJ Mcx ?_;intro v4 w4 h1 h2 h3;rw[List.nil_append]at h1;obtain⟨V4,c4',aT,_,_⟩:=h1.sl zcX;rw[<-bp.o]at aT;subst aT;have ay:Qa WX w4:=Below.grown e1 h2 McM (fun j hj=>by simp[za6]at hj;omega);have n2:w4.heap[WX.heap.size]?=some (.cells #[.string d.place,.int .i64 d.cls,.int .i64 fin,.slice VA out.length vc,.slice none 0 0] 161):=(h2.block _ McI Mde).trans n1;exact Mb8
     case rest=>
      obtain⟨⟨_,V,c',eb,cm,dZ,oF⟩,pC⟩:=hcut;clear xs0 xd0 xr0 s0 s1 s2 s3 s4 s5 s6 d0 d1 d2 d3 d4 d5 d6 r0 r1 r2 r3 r4 r5 r6 rf ls ld lr;obtain⟨s0,s1,s2,s3,s4,s5,s6⟩:=zaK eb;obtain⟨r0,r1,r2,r3,r4,r5,r6⟩:=zaK cm;have rf:=frz cm;have ls:=zab eb;have lr:=zab cm;go_wp2_with fail
      rw[iJ.o];have cy:=zcH (a0:=.slice LA laws.length c0) (a1:=.slice CA s.children.length c1) (a2:=.slice MA s.marriages.length c2) (a3:=.slice DA s.dead.length c3) (a4:=.slice WA wd.length c4) (a5:=.slice RA rd.length c5) (a6:=.slice V (s.graves.length+1) c') oF (show w.heap.size<=w.heap.size+2 by omega);refine bodyPost_ret (zb8 rfl _ rfl rfl (zc9 cm)) rfl ?_;have h':=H.o _ cy;refine⟨_,_,_,_,_,_,_,rfl,rfl,cy,fun _=>⟨wd,rd,LA,CA,MA,DA,WA,RA,V,c0,c1,c2,c3,c4,c5,c',rfl,rfl,rfl,rfl,rfl,rfl,by rw[List.length_append];rfl,⟨h'.laws,h'.kids,h'.marr,h'.dead,h'.wills,h'.ren,?_,h'.deadc⟩,⟨HK.o.wills,HK.o.shares,HK.o.ren,HK.o.tos⟩⟩⟩;refine slw_gx ((zjb dZ cm Mcu).sl zcX) (by rw[List.map_append,HM.o];rfl) fun x hx=>?_
      rcases List.mem_append.1 hx with hx|hx
      ·exact(cY.o x hx).keep cy
      ·rw[List.mem_singleton.1 hx];exact⟨(zjb pC cm Mcu).sl zai,Sl.nil⟩
structure OffS (b:Nat) (W W':World):Prop where
 blk:∃cs t fr,W.heap[b]?=some (.cells cs t fr)/\∀(j:Nat) (u:Value),cs[j]?=some u->zcR u=true
 same:∀g,g≠b->W'.heap[g]?=W.heap[g]?
section
variable {b:Nat} {W W':World}
theorem OffS.ne(h:OffS b W W'){g i:Nat}{u:Value}(hc:W.cell? ⟨g,i,none⟩=some u)(hu:zcR u=false):g≠b:=by
 rintro rfl;obtain⟨cs,t,fr,h1,h2⟩:=h.blk;simp only[World.cell?,h1]at hc;have:=h2 i u Mdt;rw[hu]at this;cases this
theorem OffS.cell(h:OffS b W W'){g i:Nat}(hg:g≠b):W'.cell? ⟨g,i,none⟩=W.cell? ⟨g,i,none⟩:=by simp only[World.cell?,h.same g hg]
theorem OffS.lt(h:OffS b W W'){g:Nat}(hg:g≠b)(hl:g<W.heap.size):g<W'.heap.size:=by
 have:=h.same g hg;rw[Array.getElem?_eq_getElem hl]at this;exact(Array.getElem?_eq_some_iff.1 this).1
theorem OffS.sl(h:OffS b W W'){α:Type}{size:Nat}{f:α->List Value}{A:Option Addr}{xs:List α}(h0:∀x,∃u,(f x)[0]?=some u/\zcR u=false)(hS:Sl W size f A xs):Sl W' size f A xs:=fun hl=>by
 obtain⟨g,off,hA,hg,hc⟩:=hS hl;obtain⟨u,hu,hs⟩:=h0 xs[0];have cL:=h.ne (hc 0 _ (List.getElem?_eq_getElem hl) 0 u hu) hs;exact⟨g,off,hA,h.lt cL hg,fun k x hk j v hv=>(h.cell cL).trans (hc k x hk j v hv)⟩
theorem OffS.slw(h:OffS b W W'){α:Type}{size:Nat}{R:World->α->List Value->Prop}{A:Option Addr}{xs:List α}(h0:∀x cs,R W x cs->R W' x cs/\∃u,cs[0]?=some u/\zcR u=false)(hS:SlW W size R A xs):SlW W' size R A xs:=fun hl=>by
 obtain⟨g,off,hA,hg,hc⟩:=hS hl;obtain⟨cs,hr,ah⟩:=hc 0 _ (List.getElem?_eq_getElem hl);obtain⟨_,u,hu,hs⟩:=h0 _ _ hr;have cL:=h.ne (ah 0 u hu) hs;refine⟨g,off,hA,h.lt cL hg,fun k x hk=>?_⟩;obtain⟨cs,hr,ah⟩:=hc k x hk;exact⟨cs,(h0 _ _ hr).1,fun j v hv=>(h.cell cL).trans (ah j v hv)⟩
theorem OffS.st(h:OffS b W W'){laws:List Law}{s:St}{a0 a1 a2 a3 a4 a5 a6:Value}(hS:StAt W laws s a0 a1 a2 a3 a4 a5 a6):StAt W' laws s a0 a1 a2 a3 a4 a5 a6:=by
 obtain⟨wd,rd,LA,CA,MA,DA,WA,RA,GA,c0,c1,c2,c3,c4,c5,c6,e0,e1,e2,e3,e4,e5,e6,hI,hL⟩:=hS;have hd:∀x cs,zfL W x cs->zfL W' x cs/\∃u,cs[0]?=some u/\zcR u=false:=by
  rintro x cs ⟨B,c,h1,rfl,h3⟩;exact⟨⟨B,c,h1,rfl,h.sl (fun p=>⟨_,rfl,rfl⟩) h3⟩,_,rfl,rfl⟩
 have hg:∀x cs,zia W x cs->zia W' x cs/\∃u,cs[0]?=some u/\zcR u=false:=by
  rintro x cs ⟨H,hc,D,dc,rfl,h1,h2⟩;exact⟨⟨H,hc,D,dc,rfl,h.sl (fun p=>⟨_,rfl,rfl⟩) h1,h.sl (fun p=>⟨_,rfl,rfl⟩) h2⟩,_,rfl,rfl⟩
 exact⟨wd,rd,LA,CA,MA,DA,WA,RA,GA,c0,c1,c2,c3,c4,c5,c6,e0,e1,e2,e3,e4,e5,e6,
  ⟨h.sl (fun p=>⟨_,rfl,rfl⟩) hI.laws,h.sl (fun p=>⟨_,rfl,rfl⟩) hI.kids,h.sl (fun p=>⟨_,rfl,rfl⟩) hI.marr,h.sl (fun p=>⟨_,rfl,rfl⟩) hI.dead,h.slw hd hI.wills,h.slw hd hI.ren,h.slw hg hI.graves,hI.deadc⟩,hL⟩
theorem zcI{x0 x1 x2 x3 x4 x5 x6 a0 a1 a2 a3 a4 a5 a6:Value}{t:TypeId}{fr:Nat×Nat}(hb:W.heap[b]?=some (.cells #[x0,x1,x2,x3,x4,x5,x6] t fr))(hx:([x0,x1,x2,x3,x4,x5,x6].all zcR)=true):
 OffS b W (((((((W.setCell ⟨b,0,none⟩ a0).setCell ⟨b,1,none⟩ a1).setCell ⟨b,2,none⟩ a2).setCell ⟨b,3,none⟩ a3).setCell ⟨b,4,none⟩ a4).setCell ⟨b,5,none⟩ a5).setCell ⟨b,6,none⟩ a6):=by
 refine⟨⟨_,t,fr,hb,fun j u hu=>?_⟩,fun g hg=>?_⟩
 ·rw[List.all_eq_true]at hx;refine hx u ?_;have:=Array.mem_of_getElem? hu;simpa using this
 ·cases hc:W.heap[g]? with
  |some o=>exact J_ne hg (J_ne hg (J_ne hg (J_ne hg (J_ne hg (J_ne hg (J_ne hg hc))))))
  |none=>
   have hs:W.heap.size<=g:=Mdt;rw[Array.getElem?_eq_none];simp;exact hs
end
theorem StAt.keep{W W':World}{laws:List Law}{s:St}{a0 a1 a2 a3 a4 a5 a6:Value}(h:StAt W laws s a0 a1 a2 a3 a4 a5 a6)(hB:Qa W W'):StAt W' laws s a0 a1 a2 a3 a4 a5 a6:=by
 obtain⟨wd,rd,LA,CA,MA,DA,WA,RA,GA,c0,c1,c2,c3,c4,c5,c6,e0,e1,e2,e3,e4,e5,e6,hI,hL⟩:=h;exact⟨wd,rd,LA,CA,MA,DA,WA,RA,GA,c0,c1,c2,c3,c4,c5,c6,e0,e1,e2,e3,e4,e5,e6,hI.keep hB,hL⟩
def zkP(w:World)(laws:List Law)(R:St×Int)(e:Ending)(w':World):Prop:=
 ∃a0 a1 a2 a3 a4 a5 a6 b,e=.returned (.tuple #[.agg #[a0,a1,a2,a3,a4,a5,a6],.bool b])/\([a0,a1,a2,a3,a4,a5,a6].all zcR)=true/\Qa w w'/\((b=true/\R.2=0/\StAt w' laws R.1 a0 a1 a2 a3 a4 a5 a6)\/(b=false/\R.2=8))
def zpp(laws:List Law)(s:St)(n:ByteArray)(day:Int):St×Int:=match zb2 s n day (zcO s (zbc laws day) n) 0 s.graves with
 |none=>(s,8)
 |some gs=>({s with graves:=gs,dead:=s.dead++[n]},0)
theorem rTake_of(laws:List Law)(s:St)(wd rd:List Deed)(LA CA MA DA WA RA GA:Option Addr)(c0 c1 c2 c3 c4 c5 c6:Nat)(d:Deed)(B:Option Addr)(c:Nat)(w:World)(h:StIn w laws s wd rd LA CA MA DA WA RA GA c0 c1 c2 c3 c4 c5 c6)(hk:StLink s wd rd)(hf:StFew s wd rd)(hd:OkD d)(hS:Sl w 3 RPart.cells B d.to)(ao:d.to.length<=c)(bl:∀g∈s.graves,GoodG g/\g.holders.length<=50000)(bH:∀g∈s.graves,g.fin<=200000)
 (ir:∀W,Qa w W->Calls Tryz.prog 81 #[.agg #[.slice LA laws.length c0,.slice CA s.children.length c1,.slice MA s.marriages.length c2,.slice DA s.dead.length c3,.slice WA wd.length c4,.slice RA rd.length c5,.slice GA s.graves.length c6],.string d.frm,.int .i64 d.day] W (zkP W laws (zpp laws s d.frm d.day))):Calls Tryz.prog 42 #[.agg #[.slice LA laws.length c0,.slice CA s.children.length c1,.slice MA s.marriages.length c2,.slice DA s.dead.length c3,.slice WA wd.length c4,.slice RA rd.length c5,.slice GA s.graves.length c6],d.v B c] w (zfR w laws (zbk laws s d)):=by
 obtain⟨R,hR⟩:=Qd (zbk laws s d)
 rw[<-hR];unfold zbk at hR;obtain⟨ej,ra,zA,lH⟩:=yH4 bl bH ir ao;obtain⟨dvs,xp,oV,qa⟩:=dv_of h.wills;obtain⟨zD,og,qU⟩:=yH3 xp oV qa;clear bl bH ir ao xp oV qa;obtain⟨H,HK,HF,HD,HS,HR⟩:=yH6 (fun W (hB:Qa w W)=>h.keep hB) hk hf hd (fun W (hB:Qa w W)=>hS.keep hB) hR;unfold Deed.v;clear h hk hf hd hS hR;go_enter Tryz.func42,Tryz.ntmps42
 go_upto_region 1 with fail
 generalize am:World.alloc (World.alloc (World.alloc w _) _) _=W0;obtain⟨aj,au⟩:=zeL am;clear am;have aw:=aj.o.size;obtain⟨⟨xs0,xd0,xr0⟩,⟨s0,s1,s2,s3,s4,s5,s6⟩,⟨d0,d1,d2,d3,d4,d5,d6⟩,⟨r0,r1,r2,r3,r4,r5,r6⟩,rf,ls,ld,lr⟩:=ddF (au.o W0 Qb);have hr:=HR.o;have hH:=H.o W0 aj.o;have pW:=HS.o W0 aj.o;go_upto_region 1 with fail
 by_cases h0:d.kind=0
 ·have k0:(d.kind==0)=true:=by simp[h0]
  have HT:=zHi (zpo laws s wd rd LA CA MA DA WA RA GA c0 c1 c2 c3 c4 c5 c6 d B c W0 hH HK.o HF.o HD.o pW h0);have cP:R=zcT s d:=by rw[hr];simp[h0]
  rw[<-cP]at HT;unfold Deed.v at HT;clear hr h0 cP
  go_wp2_with (go_at_call 73
               go_must(refine(HT.o).mono ?_)
               rintro e w5 ⟨a0,a1,a2,a3,a4,a5,a6,rfl,be,aq,ai⟩;obtain⟨⟨_,_,_,rfl⟩,⟨_,_,_,rfl⟩,⟨_,_,_,rfl⟩,⟨_,_,_,rfl⟩,⟨_,_,_,rfl⟩,⟨_,_,_,rfl⟩,⟨_,_,_,rfl⟩⟩:=zcS be;obtain⟨bn,aA⟩:=yH2 aq ai;obtain⟨_,_,xr5⟩:=au.o w5 aq;obtain⟨t0,t1,t2,t3,t4,t5,t6⟩:=zaK xr5;have tf:=frz xr5
               clear aq ai be)
  exact Mw
 have k0:(d.kind==0)=false:=by simp[h0]
 by_cases h1:d.kind=1
 ·have k1:(d.kind==1)=true:=by simp[h1]
  have HT:=zHi (zkN laws s wd rd LA CA MA DA WA RA GA c0 c1 c2 c3 c4 c5 c6 d B c W0 hH HK.o HF.o HD.o pW h1 ej.o);have cP:R=zbs s d:=by rw[hr];simp[h1]
  rw[<-cP]at HT;unfold Deed.v at HT;clear hr h1 cP
  go_wp2_with (go_at_call 74
               go_must(refine(HT.o).mono ?_)
               rintro e w5 ⟨a0,a1,a2,a3,a4,a5,a6,rfl,be,aq,ai⟩;obtain⟨⟨_,_,_,rfl⟩,⟨_,_,_,rfl⟩,⟨_,_,_,rfl⟩,⟨_,_,_,rfl⟩,⟨_,_,_,rfl⟩,⟨_,_,_,rfl⟩,⟨_,_,_,rfl⟩⟩:=zcS be;obtain⟨bn,aA⟩:=yH2 aq ai;obtain⟨_,_,xr5⟩:=au.o w5 aq;obtain⟨t0,t1,t2,t3,t4,t5,t6⟩:=zaK xr5;have tf:=frz xr5
               clear aq ai be)
  exact Mw
 have k1:(d.kind==1)=false:=by simp[h1]
 by_cases h2:d.kind=2
 ·have k2:(d.kind==2)=true:=by simp[h2]
  have HT:=zHi (zju laws s wd rd LA CA MA DA WA RA GA c0 c1 c2 c3 c4 c5 c6 d B c W0 hH HK.o HF.o HD.o pW ej.o);have cP:R=zba s d:=by rw[hr];simp[h2]
  rw[<-cP]at HT;unfold Deed.v at HT;clear hr h2 cP
  go_wp2_with (go_at_call 75
               go_must(refine(HT.o).mono ?_)
               rintro e w5 ⟨a0,a1,a2,a3,a4,a5,a6,rfl,be,aq,ai⟩;obtain⟨⟨_,_,_,rfl⟩,⟨_,_,_,rfl⟩,⟨_,_,_,rfl⟩,⟨_,_,_,rfl⟩,⟨_,_,_,rfl⟩,⟨_,_,_,rfl⟩,⟨_,_,_,rfl⟩⟩:=zcS be;obtain⟨bn,aA⟩:=yH2 aq ai;obtain⟨_,_,xr5⟩:=au.o w5 aq;obtain⟨t0,t1,t2,t3,t4,t5,t6⟩:=zaK xr5;have tf:=frz xr5
               clear aq ai be)
  exact Mw
 have k2:(d.kind==2)=false:=by simp[h2]
 by_cases h3:d.kind=3
 ·have k3:(d.kind==3)=true:=by simp[h3]
  have HT:=zHi (zpi laws s wd rd LA CA MA DA WA RA GA c0 c1 c2 c3 c4 c5 c6 d B c W0 hH HK.o HF.o HD.o pW ra.o);have cP:R=zdb s d:=by rw[hr];simp[h3]
  rw[<-cP]at HT;unfold Deed.v at HT;clear hr h3 cP
  go_wp2_with (go_at_call 76
               go_must(refine(HT.o).mono ?_)
               rintro e w5 ⟨a0,a1,a2,a3,a4,a5,a6,rfl,be,aq,ai⟩;obtain⟨⟨_,_,_,rfl⟩,⟨_,_,_,rfl⟩,⟨_,_,_,rfl⟩,⟨_,_,_,rfl⟩,⟨_,_,_,rfl⟩,⟨_,_,_,rfl⟩,⟨_,_,_,rfl⟩⟩:=zcS be;obtain⟨bn,aA⟩:=yH2 aq ai;obtain⟨_,_,xr5⟩:=au.o w5 aq;obtain⟨t0,t1,t2,t3,t4,t5,t6⟩:=zaK xr5;have tf:=frz xr5
               clear aq ai be)
  exact Mw
 have k3:(d.kind==3)=false:=by simp[h3]
 by_cases h5:d.kind=5
 ·have k5:(d.kind==5)=true:=by simp[h5]
  have HT:=zHi (zkO laws s wd rd LA CA MA DA WA RA GA c0 c1 c2 c3 c4 c5 c6 d B c W0 hH HK.o HF.o HD.o pW h5 lH.o);have cP:R=zb6 s d:=by rw[hr];simp[h5]
  rw[<-cP]at HT;unfold Deed.v at HT;clear hr h5 cP
  go_wp2_with (go_at_call 77
               go_must(refine(HT.o).mono ?_)
               rintro e w5 ⟨a0,a1,a2,a3,a4,a5,a6,rfl,be,aq,ai⟩;obtain⟨⟨_,_,_,rfl⟩,⟨_,_,_,rfl⟩,⟨_,_,_,rfl⟩,⟨_,_,_,rfl⟩,⟨_,_,_,rfl⟩,⟨_,_,_,rfl⟩,⟨_,_,_,rfl⟩⟩:=zcS be;obtain⟨bn,aA⟩:=yH2 aq ai;obtain⟨_,_,xr5⟩:=au.o w5 aq;obtain⟨t0,t1,t2,t3,t4,t5,t6⟩:=zaK xr5;have tf:=frz xr5
               clear aq ai be)
  exact Mw
 have k5:(d.kind==5)=false:=by simp[h5]
 by_cases h6:d.kind=6
 ·have k6:(d.kind==6)=true:=by simp[h6]
  have HT:=zHi (zpn laws s wd rd LA CA MA DA WA RA GA c0 c1 c2 c3 c4 c5 c6 d B c W0 hH HK.o HF.o HD.o pW h6);have cP:R=zcD s d:=by rw[hr];simp[h6]
  rw[<-cP]at HT;unfold Deed.v at HT;clear hr h6 cP
  go_wp2_with (go_at_call 78
               go_must(refine(HT.o).mono ?_)
               rintro e w5 ⟨a0,a1,a2,a3,a4,a5,a6,rfl,be,aq,ai⟩;obtain⟨⟨_,_,_,rfl⟩,⟨_,_,_,rfl⟩,⟨_,_,_,rfl⟩,⟨_,_,_,rfl⟩,⟨_,_,_,rfl⟩,⟨_,_,_,rfl⟩,⟨_,_,_,rfl⟩⟩:=zcS be;obtain⟨bn,aA⟩:=yH2 aq ai;obtain⟨_,_,xr5⟩:=au.o w5 aq;obtain⟨t0,t1,t2,t3,t4,t5,t6⟩:=zaK xr5;have tf:=frz xr5
               clear aq ai be)
  exact Mw
 have k6:(d.kind==6)=false:=by simp[h6]
 by_cases h7:d.kind=7
 ·have k7:(d.kind==7)=true:=by simp[h7]
  have HT:=zHi (zpl laws s wd rd LA CA MA DA WA RA GA c0 c1 c2 c3 c4 c5 c6 d B c W0 hH HK.o HF.o HD.o pW h7);have cP:R=zdu s d:=by rw[hr];simp[h7]
  rw[<-cP]at HT;unfold Deed.v at HT;clear hr h7 cP
  go_wp2_with (go_at_call 79
               go_must(refine(HT.o).mono ?_)
               rintro e w5 ⟨a0,a1,a2,a3,a4,a5,a6,rfl,be,aq,ai⟩;obtain⟨⟨_,_,_,rfl⟩,⟨_,_,_,rfl⟩,⟨_,_,_,rfl⟩,⟨_,_,_,rfl⟩,⟨_,_,_,rfl⟩,⟨_,_,_,rfl⟩,⟨_,_,_,rfl⟩⟩:=zcS be;obtain⟨bn,aA⟩:=yH2 aq ai;obtain⟨_,_,xr5⟩:=au.o w5 aq;obtain⟨t0,t1,t2,t3,t4,t5,t6⟩:=zaK xr5;have tf:=frz xr5
               clear aq ai be)
  exact Mw
 have k7:(d.kind==7)=false:=by simp[h7]
 rw[k0,k1,k2,k3,k5,k6,k7]at hr;simp only[Bool.false_eq_true,if_false]at hr;have ie:=zHi (sDead d.frm W0 hH HF.o);clear pW hH;by_cases h4:d.kind=4
 ·have k4:(d.kind==4)=true:=by simp[h4]
  have Jr:=zHi (zee (HD.o.parts (.inr (.inr h4))).2).1;rw[k4,if_pos rfl]at hr;unfold zgZ at hr;clear h0 h1 h2 h3 h4 h5 h6 h7;cases bS:zaP s d.frm;rotate_left 1
  ·exact Mcp
  rw[bS,if_neg Mcv]at hr;rw[bS]at ie;have HE:=zHi hr;clear hr bS;go_upto_region 19 with(go_at_call 80;go_must(refine(ie.o).mono ?_);rintro e wq ⟨rfl,z,rfl⟩)
  obtain⟨WX,ku⟩:=Qd (W0.ext z)
  have fw:Qa W0 WX:=by rw[ku];exact zaq _ _
  rw[<-ku];have bw:=zHi fw;have dG:=fw.size;clear ku fw ie;clear xs0 xd0 xr0 s0 s1 s2 s3 s4 s5 s6 d0 d1 d2 d3 d4 d5 d6 r0 r1 r2 r3 r4 r5 r6 rf ls ld lr;obtain⟨⟨xs0,xd0,xr0⟩,⟨s0,s1,s2,s3,s4,s5,s6⟩,⟨d0,d1,d2,d3,d4,d5,d6⟩,⟨r0,r1,r2,r3,r4,r5,r6⟩,rf,ls,ld,lr⟩:=ddF (au.o WX (bw.o));have Nx:=HF.o.wills;have bp:Hid (wd.length=(dvs).length):=zHi (by rw[<-zD.o,List.length_map]);have u9:Hid ((dvs).length<=1000):=zHi (by rw[<-bp.o];exact HF.o.wills);have cd:=zHi (fun W (hB:Qa WX W)=>qU.o.keep (aj.o.trans ((bw.o.trans (hB.mono dG)).mono aw)));have aB:=zHi (fun(W:World) (h:Qa WX W)=>(show W.cell? ⟨w.heap.size,4,none⟩=some (.slice WA wd.length c4)/\W.cell? ⟨w.heap.size+1,0,none⟩=some (.int .i64 d.kind)/\W.cell? ⟨w.heap.size+1,1,none⟩=some (.int .i64 d.day)/\W.cell? ⟨w.heap.size+1,2,none⟩=some (.string d.place)/\W.cell? ⟨w.heap.size+1,3,none⟩=some (.string d.frm)/\W.cell? ⟨w.heap.size+1,4,none⟩=some (.slice B d.to.length c)/\W.cell? ⟨w.heap.size+1,5,none⟩=some (.int .i64 d.cls)/\W.cell? ⟨w.heap.size+1,6,none⟩=some (.int .i64 d.years) from⟨(zah h ls).trans s4,(zah h ld).trans d0,(zah h ld).trans d1,(zah h ld).trans d2,(zah h ld).trans d3,(zah h ld).trans d4,(zah h ld).trans d5,(zah h ld).trans d6⟩))
  go_cut [5]from 67 to 75 (fun v wc=>v=v/\∃V c',wc.heap[w.heap.size]?=some (.cells #[.slice LA laws.length c0,.slice CA s.children.length c1,.slice MA s.marriages.length c2,.slice DA s.dead.length c3,.slice V (wd.length+1) c',.slice RA rd.length c5,.slice GA s.graves.length c6] 35)/\wc.heap[w.heap.size+2]?=some (.cells #[.slice none 0 0,.slice none 0 0,.slice none 0 0,.slice none 0 0,.slice none 0 0,.slice none 0 0,.slice none 0 0] 35)/\Ro wc 28 DV.cells V (dvs++[(⟨d,B,c⟩:DV)])/\Qa w wc)
  case first=>
   refine zaJ 6 (fun bb w'=>bb=true\/(w'.cell? ⟨w.heap.size,4,none⟩=some (.slice WA wd.length c4)/\w'.cell? ⟨w.heap.size+1,0,none⟩=some (.int .i64 d.kind)/\w'.cell? ⟨w.heap.size+1,1,none⟩=some (.int .i64 d.day)/\w'.cell? ⟨w.heap.size+1,2,none⟩=some (.string d.place)/\w'.cell? ⟨w.heap.size+1,3,none⟩=some (.string d.frm)/\w'.cell? ⟨w.heap.size+1,4,none⟩=some (.slice B d.to.length c)/\w'.cell? ⟨w.heap.size+1,5,none⟩=some (.int .i64 d.cls)/\w'.cell? ⟨w.heap.size+1,6,none⟩=some (.int .i64 d.years))) Mcs (.inr (aB.o _ (zaF Qb))) ?hrest
   case hrest=>
    intro hHeld;clear xs0 xd0 xr0 s0 s1 s2 s3 s4 s5 s6 d0 d1 d2 d3 d4 d5 d6 r0 r1 r2 r3 r4 r5 r6 rf ls ld lr;refine TkM 1 ?_;refine TkM 2 ?_;refine TkM 4 ?_;refine TwM 0 5 (fun K hK=>?_) fun K hK=>?_
    ·go_simp
     have e0:Qa WX (WX.drew.alloc (.cells #[] 28)):=zad (zaF Qb) _;have m0:OwnS (WX.drew.alloc (.cells #[] 28)) WX.heap.size 28 7 DV.cells (.slice (some ⟨WX.heap.size,0,none⟩) 0 0) []:=zea zbA WX.drew WX.heap.size Qc;refine NxM hK (fun hHeld=>?_) (.inr (aB.o _ e0));clear hK K;refine TwM 3 5 (fun K hK=>?_) fun K hK=>?_
     ·refine zak (v:=.slice (some ⟨WX.heap.size,0,none⟩) 0 0) (n:=0) (m:=wd.length) rfl _ _ rfl zft zbA zfs rfl (xs:=[]) (ys:=dvs) (m0) rfl rfl bp.o (cd.o _ e0) Mcy McJ McC ?_;intro v4 w4 h1 h2 h3;rw[List.nil_append]at h1;obtain⟨V4,c4',aT,_,_⟩:=h1.sl zbA;rw[<-bp.o]at aT;subst aT;have ay:Qa WX w4:=Below.grown e0 h2 Mdr (fun j hj=>by simp[za6]at hj;omega);refine NxM hK (fun hHeld=>?_) (.inr (aB.o _ ay));clear hK K;refine OnM 5 false fun K hK=>?_
      go_simp
      have e1:Qa WX (w4.alloc (.cells #[.int .i64 d.kind,.int .i64 d.day,.string d.place,.string d.frm,.slice B d.to.length c,.int .i64 d.cls,.int .i64 d.years] 28)):=zad ay _;have n1:(w4.alloc (.cells #[.int .i64 d.kind,.int .i64 d.day,.string d.place,.string d.frm,.slice B d.to.length c,.int .i64 d.cls,.int .i64 d.years] 28)).heap[w4.heap.size]?=some (.cells #[.int .i64 d.kind,.int .i64 d.day,.string d.place,.string d.frm,.slice B d.to.length c,.int .i64 d.cls,.int .i64 d.years] 28):=zat _ _ _ rfl;have o1:OwnS (w4.alloc (.cells #[.int .i64 d.kind,.int .i64 d.day,.string d.place,.string d.frm,.slice B d.to.length c,.int .i64 d.cls,.int .i64 d.years] 28)) WX.heap.size 28 7 DV.cells (.slice V4 wd.length c4') dvs:=h1.keep (n:=w4.heap.size) (zad Qb _);refine NxM hK (fun hHeld=>?_) (.inr (aB.o _ e1));clear hK K;have o9:=o1;have n9:=n1;have e9:=e1;exact Mo
     ·go_simp
      have e1:Qa WX ((WX.drew.alloc (.cells #[] 28)).alloc (.cells #[.int .i64 d.kind,.int .i64 d.day,.string d.place,.string d.frm,.slice B d.to.length c,.int .i64 d.cls,.int .i64 d.years] 28)):=zad e0 _;have n1:((WX.drew.alloc (.cells #[] 28)).alloc (.cells #[.int .i64 d.kind,.int .i64 d.day,.string d.place,.string d.frm,.slice B d.to.length c,.int .i64 d.cls,.int .i64 d.years] 28)).heap[WX.heap.size+1]?=some (.cells #[.int .i64 d.kind,.int .i64 d.day,.string d.place,.string d.frm,.slice B d.to.length c,.int .i64 d.cls,.int .i64 d.years] 28):=zat _ _ _ Mcv;have m1:OwnS ((WX.drew.alloc (.cells #[] 28)).alloc (.cells #[.int .i64 d.kind,.int .i64 d.day,.string d.place,.string d.frm,.slice B d.to.length c,.int .i64 d.cls,.int .i64 d.years] 28)) WX.heap.size 28 7 DV.cells (.slice (some ⟨WX.heap.size,0,none⟩) 0 0) []:=m0.keep (n:=(WX.drew.alloc (.cells #[] 28)).heap.size) (zad Qb _);refine NxM hK (fun hHeld=>?_) (.inr (aB.o _ e1));clear hK K;refine OnM 3 false fun K hK=>?_
      refine zak (v:=.slice (some ⟨WX.heap.size,0,none⟩) 0 0) (n:=0) (m:=wd.length) rfl _ _ rfl zft zbA zfs rfl (xs:=[]) (ys:=dvs) (m1) rfl rfl bp.o (cd.o _ e1) Mcy McJ Mcx ?_;intro v4 w4 h1 h2 h3;rw[List.nil_append]at h1;obtain⟨V4,c4',aT,_,_⟩:=h1.sl zbA;rw[<-bp.o]at aT;subst aT;have ay:Qa WX w4:=Below.grown e1 h2 McM (fun j hj=>by simp[za6]at hj;omega);have n2:w4.heap[WX.heap.size+1]?=some (.cells #[.int .i64 d.kind,.int .i64 d.day,.string d.place,.string d.frm,.slice B d.to.length c,.int .i64 d.cls,.int .i64 d.years] 28):=(h2.block _ McI Mde).trans n1;exact Mcc
    ·go_simp
     have e0:Qa WX (WX.drew.alloc (.cells #[.int .i64 d.kind,.int .i64 d.day,.string d.place,.string d.frm,.slice B d.to.length c,.int .i64 d.cls,.int .i64 d.years] 28)):=zad (zaF Qb) _;have n0:(WX.drew.alloc (.cells #[.int .i64 d.kind,.int .i64 d.day,.string d.place,.string d.frm,.slice B d.to.length c,.int .i64 d.cls,.int .i64 d.years] 28)).heap[WX.heap.size]?=some (.cells #[.int .i64 d.kind,.int .i64 d.day,.string d.place,.string d.frm,.slice B d.to.length c,.int .i64 d.cls,.int .i64 d.years] 28):=zat _ _ _ rfl;refine NxM hK (fun hHeld=>?_) (.inr (aB.o _ e0));clear hK K;refine OnM 0 false fun K hK=>?_
     go_simp
     have e1:Qa WX ((WX.drew.alloc (.cells #[.int .i64 d.kind,.int .i64 d.day,.string d.place,.string d.frm,.slice B d.to.length c,.int .i64 d.cls,.int .i64 d.years] 28)).alloc (.cells #[] 28)):=zad e0 _;have n1:((WX.drew.alloc (.cells #[.int .i64 d.kind,.int .i64 d.day,.string d.place,.string d.frm,.slice B d.to.length c,.int .i64 d.cls,.int .i64 d.years] 28)).alloc (.cells #[] 28)).heap[WX.heap.size]?=some (.cells #[.int .i64 d.kind,.int .i64 d.day,.string d.place,.string d.frm,.slice B d.to.length c,.int .i64 d.cls,.int .i64 d.years] 28):=zal n0;have m1:OwnS ((WX.drew.alloc (.cells #[.int .i64 d.kind,.int .i64 d.day,.string d.place,.string d.frm,.slice B d.to.length c,.int .i64 d.cls,.int .i64 d.years] 28)).alloc (.cells #[] 28)) WX.heap.size 28 7 DV.cells (.slice (some ⟨WX.heap.size+1,0,none⟩) 0 0) []:=by
      exact Maw
     refine NxM hK (fun hHeld=>?_) (.inr (aB.o _ e1));clear hK K;refine OnM 3 false fun K hK=>?_
     refine zak (v:=.slice (some ⟨WX.heap.size+1,0,none⟩) 0 0) (n:=0) (m:=wd.length) rfl _ _ rfl zft zbA zfs rfl (xs:=[]) (ys:=dvs) (m1) rfl rfl bp.o (cd.o _ e1) Mcy McJ Mcx ?_;intro v4 w4 h1 h2 h3;rw[List.nil_append]at h1;obtain⟨V4,c4',aT,_,_⟩:=h1.sl zbA;rw[<-bp.o]at aT;subst aT;have ay:Qa WX w4:=Below.grown e1 h2 McM (fun j hj=>by simp[za6]at hj;omega);have n2:w4.heap[WX.heap.size]?=some (.cells #[.int .i64 d.kind,.int .i64 d.day,.string d.place,.string d.frm,.slice B d.to.length c,.int .i64 d.cls,.int .i64 d.years] 28):=(h2.block _ McI Mde).trans n1;exact Mcc
  case rest=>
   obtain⟨_,V,c',eb,cm,dZ,oF⟩:=hcut;clear xs0 xd0 xr0 s0 s1 s2 s3 s4 s5 s6 d0 d1 d2 d3 d4 d5 d6 r0 r1 r2 r3 r4 r5 r6 rf ls ld lr;obtain⟨s0,s1,s2,s3,s4,s5,s6⟩:=zaK eb;obtain⟨r0,r1,r2,r3,r4,r5,r6⟩:=zaK cm;have rf:=frz cm;have ls:=zab eb;have lr:=zab cm;go_wp2_with fail
   rw[HE.o];have cy:=zcH (a0:=.slice LA laws.length c0) (a1:=.slice CA s.children.length c1) (a2:=.slice MA s.marriages.length c2) (a3:=.slice DA s.dead.length c3) (a4:=.slice V (wd.length+1) c') (a5:=.slice RA rd.length c5) (a6:=.slice GA s.graves.length c6) oF (show w.heap.size<=w.heap.size+2 by omega);refine bodyPost_ret (zb8 rfl _ rfl rfl (zc9 cm)) rfl ?_;have h':=H.o _ cy;refine⟨_,_,_,_,_,_,_,rfl,rfl,cy,fun _=>⟨wd++[d],rd,LA,CA,MA,DA,V,RA,GA,c0,c1,c2,c3,c',c5,c6,rfl,rfl,rfl,rfl,by rw[List.length_append];rfl,rfl,rfl,⟨h'.laws,h'.kids,h'.marr,h'.dead,?_,h'.ren,h'.graves,h'.deadc⟩,⟨?_,?_,HK.o.ren,HK.o.tos⟩⟩⟩
   ·exact Mae
   ·rw[List.map_append,<-HK.o.wills];rfl
   ·intro x hx;rcases List.mem_append.1 hx with hx|hx
    ·exact HK.o.shares x hx
    ·rw[List.mem_singleton.1 hx];exact fun p hp=>(Jr.o p hp).2.2
 ·have k4:(d.kind==4)=false:=by simp[h4]
  rw[k4]at hr;simp only[Bool.false_eq_true,if_false]at hr;unfold zdP at hr;clear h0 h1 h2 h3 h4 h5 h6 h7;cases bS:zaP s d.frm;rotate_left 1
  ·exact Mcp
  rw[bS,if_neg Mcv]at hr;rw[bS]at ie;have cP:R=zpp laws s d.frm d.day:=hr;have uV:=zHi (fun W (hB:Qa W0 W)=>zA.o W (aj.o.trans (hB.mono aw)));rw[<-cP]at uV;clear hr bS cP zA;go_upto_region 21 with(go_at_call 80;go_must(refine(ie.o).mono ?_);rintro e wq ⟨rfl,z,rfl⟩)
  obtain⟨W1,aP⟩:=Qd (W0.ext z)
  have aO:Qa W0 W1:=Mdk;rw[<-aP];have im:=aO.size;have aE:=zHi aO;clear aP aO ie;clear xs0 xd0 xr0 s0 s1 s2 s3 s4 s5 s6 d0 d1 d2 d3 d4 d5 d6 r0 r1 r2 r3 r4 r5 r6 rf ls ld lr;obtain⟨⟨xs0,xd0,xr0⟩,⟨s0,s1,s2,s3,s4,s5,s6⟩,⟨d0,d1,d2,d3,d4,d5,d6⟩,⟨r0,r1,r2,r3,r4,r5,r6⟩,rf,ls,ld,lr⟩:=ddF (au.o W1 (aE.o))
  go_upto_region 22 with(go_at_call 81
                         go_must(refine(uV.o _ aE.o).mono ?_)
                         rintro e w5 ⟨a0,a1,a2,a3,a4,a5,a6,bb,rfl,be,aq,ai⟩;obtain⟨⟨X0,n0,m0,rfl⟩,⟨X1,n1,m1,rfl⟩,⟨X2,n2,m2,rfl⟩,⟨X3,n3,m3,rfl⟩,⟨X4,n4,m4,rfl⟩,⟨X5,n5,m5,rfl⟩,⟨X6,n6,m6,rfl⟩⟩:=zcS be;obtain⟨bn,aA⟩:=yH2 (aE.o.trans (aq.mono im)) ai
                         clear aq ai be)
  obtain⟨W6,eF⟩:=Qd (w5.alloc (.cells #[.slice X0 n0 m0,.slice X1 n1 m1,.slice X2 n2 m2,.slice X3 n3 m3,.slice X4 n4 m4,.slice X5 n5 m5,.slice X6 n6 m6] 35))
  have gY:W6.heap[w5.heap.size]?=some (.cells #[.slice X0 n0 m0,.slice X1 n1 m1,.slice X2 n2 m2,.slice X3 n3 m3,.slice X4 n4 m4,.slice X5 n5 m5,.slice X6 n6 m6] 35):=by rw[eF];exact zat _ _ _ rfl
  have aV:Qa w5 W6:=by rw[eF];exact zad Qb _
  obtain⟨bR,lD⟩:=yH2 (bn.o.trans (aV.mono bn.o.size)) aV;obtain⟨YB,Dw⟩:=Qd w5.heap.size
  rw[<-eF,<-Dw];rw[<-Dw]at gY;clear eF Dw aV;clear xs0 xd0 xr0 s0 s1 s2 s3 s4 s5 s6 d0 d1 d2 d3 d4 d5 d6 r0 r1 r2 r3 r4 r5 r6 rf ls ld lr;obtain⟨⟨xs0,xd0,xr0⟩,⟨s0,s1,s2,s3,s4,s5,s6⟩,⟨d0,d1,d2,d3,d4,d5,d6⟩,⟨r0,r1,r2,r3,r4,r5,r6⟩,rf,ls,ld,lr⟩:=ddF (au.o W6 (bR.o));obtain⟨y0,y1,y2,y3,y4,y5,y6⟩:=zaK gY;have pH:=zab gY;obtain⟨R1,R2⟩:=R;rcases aA.o with⟨rfl,hz,ai⟩|⟨rfl,hz⟩
  ·simp only at hz;subst hz;have cO:=zHi ai;clear ai;go_wp2_with fail
   refine bodyPost_ret (zb8 rfl _ rfl rfl (zc9 xr0)) rfl ?_;exact⟨_,_,_,_,_,_,_,rfl,rfl,zcH (aj.o.trans (bR.o.mono aw)) (show w.heap.size<=w.heap.size+2 by omega),fun _=>(zcI xr0 rfl).st (cO.o.keep lD.o)⟩
  ·simp only at hz;subst hz;go_wp2_with fail
   refine bodyPost_ret (zb8 rfl _ rfl rfl (zc9 xr0)) rfl ?_;exact⟨_,_,_,_,_,_,_,rfl,rfl,zcH (aj.o.trans (bR.o.mono aw)) (show w.heap.size<=w.heap.size+2 by omega),fun e=>by cases e⟩
noncomputable def nxP (laws:List Law) (s:St) (ds:List Deed) (d:Deed):St×Int:=
 if decide (60<=ds.length)then(s,8)else if(ds.getLast?.map fun e=>decide (d.day<e.day)).getD false then(s,9)else zbk laws s d
theorem rNext_of(laws:List Law)(s:St)(wd rd:List Deed)(LA CA MA DA WA RA GA:Option Addr)(c0 c1 c2 c3 c4 c5 c6:Nat)(d:Deed)(B:Option Addr)(c:Nat)(w:World)(h:StIn w laws s wd rd LA CA MA DA WA RA GA c0 c1 c2 c3 c4 c5 c6)(hk:StLink s wd rd)(hf:StFew s wd rd)(hd:OkD d)(hS:Sl w 3 RPart.cells B d.to)(ds:List Deed)(DB:Option Addr)(dc:Nat)(gC:SlW w 7 zfL DB ds)(ao:d.to.length<=c)(bl:∀g∈s.graves,GoodG g/\g.holders.length<=50000)(bH:∀g∈s.graves,g.fin<=200000)
 (ir:∀W,Qa w W->Calls Tryz.prog 81 #[.agg #[.slice LA laws.length c0,.slice CA s.children.length c1,.slice MA s.marriages.length c2,.slice DA s.dead.length c3,.slice WA wd.length c4,.slice RA rd.length c5,.slice GA s.graves.length c6],.string d.frm,.int .i64 d.day] W (zkP W laws (zpp laws s d.frm d.day))):Calls Tryz.prog 18 #[.agg #[.slice LA laws.length c0,.slice CA s.children.length c1,.slice MA s.marriages.length c2,.slice DA s.dead.length c3,.slice WA wd.length c4,.slice RA rd.length c5,.slice GA s.graves.length c6],.slice DB ds.length dc,d.v B c] w (zfR w laws (nxP laws s ds d)):=by
 obtain⟨R,hR⟩:=Qd (nxP laws s ds d)
 rw[<-hR];unfold nxP at hR;obtain⟨ej,ra,zA,lH,dj⟩:=yH5 bl bH ir ao gC;clear bl bH ir ao gC;obtain⟨H,HK,HF,HD,HS,HR⟩:=yH6 (fun W (hB:Qa w W)=>h.keep hB) hk hf hd (fun W (hB:Qa w W)=>hS.keep hB) hR;unfold Deed.v;clear h hk hf hd hS hR;go_enter Tryz.func18,Tryz.ntmps18
 go_upto_region 1 with fail
 generalize am:World.alloc (World.alloc (World.alloc w _) _) _=W0;obtain⟨aj,au⟩:=zeL am;clear am;have aw:=aj.o.size;obtain⟨⟨xs0,xd0,xr0⟩,⟨s0,s1,s2,s3,s4,s5,s6⟩,⟨d0,d1,d2,d3,d4,d5,d6⟩,⟨r0,r1,r2,r3,r4,r5,r6⟩,rf,ls,ld,lr⟩:=ddF (au.o W0 Qb);have hr:=HR.o
 have dK:=zHi (fun W (hB:Qa W0 W)=>rTake_of laws s wd rd LA CA MA DA WA RA GA c0 c1 c2 c3 c4 c5 c6 d B c W (H.o W (aj.o.trans (hB.mono aw))) HK.o HF.o HD.o (HS.o W (aj.o.trans (hB.mono aw))) lH.o ej.o ra.o
  fun W' jP=>zA.o W' ((aj.o.trans (hB.mono aw)).trans (jP.mono (by have:=aj.o.size;have:=hB.size;omega))))
 unfold Deed.v at dK;by_cases kr:60<=ds.length
 ·have HE:Hid (R=(s,8)):=by show _=_;rw[hr,if_pos (by simpa using kr)]
  have hk:(60:Int)<=(ds.length:Int):=Mcq;clear hr;go_upto_region 2 with fail
  have aZ:=Below.refl W0.heap.size W0;exact Mf
 have hk:¬(60:Int)<=(ds.length:Int):=Mcq;rw[if_neg (by simpa using kr)]at hr;go_upto_region 3 with fail
 by_cases h0:0<ds.length
 ·have aa:ds.length-1<ds.length:=Mcq;obtain⟨gb,go,cs,mg,cL,dr,ah⟩:=(dj.o.keep zbP aj.o).at aa;have cg:ds.getLast?=some ds[ds.length-1]:=by rw[List.getLast?_eq_getElem?,List.getElem?_eq_getElem aa]
  rw[cg]at hr;generalize ds[ds.length-1]=e at*;obtain⟨EB,ec,uq,rfl,hP⟩:=dr;have i1:W0.cell? ⟨gb,go+(ds.length-1)*7+1,none⟩=some (.int .i64 e.day):=ah 1 _ rfl;have qz:R=if decide (d.day<e.day)=true then(s,9)else zbk laws s d:=hr;have bA:=zHi qz;subst mg;generalize hn:ds.length=n at*;have hz:(0:Int)<(n:Int):=Mcq;have kg:wrap64 ((n:Int)-1)=(n:Int)-1:=wrap_m Mcq;have ES:(0:Int)<=(n:Int)-1:=Mcq;have hw3:(n:Int)-1<(n:Int):=Mcq;have hw4:((n:Int)-1).toNat=n-1:=Mcq;clear hr qz cg ah hP uq hn kr;by_cases iW:d.day<e.day
  ·have HE:Hid (R=(s,9)):=by show _=_;rw[bA.o,if_pos (by simpa using iW)]
   (refine zam Mcs Mcs ?_
    repeat(first|go_big_quiet_skip|(go_big_quiet_want;go_big_quiet_op;first|go_big_quiet_on|(apply Exists.intro;refine⟨fun _=>?_,?_⟩;(fail);go_big_quiet_on)))
    refine wpQuiet_nil ?_
    rintro _ ⟨zq,rfl⟩)
   clear xs0 xd0 xr0 s0 s1 s2 s3 s4 s5 s6 d0 d1 d2 d3 d4 d5 d6 r0 r1 r2 r3 r4 r5 r6 rf ls ld lr;obtain⟨⟨xs0,xd0,xr0⟩,⟨s0,s1,s2,s3,s4,s5,s6⟩,⟨d0,d1,d2,d3,d4,d5,d6⟩,⟨r0,r1,r2,r3,r4,r5,r6⟩,rf,ls,ld,lr⟩:=ddF (au.o (W0.ext zq) (zaq _ _));clear i1;have aZ:=zaq W0 zq;exact Mf
  ·have cP:R=zbk laws s d:=by rw[bA.o,if_neg (by simpa using iW)]
   rw[<-cP]at dK;clear cP
   (refine zam Mcs Mcs ?_
    repeat(first|go_big_quiet_skip|(go_big_quiet_want;go_big_quiet_op;first|go_big_quiet_on|(apply Exists.intro;refine⟨fun _=>?_,?_⟩;(fail);go_big_quiet_on)))
    refine wpQuiet_nil ?_
    rintro _ ⟨zq,rfl⟩)
   clear xs0 xd0 xr0 s0 s1 s2 s3 s4 s5 s6 d0 d1 d2 d3 d4 d5 d6 r0 r1 r2 r3 r4 r5 r6 rf ls ld lr;obtain⟨⟨xs0,xd0,xr0⟩,⟨s0,s1,s2,s3,s4,s5,s6⟩,⟨d0,d1,d2,d3,d4,d5,d6⟩,⟨r0,r1,r2,r3,r4,r5,r6⟩,rf,ls,ld,lr⟩:=ddF (au.o (W0.ext zq) (zaq _ _));clear i1;exact MbX
 ·have mT:ds=[]:=List.eq_nil_of_length_eq_zero Mcq;have cP:R=zbk laws s d:=by rw[hr,mT];rfl
  rw[<-cP]at dK;generalize hn:ds.length=n at*;have hz:decide ((0:Int)<(n:Int))=false:=Mcw;have nz:decide (0<n)=false:=Mcw;have hz3:¬0<n:=Mcq;clear hr cP mT hn kr h0
  (refine zam Mcs Mcs ?_
   repeat(first|go_big_quiet_skip|(go_big_quiet_want;go_big_quiet_op;first|go_big_quiet_on|(apply Exists.intro;refine⟨fun _=>?_,?_⟩;(fail);go_big_quiet_on)))
   refine wpQuiet_nil ?_
   rintro _ ⟨zq,rfl⟩)
  clear xs0 xd0 xr0 s0 s1 s2 s3 s4 s5 s6 d0 d1 d2 d3 d4 d5 d6 r0 r1 r2 r3 r4 r5 r6 rf ls ld lr;obtain⟨⟨xs0,xd0,xr0⟩,⟨s0,s1,s2,s3,s4,s5,s6⟩,⟨d0,d1,d2,d3,d4,d5,d6⟩,⟨r0,r1,r2,r3,r4,r5,r6⟩,rf,ls,ld,lr⟩:=ddF (au.o (W0.ext zq) (zaq _ _));exact MbX

/- Walk of the reference's next. -/
import Derived.Test.YtjhbofabmpfniaaGreatDoorXM
set_option linter.unusedSimpArgs false
set_option linter.unusedVariables false
set_option maxRecDepth 100000
set_option maxHeartbeats 4000000
namespace Go.Proofs.YtjhbofabmpfniaaGreatDoor
open Go.RowKit Go.Shelf
attribute [local go_sem] World.cell?_alloc_mark zae za3 zam za6 zas zat zau zav zaw zax zay
attribute [local go_sem] zaj zac
structure GrSt (out l:Parts):Prop where
 good:GoodParts out
 isN: ∀p∈out,IsN 720720 p.2
 le:sumQ out+sumQ l<=1
 pos: ∀p∈l,0<=p.2
 lN: ∀p∈l,IsN 720720 p.2
theorem GrSt.parts {out l:Parts} (h:GrSt out l): ∀p∈out,zaI p.2:=by
 have h1:0<=sumQ l:=zbp h.pos;exact fun p hp=>(zdJ (hs:=out) ⟨h.good,zc4 Mcp Mcp h.isN,by have:=h.le;grind⟩ hp).2.2
theorem GrSt.next {out l:Parts} {n:ByteArray} {q:Rat} (h:GrSt out ((n,q)::l)):GrSt (za4 out n q) l:=by
 have hq:=h.pos (n,q) Mcq;have bN:=h.le;rw[sumQ]at bN;exact⟨zbv hq h.good,zcF (h.lN (n,q) Mcq) h.isN,by rw[zbZ];grind,fun p hp=>h.pos p Mdo,fun p hp=>h.lN p Mdo⟩
theorem GrSt.small {out l:Parts} {n:ByteArray} {q:Rat} (h:GrSt out ((n,q)::l)):zaI q:=by
 have hq:=h.pos (n,q) Mcq;have bN:=h.le;rw[sumQ]at bN;have h1:0<=sumQ l:=zbp fun p hp=>h.pos p Mdo
 have h2:0<=sumQ out:=zbp fun p hp=>by have:=h.good.pos p hp;grind
 simp only at hq bN;exact zc7 Mcp Mcp (h.lN (n,q) Mcq) hq McP
theorem sl_grave {W:World} {b:Nat} {t:TypeId} {fr:Nat×Nat} (x:GX) (h:W.heap[b]?=some (.cells #[.string x.g.place, .int .i64 x.g.cls, .int .i64 x.g.fin, .slice x.H x.g.holders.length x.hc, .slice x.D x.g.died.length x.dc] t fr)):Sl W 5 GX.cells (some ⟨b,0,none⟩) [x]:=
 zfr zcT h (by simp[GX.cells])
theorem zpm (laws:List Law) (s:St) (wd rd:List Deed) (LA CA MA DA WA RA GA:Option Addr) (c0 c1 c2 c3 c4 c5 c6:Nat) (d:Deed) (B:Option Addr) (c:Nat) (w:World) (h:StIn w laws s wd rd LA CA MA DA WA RA GA c0 c1 c2 c3 c4 c5 c6) (hk:StLink s wd rd) (hf:StFew s wd rd) (hd:OkD d) (hS:Sl w 3 RPart.cells B d.to) (bQ:d.kind=0):Calls Tryz.prog 180 #[.agg #[.slice LA laws.length c0, .slice CA s.children.length c1, .slice MA s.marriages.length c2, .slice DA s.dead.length c3, .slice WA wd.length c4, .slice RA rd.length c5, .slice GA s.graves.length c6],d.v B c] w (zeX w laws (zcN s d)):=by
 obtain⟨R,hR⟩: ∃R,R=zcN s d:=⟨_,rfl⟩
 rw[<-hR];have jR:=zHi (zea (hd.parts (.inl bQ)).2);have bu:=hd.len;obtain⟨gxs,hm,bJ,bw⟩:=gx_of h.graves;have HM:=zHi hm;have dI:=zHi bJ;have AP:=zHi bw;unfold zcN at hR;clear bQ hm bJ bw;have H:=zHi (fun W (hB:Below w.heap.size w W)=>h.keep hB);have HK:=zHi hk;have HF:=zHi hf;have HD:=zHi hd;have HS:=zHi (fun W (hB:Below w.heap.size w W)=>hS.keep hB);have HR:=zHi hR;unfold Deed.v;clear h hk hf hd hS hR;go_enter Tryz.func180,Tryz.ntmps180
 go_upto_region 1 with fail
 generalize ao:World.alloc (World.alloc (World.alloc w _) _) _=W0;obtain⟨ak,ax⟩:=zeP ao;clear ao;have aw:=ak.o.size;obtain⟨⟨xs0,xd0,xr0⟩,⟨s0,s1,s2,s3,s4,s5,s6⟩,⟨d0,d1,d2,d3,d4,d5,d6⟩,⟨r0,r1,r2,r3,r4,r5,r6⟩,rf,ls,ld,lr⟩:=ddF (ax.o W0 (Below.refl _ _));have eC:=zHi (fun W (hB:Below W0.heap.size W0 W)=>zmo d.place d.day W (H.o W (ak.o.trans (hB.mono aw))) HF.o);have ki:=zHi (fun W (hB:Below W0.heap.size W0 W)=>zmp d.to B c W (H.o W (ak.o.trans (hB.mono aw))) HF.o Mcn (HS.o W (ak.o.trans (hB.mono aw))));have hr:=HR.o;cases aN:zaO s d.place d.day with
 |some i=>
  rw[aN]at hr;rw[ze0 aN]at eC;have fB:(0:Int)<=(i:Int):=Mcn;have HE:Hid (R=(s,13)):=zHi hr;clear hr aN;go_upto_region 2 with(go_at_call 23;go_must(refine(eC.o _ (Below.refl _ _)).mono ?_);rintro e wq ⟨rfl,z,rfl⟩)
  have bf:=zaq W0 z;exact MbR
 |none=>
  rw[aN]at hr;rw[zjg aN]at eC;simp only[Option.isSome_none,Bool.false_eq_true,if_false]at hr;cases fR:ze3 s d.to;rotate_left 1
  ·have HE:Hid (R=(s,28)):=by show _=_;rw[hr,fR];rfl
   rw[fR]at ki;clear hr aN fR
   go_upto_region 4 with(first
    |(go_at_call 23;go_must(refine(eC.o _ (Below.refl _ _)).mono ?_);rintro e wq ⟨rfl,z,rfl⟩)
    |(go_at_call 233;go_must(refine(ki.o _ Bw).mono ?_);rintro e wq ⟨rfl,z3,rfl⟩))
   have bf:Below W0.heap.size W0 ((W0.ext z).ext z3):=zb6 (zaq _ _) _;have bf:=bf;exact MbR
  rw[fR,if_neg Mcq]at hr;rw[fR]at ki;have Au:=zHi (fun W=>zjZ d.day d.years W HD.o.day.1 HD.o.day.2 HD.o.years.1 HD.o.years.2);generalize zcg d.day d.years=af at*;have br:=zHi hr;clear hr aN fR
  go_upto_region 6 with(first
   |(go_at_call 23;go_must(refine(eC.o _ (Below.refl _ _)).mono ?_);rintro e wq ⟨rfl,z,rfl⟩)
   |(go_at_call 233;go_must(refine(ki.o _ Bw).mono ?_);rintro e wq ⟨rfl,z3,rfl⟩))
  obtain⟨GB,jl⟩: ∃GB,GB=W0.heap.size+z.os.size+z3.os.size:=⟨_,rfl⟩
  obtain⟨W1,aM⟩: ∃W1,W1=((W0.ext z).ext z3).alloc (.cells #[.string d.place, .int .i64 d.cls, .int .i64 (-1), .slice none 0 0, .slice none 0 0] 49):=⟨_,rfl⟩
  have gG:W1.heap[GB]?=some (.cells #[.string d.place, .int .i64 d.cls, .int .i64 (-1), .slice none 0 0, .slice none 0 0] 49):=by rw[aM];exact zar _ _ _ (by rw[jl];simp[zae])
  have aS:Below W0.heap.size W0 W1:=by rw[aM];exact zad (zb6 (zaq _ _) _) _
  have iQ:W0.heap.size<=GB:=Mcn;rw[<-aM,<-jl];clear aM jl eC ki;clear xs0 xd0 xr0 s0 s1 s2 s3 s4 s5 s6 d0 d1 d2 d3 d4 d5 d6 r0 r1 r2 r3 r4 r5 r6 rf ls ld lr;obtain⟨g0,g1,g2,g3,g4⟩:=zef gG;have gf:=frz gG;have gl:=zab gG;have GG:=zHi gG;have aA:=zHi aS;clear gG aS;obtain⟨⟨xs0,xd0,xr0⟩,⟨s0,s1,s2,s3,s4,s5,s6⟩,⟨d0,d1,d2,d3,d4,d5,d6⟩,⟨r0,r1,r2,r3,r4,r5,r6⟩,rf,ls,ld,lr⟩:=ddF (ax.o W1 (aA.o));go_upto_if 28 with fail
  go_cut [5]from 26 to 39 (fun v wc=>v=v/\ ∃fin:Int,Hid (R=({s with graves:=s.graves++[⟨d.place,d.cls,fin,zbc d.to [],[]⟩]},0))/\wc.heap[GB]?=some (.cells #[.string d.place, .int .i64 d.cls, .int .i64 (fin), .slice none 0 0, .slice none 0 0] 49)/\Below W0.heap.size W0 wc)
  case first=>
   by_cases hy:0<d.years
   ·have hr:=br.o;have CS:decide (0<d.years)=true:=by simpa using hy
    rw[CS]at hr;simp only[Bool.true_and,if_true]at hr;go_upto_region 8 with(go_at_call 234;go_must(refine(Au.o _).mono ?_);rintro e wq ⟨rfl,z5,rfl⟩)
    obtain⟨W2,cF⟩: ∃W2,W2=(W1.setCell ⟨GB,2,none⟩ (.int .i64 af)).ext z5:=⟨_,rfl⟩
    have gG2:W2.heap[GB]?=some (.cells #[.string d.place, .int .i64 d.cls, .int .i64 (af), .slice none 0 0, .slice none 0 0] 49):=by
     rw[cF];exact Mbq
    have bB:Below W0.heap.size W0 W2:=by rw[cF];exact zb6 (zaM aA.o iQ _) z5
    rw[<-cF];clear cF g0 g1 g2 g3 g4 gf gl;clear xs0 xd0 xr0 s0 s1 s2 s3 s4 s5 s6 d0 d1 d2 d3 d4 d5 d6 r0 r1 r2 r3 r4 r5 r6 rf ls ld lr;obtain⟨g0,g1,g2,g3,g4⟩:=zef gG2;have gl:=zab gG2;have aB:=zHi bB;have G2:=zHi gG2;clear bB gG2;obtain⟨⟨xs0,xd0,xr0⟩,⟨s0,s1,s2,s3,s4,s5,s6⟩,⟨d0,d1,d2,d3,d4,d5,d6⟩,⟨r0,r1,r2,r3,r4,r5,r6⟩,rf,ls,ld,lr⟩:=ddF (ax.o W2 (aB.o));by_cases ou:af<0
    ·have HE:Hid (R=(s,2)):=by show _=_;rw[hr,if_pos (by simpa using ou)]
     clear hr;go_upto_region 9 with fail
     have bf:=aB.o;exact Mg
    ·have HE:Hid (R=({s with graves:=s.graves++[⟨d.place,d.cls,af,zbc d.to [],[]⟩]},0)):=by show _=_;rw[hr,if_neg (by simpa using ou)]
     clear hr;go_wp2_with fail
     go_meet
     exact⟨by first|rfl|trivial,af,HE,G2.o,aB.o⟩
   ·have hr:=br.o;have CS:decide (0<d.years)=false:=by simpa using hy
    rw[CS]at hr;simp only[Bool.false_and,Bool.false_eq_true,if_false]at hr;have HE:=zHi hr;clear hr;go_wp2_with fail
    go_meet
    exact⟨by first|rfl|trivial,-1,HE,GG.o,aA.o⟩
  case rest=>
   obtain⟨_,fin,HE,gG2,bB⟩:=hcut;obtain⟨W2,cF⟩: ∃W2,W2=wc:=⟨_,rfl⟩
   subst cF;have aB:=zHi bB;have jk:=bB.size;have fN:=zHi gG2
   have oO:GrSt [] (zap d.to):=⟨⟨List.Pairwise.nil,by simp⟩,by simp,by show(0:Rat)+_<=1;have:=jR.o.2.1;grind,fun p hp=>by
    obtain⟨q,hq,rfl⟩:=List.mem_map.1 hp;have:=(jR.o.1 q hq).1;show 0<=q.rat;grind,fun p hp=>by
    obtain⟨q,hq,rfl⟩:=List.mem_map.1 hp
    exact(jR.o.1 q hq).2.1⟩
   have BC:=zHi oO;clear g0 g1 g2 g3 g4 gf gl bB gG2 oO;clear xs0 xd0 xr0 s0 s1 s2 s3 s4 s5 s6 d0 d1 d2 d3 d4 d5 d6 r0 r1 r2 r3 r4 r5 r6 rf ls ld lr;go_upto_region 11 with fail
   go_loopw [7] (fun n wr=> ∃(k:Nat) (out:Parts) (VA:Option Addr) (vc:Nat),k<=d.to.length/\n= .int .i64 k/\Hid (R=({s with graves:=s.graves++[⟨d.place,d.cls,fin,zbc (d.to.drop k) out,[]⟩]},0))/\Hid (GrSt out (zap (d.to.drop k)))/\out.length<=k/\OwnS wr W0.heap.size 75 3 zaa (.slice VA out.length vc) out/\wr.heap[GB]?=some (.cells #[.string d.place, .int .i64 d.cls, .int .i64 (fin), .slice VA out.length vc, .slice none 0 0] 49)/\Below W0.heap.size W0 wr) (fun n _=>d.to.length-(intOf n).toNat)
   case atStart=>exact⟨0,[],none,0,Nat.zero_le _,rfl,HE,BC,Nat.le_refl _,OwnS.nil,fN.o,aB.o⟩
   case round=>
    obtain⟨k,out,VA,vc,hk,rfl,HX,HG,iW,ae,iw,cw⟩:=hrel;have u7:=cw.size;obtain⟨g0,g1,g2,g3,g4⟩:=zef iw;have gl:=zab iw;have bx:=zHi cw;have HO:=zHi ae;have ei:=zHi iw;obtain⟨⟨xs0,xd0,xr0⟩,⟨s0,s1,s2,s3,s4,s5,s6⟩,⟨d0,d1,d2,d3,d4,d5,d6⟩,⟨r0,r1,r2,r3,r4,r5,r6⟩,rf,ls,ld,lr⟩:=ddF (ax.o wr (cw));have vf:=zHi (HS.o wr (ak.o.trans (cw.mono aw)));by_cases aa:k<d.to.length
    ·obtain⟨b,off,hA,hb,ah⟩:=vf.o.at aa;have hx:=HX.o;have aj:=HG.o;have gD:d.to.drop k=d.to[k]::d.to.drop (k+1):=List.drop_eq_getElem_cons aa;rw[gD]at hx aj;have bO:=(jR.o.1 _ (List.getElem_mem aa)).2.2;have am:=zHi aa;clear gD;generalize d.to[k]=y at*;obtain⟨nm,nu,de⟩:=y;have dC:R=({s with graves:=s.graves++[⟨d.place,d.cls,fin,zbc (d.to.drop (k+1)) (za4 out nm (Rat.divInt nu de)),[]⟩]},0):=hx;have cq:GrSt out ((nm,Rat.divInt nu de)::zap (d.to.drop (k+1))):=aj;simp only at bO;have i0:wr.cell? ⟨b,off+k*3,none⟩=some (.string nm):=ah 0 _ rfl;have i1:wr.cell? ⟨b,off+k*3+1,none⟩=some (.int .i64 nu):=ah 1 _ rfl;have i2:wr.cell? ⟨b,off+k*3+2,none⟩=some (.int .i64 de):=ah 2 _ rfl;have ar:(k:Int)<(d.to.length:Int):=Mcn;have aT:(0:Int)<=(k:Int):=Mcn;obtain⟨r1,r2,r3,r4⟩:=zbj bO;have eD:=zHi (fun W (hW:Below wr.heap.size wr W)=>zcS out nm (Rat.divInt nu de) VA vc W Mcn cq.parts cq.small (ziT zao (HO.o.keep hW)).1);unfold zaB at eD;rw[r1,r2]at eD;have ig:=zHi cq.next;have av:=zHi dC;have cz:=zcz nm (Rat.divInt nu de) out;rw[hA]at d4
     have aG:=zHi (fun(W:World) (h:Below wr.heap.size wr W)=>(show W.cell? ⟨w.heap.size+1,4,none⟩=some (.slice (some ⟨b,off,none⟩) d.to.length c)/\W.cell? ⟨GB,3,none⟩=some (.slice VA out.length vc)/\W.cell? ⟨b,off+k*3,none⟩=some (.string nm)/\W.cell? ⟨b,off+k*3+1,none⟩=some (.int .i64 nu)/\W.cell? ⟨b,off+k*3+2,none⟩=some (.int .i64 de) from⟨(zah h ld).trans d4,(zah h gl).trans g3,(zah h hb).trans i0,(zah h hb).trans i1,(zah h hb).trans i2⟩));clear ah hx aj dC cq bO aa r1 r2 r3 r4 ae iw hA;generalize za4 out nm (Rat.divInt nu de)=out1 at*;go_upto_region 13 with fail
     refine zaC 14 (fun bb w'=>bb=true\/(w'.cell? ⟨w.heap.size+1,4,none⟩=some (.slice (some ⟨b,off,none⟩) d.to.length c)/\w'.cell? ⟨GB,3,none⟩=some (.slice VA out.length vc)/\w'.cell? ⟨b,off+k*3,none⟩=some (.string nm)/\w'.cell? ⟨b,off+k*3+1,none⟩=some (.int .i64 nu)/\w'.cell? ⟨b,off+k*3+2,none⟩=some (.int .i64 de))) Mco (.inr (aG.o _ (zaH (Below.refl _ _)))) ?hrest
     case hrest=>
      intro hHeld;clear g0 g1 g2 g3 g4 i0 i1 i2;clear xs0 xd0 xr0 s0 s1 s2 s3 s4 s5 s6 d0 d1 d2 d3 d4 d5 d6 r0 r1 r2 r3 r4 r5 r6 rf ls ld lr;refine TkM 0 ?_;refine TkM 1 ?_;refine TkM 2 ?_;refine TkM 3 ?_;refine TkM 4 ?_;refine TkM 5 ?_;refine TkM 6 ?_;refine TkM 7 ?_;refine TkM 8 ?_;refine TkM 9 ?_;refine TkM 10 ?_;refine TkM 11 ?_;refine TkM 12 ?_;refine TkM 13 ?_;refine OnM 14 true fun K hK=> ?_
      go_simp
      refine(eD.o _ (zaH (Below.refl _ _))).mono ?_;rintro e w5 ⟨v5,rfl,o5,b5⟩;obtain⟨YA,yc,rfl,_,_⟩:=o5.sl zao;have aq:Below wr.heap.size wr w5:=(zaH (Below.refl _ _)).trans b5;have g5:=(aq.block GB gl).trans ei.o;refine NxM hK fun hHeld=> ?_
      clear hK K;refine OnM 15 true fun K hK=> ?_
      go_simp
      refine NxM hK fun hHeld=> ?_
      clear hK K;obtain⟨g0,g1,g2,g3,g4⟩:=zef g5;have gf:=frz g5;have gl5:=zab g5;refine OnM 16 true fun K hK=> ?_
      go_simp
      refine NxM hK fun hHeld=> ?_
      clear hK K;refine zaN Mco ?_ _;have O5:=zHi (o5.base_le (show W0.heap.size<=wr.drew.heap.size by show W0.heap.size<=wr.heap.size;omega));have G5:=zHi g5;have bi:=zHi (bx.o.trans (aq.mono u7));clear hHeld g0 g1 g2 g3 g4 gf gl5 g5 o5 b5 aq;go_wp2_with fail
      go_round
      case rel=>
       refine⟨k+1,out1,YA,yc,am.o,by go_num,av,ig,by omega,O5.o.kept (zaz _ _ _ _) G5.o Mcp,?_,zaM bi.o iQ _⟩;have:=Joins.block_setCell (i:=3) G5.o (.slice YA out1.length yc);simpa using this
      case measure=>have:=am.o;simp only[intOf];omega
    ·have ar: ¬(k:Int)<(d.to.length:Int):=Mcn;have hx:=HX.o;rw[List.drop_of_length_le Mcn]at hx;have ut:Hid (R=({s with graves:=s.graves++[⟨d.place,d.cls,fin,out,[]⟩]},0)):=Md7;have Ke:=HF.o.graves;clear hx aa ae iw;go_upto_region 14 with fail
     clear ar;obtain⟨WX,kp⟩: ∃WX,WX=wr:=⟨_,rfl⟩
     subst kp;have dU:=bx.o.size;have bs:Hid (s.graves.length=(gxs).length):=zHi (by rw[<-HM.o,List.length_map]);have tg:Hid ((gxs).length<=1000):=zHi (by rw[<-bs.o];exact HF.o.graves);have cf:=zHi (fun W (hB:Below WX.heap.size WX W)=>AP.o.keep (ak.o.trans ((bx.o.trans (hB.mono dU)).mono aw)));have aG:=zHi (fun(W:World) (h:Below WX.heap.size WX W)=>(show W.cell? ⟨w.heap.size,6,none⟩=some (.slice GA s.graves.length c6)/\W.cell? ⟨GB,0,none⟩=some (.string d.place)/\W.cell? ⟨GB,1,none⟩=some (.int .i64 d.cls)/\W.cell? ⟨GB,2,none⟩=some (.int .i64 fin)/\W.cell? ⟨GB,3,none⟩=some (.slice VA out.length vc)/\W.cell? ⟨GB,4,none⟩=some (.slice none 0 0) from⟨(zah h ls).trans s6,(zah h gl).trans g0,(zah h gl).trans g1,(zah h gl).trans g2,(zah h gl).trans g3,(zah h gl).trans g4⟩));clear g0 g1 g2 g3 g4;go_cut [5]from 62 to 70 (fun v wc=>(v=v/\ ∃V c',wc.heap[w.heap.size]?=some (.cells #[.slice LA laws.length c0, .slice CA s.children.length c1, .slice MA s.marriages.length c2, .slice DA s.dead.length c3, .slice WA wd.length c4, .slice RA rd.length c5, .slice V (s.graves.length+1) c'] 36)/\wc.heap[w.heap.size+2]?=some (.cells #[.slice none 0 0, .slice none 0 0, .slice none 0 0, .slice none 0 0, .slice none 0 0, .slice none 0 0, .slice none 0 0] 36)/\Ro wc 49 GX.cells V (gxs++[(⟨⟨d.place,d.cls,fin,out,[]⟩,VA,vc,none,0⟩:GX)])/\Below w.heap.size w wc)/\Ro wc 75 zaa VA out)
     case first=>
      refine zaC 6 (fun bb w'=>bb=true\/(w'.cell? ⟨w.heap.size,6,none⟩=some (.slice GA s.graves.length c6)/\w'.cell? ⟨GB,0,none⟩=some (.string d.place)/\w'.cell? ⟨GB,1,none⟩=some (.int .i64 d.cls)/\w'.cell? ⟨GB,2,none⟩=some (.int .i64 fin)/\w'.cell? ⟨GB,3,none⟩=some (.slice VA out.length vc)/\w'.cell? ⟨GB,4,none⟩=some (.slice none 0 0))) Mco (.inr (aG.o _ (zaH (Below.refl _ _)))) ?hrest
      case hrest=>
       intro hHeld;clear xs0 xd0 xr0 s0 s1 s2 s3 s4 s5 s6 d0 d1 d2 d3 d4 d5 d6 r0 r1 r2 r3 r4 r5 r6 rf ls ld lr;refine TkM 1 ?_;refine TkM 2 ?_;refine TkM 4 ?_;refine TwM 0 5 (fun K hK=> ?_) fun K hK=> ?_
       ·go_simp
        have e0:Below WX.heap.size WX (WX.drew.alloc (.cells #[] 49)):=zad (zaH (Below.refl _ _)) _;have m0:OwnS (WX.drew.alloc (.cells #[] 49)) WX.heap.size 49 5 GX.cells (.slice (some ⟨WX.heap.size,0,none⟩) 0 0) []:=zdY zcT WX.drew WX.heap.size (Nat.le_refl _);refine NxM hK (fun hHeld=> ?_) (.inr (aG.o _ e0));clear hK K;refine TwM 3 5 (fun K hK=> ?_) fun K hK=> ?_
        ·refine zak (v:= .slice (some ⟨WX.heap.size,0,none⟩) 0 0) (n:=0) (m:=s.graves.length) rfl _ _ rfl zho zcT zkb rfl (xs:=[]) (ys:=gxs) (m0) rfl rfl bs.o (cf.o _ e0) Mcv McG Mcy ?_;intro v4 w4 h1 h2 h3;rw[List.nil_append]at h1;obtain⟨V4,c4',b8,_,_⟩:=h1.sl zcT;rw[<-bs.o]at b8;subst b8;have aC:Below WX.heap.size WX w4:=Below.grown e0 h2 Mdn (fun j hj=>by simp[zaA]at hj;omega);refine NxM hK (fun hHeld=> ?_) (.inr (aG.o _ aC));clear hK K;refine OnM 5 false fun K hK=> ?_
         go_simp
         have e1:Below WX.heap.size WX (w4.alloc (.cells #[.string d.place, .int .i64 d.cls, .int .i64 fin, .slice VA out.length vc, .slice none 0 0] 49)):=zad aC _;have n1:(w4.alloc (.cells #[.string d.place, .int .i64 d.cls, .int .i64 fin, .slice VA out.length vc, .slice none 0 0] 49)).heap[w4.heap.size]?=some (.cells #[.string d.place, .int .i64 d.cls, .int .i64 fin, .slice VA out.length vc, .slice none 0 0] 49):=zar _ _ _ rfl;have o1:OwnS (w4.alloc (.cells #[.string d.place, .int .i64 d.cls, .int .i64 fin, .slice VA out.length vc, .slice none 0 0] 49)) WX.heap.size 49 5 GX.cells (.slice V4 s.graves.length c4') gxs:=h1.keep (n:=w4.heap.size) (zad (Below.refl _ _) _);refine NxM hK (fun hHeld=> ?_) (.inr (aG.o _ e1));clear hK K;have o9:=o1;have n9:=n1;have e9:=e1;exact Mk
        ·go_simp
         have e1:Below WX.heap.size WX ((WX.drew.alloc (.cells #[] 49)).alloc (.cells #[.string d.place, .int .i64 d.cls, .int .i64 fin, .slice VA out.length vc, .slice none 0 0] 49)):=zad e0 _;have n1:((WX.drew.alloc (.cells #[] 49)).alloc (.cells #[.string d.place, .int .i64 d.cls, .int .i64 fin, .slice VA out.length vc, .slice none 0 0] 49)).heap[WX.heap.size+1]?=some (.cells #[.string d.place, .int .i64 d.cls, .int .i64 fin, .slice VA out.length vc, .slice none 0 0] 49):=zar _ _ _ Mcq;have m1:OwnS ((WX.drew.alloc (.cells #[] 49)).alloc (.cells #[.string d.place, .int .i64 d.cls, .int .i64 fin, .slice VA out.length vc, .slice none 0 0] 49)) WX.heap.size 49 5 GX.cells (.slice (some ⟨WX.heap.size,0,none⟩) 0 0) []:=m0.keep (n:=(WX.drew.alloc (.cells #[] 49)).heap.size) (zad (Below.refl _ _) _);refine NxM hK (fun hHeld=> ?_) (.inr (aG.o _ e1));clear hK K;refine OnM 3 false fun K hK=> ?_
         refine zak (v:= .slice (some ⟨WX.heap.size,0,none⟩) 0 0) (n:=0) (m:=s.graves.length) rfl _ _ rfl zho zcT zkb rfl (xs:=[]) (ys:=gxs) (m1) rfl rfl bs.o (cf.o _ e1) Mcv McG Mcu ?_;intro v4 w4 h1 h2 h3;rw[List.nil_append]at h1;obtain⟨V4,c4',b8,_,_⟩:=h1.sl zcT;rw[<-bs.o]at b8;subst b8;have aC:Below WX.heap.size WX w4:=Below.grown e1 h2 McI (fun j hj=>by simp[zaA]at hj;omega);have n2:w4.heap[WX.heap.size+1]?=some (.cells #[.string d.place, .int .i64 d.cls, .int .i64 fin, .slice VA out.length vc, .slice none 0 0] 49):=(h2.block _ McE Mdg).trans n1;exact Mb5
       ·go_simp
        have e0:Below WX.heap.size WX (WX.drew.alloc (.cells #[.string d.place, .int .i64 d.cls, .int .i64 fin, .slice VA out.length vc, .slice none 0 0] 49)):=zad (zaH (Below.refl _ _)) _;have n0:(WX.drew.alloc (.cells #[.string d.place, .int .i64 d.cls, .int .i64 fin, .slice VA out.length vc, .slice none 0 0] 49)).heap[WX.heap.size]?=some (.cells #[.string d.place, .int .i64 d.cls, .int .i64 fin, .slice VA out.length vc, .slice none 0 0] 49):=zar _ _ _ rfl;refine NxM hK (fun hHeld=> ?_) (.inr (aG.o _ e0));clear hK K;refine OnM 0 false fun K hK=> ?_
        go_simp
        have e1:Below WX.heap.size WX ((WX.drew.alloc (.cells #[.string d.place, .int .i64 d.cls, .int .i64 fin, .slice VA out.length vc, .slice none 0 0] 49)).alloc (.cells #[] 49)):=zad e0 _;have n1:((WX.drew.alloc (.cells #[.string d.place, .int .i64 d.cls, .int .i64 fin, .slice VA out.length vc, .slice none 0 0] 49)).alloc (.cells #[] 49)).heap[WX.heap.size]?=some (.cells #[.string d.place, .int .i64 d.cls, .int .i64 fin, .slice VA out.length vc, .slice none 0 0] 49):=zal n0;have m1:OwnS ((WX.drew.alloc (.cells #[.string d.place, .int .i64 d.cls, .int .i64 fin, .slice VA out.length vc, .slice none 0 0] 49)).alloc (.cells #[] 49)) WX.heap.size 49 5 GX.cells (.slice (some ⟨WX.heap.size+1,0,none⟩) 0 0) []:=by
         have:=zdY (t:=49) zcT (WX.drew.alloc (.cells #[.string d.place, .int .i64 d.cls, .int .i64 fin, .slice VA out.length vc, .slice none 0 0] 49)) WX.heap.size Mcq;simpa using this
        refine NxM hK (fun hHeld=> ?_) (.inr (aG.o _ e1));clear hK K;refine OnM 3 false fun K hK=> ?_
        refine zak (v:= .slice (some ⟨WX.heap.size+1,0,none⟩) 0 0) (n:=0) (m:=s.graves.length) rfl _ _ rfl zho zcT zkb rfl (xs:=[]) (ys:=gxs) (m1) rfl rfl bs.o (cf.o _ e1) Mcv McG Mcu ?_;intro v4 w4 h1 h2 h3;rw[List.nil_append]at h1;obtain⟨V4,c4',b8,_,_⟩:=h1.sl zcT;rw[<-bs.o]at b8;subst b8;have aC:Below WX.heap.size WX w4:=Below.grown e1 h2 McI (fun j hj=>by simp[zaA]at hj;omega);have n2:w4.heap[WX.heap.size]?=some (.cells #[.string d.place, .int .i64 d.cls, .int .i64 fin, .slice VA out.length vc, .slice none 0 0] 49):=(h2.block _ McE Mdg).trans n1;exact Mb5
     case rest=>
      obtain⟨⟨_,V,c',eM,cu,eb,ob⟩,oM⟩:=hcut;clear xs0 xd0 xr0 s0 s1 s2 s3 s4 s5 s6 d0 d1 d2 d3 d4 d5 d6 r0 r1 r2 r3 r4 r5 r6 rf ls ld lr;obtain⟨s0,s1,s2,s3,s4,s5,s6⟩:=zaG eM;obtain⟨r0,r1,r2,r3,r4,r5,r6⟩:=zaG cu;have rf:=frz cu;have ls:=zab eM;have lr:=zab cu;go_wp2_with fail
      rw[ut.o];have dh:=zc9 (a0:= .slice LA laws.length c0) (a1:= .slice CA s.children.length c1) (a2:= .slice MA s.marriages.length c2) (a3:= .slice DA s.dead.length c3) (a4:= .slice WA wd.length c4) (a5:= .slice RA rd.length c5) (a6:= .slice V (s.graves.length+1) c') ob (show w.heap.size<=w.heap.size+2 by omega);refine bodyPost_ret (zbB rfl _ rfl rfl (zc0 cu)) rfl ?_;have h':=H.o _ dh;refine⟨_,_,_,_,_,_,_,rfl,rfl,dh,fun _=>⟨wd,rd,LA,CA,MA,DA,WA,RA,V,c0,c1,c2,c3,c4,c5,c',rfl,rfl,rfl,rfl,rfl,rfl,by rw[List.length_append];rfl,⟨h'.laws,h'.kids,h'.marr,h'.dead,h'.wills,h'.ren,?_,h'.deadc⟩,⟨HK.o.wills,HK.o.shares,HK.o.ren,HK.o.tos⟩⟩⟩;refine slw_gx ((zjh eb cu Mcp).sl zcT) (by rw[List.map_append,HM.o];rfl) fun x hx=> ?_
      rcases List.mem_append.1 hx with hx|hx
      ·exact(dI.o x hx).keep dh
      ·rw[List.mem_singleton.1 hx];exact⟨(zjh oM cu Mcp).sl zao,Sl.nil⟩
structure OffS (b:Nat) (W W':World):Prop where
 blk: ∃cs t fr,W.heap[b]?=some (.cells cs t fr)/\ ∀(j:Nat) (u:Value),cs[j]?=some u->zcC u=true
 same: ∀g,g≠b->W'.heap[g]?=W.heap[g]?
section
variable {b:Nat} {W W':World}
theorem OffS.ne (h:OffS b W W') {g i:Nat} {u:Value} (hc:W.cell? ⟨g,i,none⟩=some u) (hu:zcC u=false):g≠b:=by
 rintro rfl;obtain⟨cs,t,fr,h1,h2⟩:=h.blk;simp only[World.cell?,h1]at hc;have:=h2 i u MdZ;rw[hu]at this;cases this
theorem OffS.cell (h:OffS b W W') {g i:Nat} (hg:g≠b):W'.cell? ⟨g,i,none⟩=W.cell? ⟨g,i,none⟩:=by simp only[World.cell?,h.same g hg]
theorem OffS.lt (h:OffS b W W') {g:Nat} (hg:g≠b) (hl:g<W.heap.size):g<W'.heap.size:=by
 have:=h.same g hg;rw[Array.getElem?_eq_getElem hl]at this;exact(Array.getElem?_eq_some_iff.1 this).1
theorem OffS.sl (h:OffS b W W') {α:Type} {size:Nat} {f:α->List Value} {A:Option Addr} {xs:List α} (h0: ∀x,∃u,(f x)[0]?=some u/\zcC u=false) (hS:Sl W size f A xs):Sl W' size f A xs:=fun hl=>by
 obtain⟨g,off,hA,hg,hc⟩:=hS hl;obtain⟨u,hu,hs⟩:=h0 xs[0];have dM:=h.ne (hc 0 _ (List.getElem?_eq_getElem hl) 0 u hu) hs;exact⟨g,off,hA,h.lt dM hg,fun k x hk j v hv=>(h.cell dM).trans (hc k x hk j v hv)⟩
theorem OffS.slw (h:OffS b W W') {α:Type} {size:Nat} {R:World->α->List Value->Prop} {A:Option Addr} {xs:List α} (h0: ∀x cs,R W x cs->R W' x cs/\ ∃u,cs[0]?=some u/\zcC u=false) (hS:SlW W size R A xs):SlW W' size R A xs:=fun hl=>by
 obtain⟨g,off,hA,hg,hc⟩:=hS hl;obtain⟨cs,hr,ah⟩:=hc 0 _ (List.getElem?_eq_getElem hl);obtain⟨_,u,hu,hs⟩:=h0 _ _ hr;have dM:=h.ne (ah 0 u hu) hs;refine⟨g,off,hA,h.lt dM hg,fun k x hk=> ?_⟩;obtain⟨cs,hr,ah⟩:=hc k x hk;exact⟨cs,(h0 _ _ hr).1,fun j v hv=>(h.cell dM).trans (ah j v hv)⟩
theorem OffS.st (h:OffS b W W') {laws:List Law} {s:St} {a0 a1 a2 a3 a4 a5 a6:Value} (hS:StAt W laws s a0 a1 a2 a3 a4 a5 a6):StAt W' laws s a0 a1 a2 a3 a4 a5 a6:=by
 obtain⟨wd,rd,LA,CA,MA,DA,WA,RA,GA,c0,c1,c2,c3,c4,c5,c6,e0,e1,e2,e3,e4,e5,e6,hI,hL⟩:=hS;have hd: ∀x cs,zfc W x cs->zfc W' x cs/\ ∃u,cs[0]?=some u/\zcC u=false:=by
  rintro x cs ⟨B,c,h1,rfl,h3⟩;exact⟨⟨B,c,h1,rfl,h.sl (fun p=>⟨_,rfl,rfl⟩) h3⟩,_,rfl,rfl⟩
 have hg: ∀x cs,zid W x cs->zid W' x cs/\ ∃u,cs[0]?=some u/\zcC u=false:=by
  rintro x cs ⟨H,hc,D,dc,rfl,h1,h2⟩;exact⟨⟨H,hc,D,dc,rfl,h.sl (fun p=>⟨_,rfl,rfl⟩) h1,h.sl (fun p=>⟨_,rfl,rfl⟩) h2⟩,_,rfl,rfl⟩
 exact⟨wd,rd,LA,CA,MA,DA,WA,RA,GA,c0,c1,c2,c3,c4,c5,c6,e0,e1,e2,e3,e4,e5,e6,
  ⟨h.sl (fun p=>⟨_,rfl,rfl⟩) hI.laws,h.sl (fun p=>⟨_,rfl,rfl⟩) hI.kids,h.sl (fun p=>⟨_,rfl,rfl⟩) hI.marr,h.sl (fun p=>⟨_,rfl,rfl⟩) hI.dead,h.slw hd hI.wills,h.slw hd hI.ren,h.slw hg hI.graves,hI.deadc⟩,hL⟩
theorem zc3 {x0 x1 x2 x3 x4 x5 x6 a0 a1 a2 a3 a4 a5 a6:Value} {t:TypeId} {fr:Nat×Nat} (hb:W.heap[b]?=some (.cells #[x0,x1,x2,x3,x4,x5,x6] t fr)) (hx:([x0,x1,x2,x3,x4,x5,x6].all zcC)=true):
 OffS b W (((((((W.setCell ⟨b,0,none⟩ a0).setCell ⟨b,1,none⟩ a1).setCell ⟨b,2,none⟩ a2).setCell ⟨b,3,none⟩ a3).setCell ⟨b,4,none⟩ a4).setCell ⟨b,5,none⟩ a5).setCell ⟨b,6,none⟩ a6):=by
 refine⟨⟨_,t,fr,hb,fun j u hu=> ?_⟩,fun g hg=> ?_⟩
 ·rw[List.all_eq_true]at hx;refine hx u ?_;have:=Array.mem_of_getElem? hu;simpa using this
 ·cases hc:W.heap[g]? with
  |some o=>exact J_ne hg (J_ne hg (J_ne hg (J_ne hg (J_ne hg (J_ne hg (J_ne hg hc))))))
  |none=>
   have hs:W.heap.size<=g:=MdZ;rw[Array.getElem?_eq_none];simp;exact hs
end
theorem StAt.keep {W W':World} {laws:List Law} {s:St} {a0 a1 a2 a3 a4 a5 a6:Value} (h:StAt W laws s a0 a1 a2 a3 a4 a5 a6) (hB:Below W.heap.size W W'):StAt W' laws s a0 a1 a2 a3 a4 a5 a6:=by
 obtain⟨wd,rd,LA,CA,MA,DA,WA,RA,GA,c0,c1,c2,c3,c4,c5,c6,e0,e1,e2,e3,e4,e5,e6,hI,hL⟩:=h;exact⟨wd,rd,LA,CA,MA,DA,WA,RA,GA,c0,c1,c2,c3,c4,c5,c6,e0,e1,e2,e3,e4,e5,e6,hI.keep hB,hL⟩
def zkV (w:World) (laws:List Law) (R:St×Int) (e:Ending) (w':World):Prop:=
 ∃a0 a1 a2 a3 a4 a5 a6 b,e= .returned (.tuple #[.agg #[a0,a1,a2,a3,a4,a5,a6], .bool b])/\([a0,a1,a2,a3,a4,a5,a6].all zcC)=true/\Below w.heap.size w w'/\((b=true/\R.2=0/\StAt w' laws R.1 a0 a1 a2 a3 a4 a5 a6)\/(b=false/\R.2=8))
def zpn (laws:List Law) (s:St) (n:ByteArray) (day:Int):St×Int:=match zby s n day (zct s (zaY laws day) n) 0 s.graves with
 |none=>(s,8)
 |some gs=>({s with graves:=gs,dead:=s.dead++[n]},0)
theorem rTake_of (laws:List Law) (s:St) (wd rd:List Deed) (LA CA MA DA WA RA GA:Option Addr) (c0 c1 c2 c3 c4 c5 c6:Nat) (d:Deed) (B:Option Addr) (c:Nat) (w:World) (h:StIn w laws s wd rd LA CA MA DA WA RA GA c0 c1 c2 c3 c4 c5 c6) (hk:StLink s wd rd) (hf:StFew s wd rd) (hd:OkD d) (hS:Sl w 3 RPart.cells B d.to) (au:d.to.length<=c) (ba: ∀g∈s.graves,GoodG g/\g.holders.length<=50000) (bL: ∀g∈s.graves,g.fin<=200000)
 (iu: ∀W,Below w.heap.size w W->Calls Tryz.prog 187 #[.agg #[.slice LA laws.length c0, .slice CA s.children.length c1, .slice MA s.marriages.length c2, .slice DA s.dead.length c3, .slice WA wd.length c4, .slice RA rd.length c5, .slice GA s.graves.length c6], .string d.frm, .int .i64 d.day] W (zkV W laws (zpn laws s d.frm d.day))):Calls Tryz.prog 127 #[.agg #[.slice LA laws.length c0, .slice CA s.children.length c1, .slice MA s.marriages.length c2, .slice DA s.dead.length c3, .slice WA wd.length c4, .slice RA rd.length c5, .slice GA s.graves.length c6],d.v B c] w (zeX w laws (zbm laws s d)):=by
 obtain⟨R,hR⟩: ∃R,R=zbm laws s d:=⟨_,rfl⟩
 rw[<-hR];unfold zbm at hR;have ei:=zHi ba;have qs:=zHi bL;have yK:=zHi iu;have lz:=zHi au;obtain⟨dvs,wL,wM,rU⟩:=dv_of h.wills;have yN:=zHi wL;have sS:=zHi wM;have qk:=zHi rU;clear ba bL iu au wL wM rU;have H:=zHi (fun W (hB:Below w.heap.size w W)=>h.keep hB);have HK:=zHi hk;have HF:=zHi hf;have HD:=zHi hd;have HS:=zHi (fun W (hB:Below w.heap.size w W)=>hS.keep hB);have HR:=zHi hR;unfold Deed.v;clear h hk hf hd hS hR;go_enter Tryz.func127,Tryz.ntmps127
 go_upto_region 1 with fail
 generalize ao:World.alloc (World.alloc (World.alloc w _) _) _=W0;obtain⟨ak,ax⟩:=zeP ao;clear ao;have aw:=ak.o.size;obtain⟨⟨xs0,xd0,xr0⟩,⟨s0,s1,s2,s3,s4,s5,s6⟩,⟨d0,d1,d2,d3,d4,d5,d6⟩,⟨r0,r1,r2,r3,r4,r5,r6⟩,rf,ls,ld,lr⟩:=ddF (ax.o W0 (Below.refl _ _));have hr:=HR.o;have hH:=H.o W0 ak.o;have pk:=HS.o W0 ak.o;go_upto_region 1 with fail
 by_cases h0:d.kind=0
 ·have k0:(d.kind==0)=true:=by simp[h0]
  have HT:=zHi (zpm laws s wd rd LA CA MA DA WA RA GA c0 c1 c2 c3 c4 c5 c6 d B c W0 hH HK.o HF.o HD.o pk h0);have cO:R=zcN s d:=by rw[hr];simp[h0]
  rw[<-cO]at HT;unfold Deed.v at HT;clear hr h0 cO
  go_wp2_with (go_at_call 180
               go_must(refine(HT.o).mono ?_)
               rintro e w5 ⟨a0,a1,a2,a3,a4,a5,a6,rfl,aP,aq,aj⟩;obtain⟨⟨_,_,_,rfl⟩,⟨_,_,_,rfl⟩,⟨_,_,_,rfl⟩,⟨_,_,_,rfl⟩,⟨_,_,_,rfl⟩,⟨_,_,_,rfl⟩,⟨_,_,_,rfl⟩⟩:=zck aP;have bi:=zHi aq;have aD:=zHi aj;obtain⟨_,_,xr5⟩:=ax.o w5 aq;obtain⟨t0,t1,t2,t3,t4,t5,t6⟩:=zaG xr5;have tf:=frz xr5
               clear aq aj aP)
  exact Mw
 have k0:(d.kind==0)=false:=by simp[h0]
 by_cases h1:d.kind=1
 ·have k1:(d.kind==1)=true:=by simp[h1]
  have HT:=zHi (zkS laws s wd rd LA CA MA DA WA RA GA c0 c1 c2 c3 c4 c5 c6 d B c W0 hH HK.o HF.o HD.o pk h1 ei.o);have cO:R=zbo s d:=by rw[hr];simp[h1]
  rw[<-cO]at HT;unfold Deed.v at HT;clear hr h1 cO
  go_wp2_with (go_at_call 181
               go_must(refine(HT.o).mono ?_)
               rintro e w5 ⟨a0,a1,a2,a3,a4,a5,a6,rfl,aP,aq,aj⟩;obtain⟨⟨_,_,_,rfl⟩,⟨_,_,_,rfl⟩,⟨_,_,_,rfl⟩,⟨_,_,_,rfl⟩,⟨_,_,_,rfl⟩,⟨_,_,_,rfl⟩,⟨_,_,_,rfl⟩⟩:=zck aP;have bi:=zHi aq;have aD:=zHi aj;obtain⟨_,_,xr5⟩:=ax.o w5 aq;obtain⟨t0,t1,t2,t3,t4,t5,t6⟩:=zaG xr5;have tf:=frz xr5
               clear aq aj aP)
  exact Mw
 have k1:(d.kind==1)=false:=by simp[h1]
 by_cases h2:d.kind=2
 ·have k2:(d.kind==2)=true:=by simp[h2]
  have HT:=zHi (zjt laws s wd rd LA CA MA DA WA RA GA c0 c1 c2 c3 c4 c5 c6 d B c W0 hH HK.o HF.o HD.o pk ei.o);have cO:R=zaZ s d:=by rw[hr];simp[h2]
  rw[<-cO]at HT;unfold Deed.v at HT;clear hr h2 cO
  go_wp2_with (go_at_call 182
               go_must(refine(HT.o).mono ?_)
               rintro e w5 ⟨a0,a1,a2,a3,a4,a5,a6,rfl,aP,aq,aj⟩;obtain⟨⟨_,_,_,rfl⟩,⟨_,_,_,rfl⟩,⟨_,_,_,rfl⟩,⟨_,_,_,rfl⟩,⟨_,_,_,rfl⟩,⟨_,_,_,rfl⟩,⟨_,_,_,rfl⟩⟩:=zck aP;have bi:=zHi aq;have aD:=zHi aj;obtain⟨_,_,xr5⟩:=ax.o w5 aq;obtain⟨t0,t1,t2,t3,t4,t5,t6⟩:=zaG xr5;have tf:=frz xr5
               clear aq aj aP)
  exact Mw
 have k2:(d.kind==2)=false:=by simp[h2]
 by_cases h3:d.kind=3
 ·have k3:(d.kind==3)=true:=by simp[h3]
  have HT:=zHi (zph laws s wd rd LA CA MA DA WA RA GA c0 c1 c2 c3 c4 c5 c6 d B c W0 hH HK.o HF.o HD.o pk qs.o);have cO:R=zcY s d:=by rw[hr];simp[h3]
  rw[<-cO]at HT;unfold Deed.v at HT;clear hr h3 cO
  go_wp2_with (go_at_call 183
               go_must(refine(HT.o).mono ?_)
               rintro e w5 ⟨a0,a1,a2,a3,a4,a5,a6,rfl,aP,aq,aj⟩;obtain⟨⟨_,_,_,rfl⟩,⟨_,_,_,rfl⟩,⟨_,_,_,rfl⟩,⟨_,_,_,rfl⟩,⟨_,_,_,rfl⟩,⟨_,_,_,rfl⟩,⟨_,_,_,rfl⟩⟩:=zck aP;have bi:=zHi aq;have aD:=zHi aj;obtain⟨_,_,xr5⟩:=ax.o w5 aq;obtain⟨t0,t1,t2,t3,t4,t5,t6⟩:=zaG xr5;have tf:=frz xr5
               clear aq aj aP)
  exact Mw
 have k3:(d.kind==3)=false:=by simp[h3]
 by_cases h5:d.kind=5
 ·have k5:(d.kind==5)=true:=by simp[h5]
  have HT:=zHi (zkU laws s wd rd LA CA MA DA WA RA GA c0 c1 c2 c3 c4 c5 c6 d B c W0 hH HK.o HF.o HD.o pk h5 lz.o);have cO:R=zb9 s d:=by rw[hr];simp[h5]
  rw[<-cO]at HT;unfold Deed.v at HT;clear hr h5 cO
  go_wp2_with (go_at_call 184
               go_must(refine(HT.o).mono ?_)
               rintro e w5 ⟨a0,a1,a2,a3,a4,a5,a6,rfl,aP,aq,aj⟩;obtain⟨⟨_,_,_,rfl⟩,⟨_,_,_,rfl⟩,⟨_,_,_,rfl⟩,⟨_,_,_,rfl⟩,⟨_,_,_,rfl⟩,⟨_,_,_,rfl⟩,⟨_,_,_,rfl⟩⟩:=zck aP;have bi:=zHi aq;have aD:=zHi aj;obtain⟨_,_,xr5⟩:=ax.o w5 aq;obtain⟨t0,t1,t2,t3,t4,t5,t6⟩:=zaG xr5;have tf:=frz xr5
               clear aq aj aP)
  exact Mw
 have k5:(d.kind==5)=false:=by simp[h5]
 by_cases h6:d.kind=6
 ·have k6:(d.kind==6)=true:=by simp[h6]
  have HT:=zHi (zpl laws s wd rd LA CA MA DA WA RA GA c0 c1 c2 c3 c4 c5 c6 d B c W0 hH HK.o HF.o HD.o pk h6);have cO:R=zcD s d:=by rw[hr];simp[h6]
  rw[<-cO]at HT;unfold Deed.v at HT;clear hr h6 cO
  go_wp2_with (go_at_call 185
               go_must(refine(HT.o).mono ?_)
               rintro e w5 ⟨a0,a1,a2,a3,a4,a5,a6,rfl,aP,aq,aj⟩;obtain⟨⟨_,_,_,rfl⟩,⟨_,_,_,rfl⟩,⟨_,_,_,rfl⟩,⟨_,_,_,rfl⟩,⟨_,_,_,rfl⟩,⟨_,_,_,rfl⟩,⟨_,_,_,rfl⟩⟩:=zck aP;have bi:=zHi aq;have aD:=zHi aj;obtain⟨_,_,xr5⟩:=ax.o w5 aq;obtain⟨t0,t1,t2,t3,t4,t5,t6⟩:=zaG xr5;have tf:=frz xr5
               clear aq aj aP)
  exact Mw
 have k6:(d.kind==6)=false:=by simp[h6]
 by_cases h7:d.kind=7
 ·have k7:(d.kind==7)=true:=by simp[h7]
  have HT:=zHi (zpj laws s wd rd LA CA MA DA WA RA GA c0 c1 c2 c3 c4 c5 c6 d B c W0 hH HK.o HF.o HD.o pk h7);have cO:R=zdr s d:=by rw[hr];simp[h7]
  rw[<-cO]at HT;unfold Deed.v at HT;clear hr h7 cO
  go_wp2_with (go_at_call 186
               go_must(refine(HT.o).mono ?_)
               rintro e w5 ⟨a0,a1,a2,a3,a4,a5,a6,rfl,aP,aq,aj⟩;obtain⟨⟨_,_,_,rfl⟩,⟨_,_,_,rfl⟩,⟨_,_,_,rfl⟩,⟨_,_,_,rfl⟩,⟨_,_,_,rfl⟩,⟨_,_,_,rfl⟩,⟨_,_,_,rfl⟩⟩:=zck aP;have bi:=zHi aq;have aD:=zHi aj;obtain⟨_,_,xr5⟩:=ax.o w5 aq;obtain⟨t0,t1,t2,t3,t4,t5,t6⟩:=zaG xr5;have tf:=frz xr5
               clear aq aj aP)
  exact Mw
 have k7:(d.kind==7)=false:=by simp[h7]
 rw[k0,k1,k2,k3,k5,k6,k7]at hr;simp only[Bool.false_eq_true,if_false]at hr;have ib:=zHi (sDead d.frm W0 hH HF.o);clear pk hH;by_cases h4:d.kind=4
 ·have k4:(d.kind==4)=true:=by simp[h4]
  have Io:=zHi (zea (HD.o.parts (.inr (.inr h4))).2).1;rw[k4,if_pos rfl]at hr;unfold zgT at hr;clear h0 h1 h2 h3 h4 h5 h6 h7;cases ca:zaK s d.frm;rotate_left 1
  ·exact Mcl
  rw[ca,if_neg Mcq]at hr;rw[ca]at ib;have HE:=zHi hr;clear hr ca;go_upto_region 19 with(go_at_call 32;go_must(refine(ib.o).mono ?_);rintro e wq ⟨rfl,z,rfl⟩)
  obtain⟨WX,kp⟩: ∃WX,WX=W0.ext z:=⟨_,rfl⟩
  have fx:Below W0.heap.size W0 WX:=by rw[kp];exact zaq _ _
  rw[<-kp];have bx:=zHi fx;have dU:=fx.size;clear kp fx ib;clear xs0 xd0 xr0 s0 s1 s2 s3 s4 s5 s6 d0 d1 d2 d3 d4 d5 d6 r0 r1 r2 r3 r4 r5 r6 rf ls ld lr;obtain⟨⟨xs0,xd0,xr0⟩,⟨s0,s1,s2,s3,s4,s5,s6⟩,⟨d0,d1,d2,d3,d4,d5,d6⟩,⟨r0,r1,r2,r3,r4,r5,r6⟩,rf,ls,ld,lr⟩:=ddF (ax.o WX (bx.o));have Lc:=HF.o.wills;have bs:Hid (wd.length=(dvs).length):=zHi (by rw[<-yN.o,List.length_map]);have tg:Hid ((dvs).length<=1000):=zHi (by rw[<-bs.o];exact HF.o.wills);have cf:=zHi (fun W (hB:Below WX.heap.size WX W)=>qk.o.keep (ak.o.trans ((bx.o.trans (hB.mono dU)).mono aw)));have aG:=zHi (fun(W:World) (h:Below WX.heap.size WX W)=>(show W.cell? ⟨w.heap.size,4,none⟩=some (.slice WA wd.length c4)/\W.cell? ⟨w.heap.size+1,0,none⟩=some (.int .i64 d.kind)/\W.cell? ⟨w.heap.size+1,1,none⟩=some (.int .i64 d.day)/\W.cell? ⟨w.heap.size+1,2,none⟩=some (.string d.place)/\W.cell? ⟨w.heap.size+1,3,none⟩=some (.string d.frm)/\W.cell? ⟨w.heap.size+1,4,none⟩=some (.slice B d.to.length c)/\W.cell? ⟨w.heap.size+1,5,none⟩=some (.int .i64 d.cls)/\W.cell? ⟨w.heap.size+1,6,none⟩=some (.int .i64 d.years) from⟨(zah h ls).trans s4,(zah h ld).trans d0,(zah h ld).trans d1,(zah h ld).trans d2,(zah h ld).trans d3,(zah h ld).trans d4,(zah h ld).trans d5,(zah h ld).trans d6⟩))
  go_cut [5]from 67 to 75 (fun v wc=>v=v/\ ∃V c',wc.heap[w.heap.size]?=some (.cells #[.slice LA laws.length c0, .slice CA s.children.length c1, .slice MA s.marriages.length c2, .slice DA s.dead.length c3, .slice V (wd.length+1) c', .slice RA rd.length c5, .slice GA s.graves.length c6] 36)/\wc.heap[w.heap.size+2]?=some (.cells #[.slice none 0 0, .slice none 0 0, .slice none 0 0, .slice none 0 0, .slice none 0 0, .slice none 0 0, .slice none 0 0] 36)/\Ro wc 52 DV.cells V (dvs++[(⟨d,B,c⟩:DV)])/\Below w.heap.size w wc)
  case first=>
   refine zaC 6 (fun bb w'=>bb=true\/(w'.cell? ⟨w.heap.size,4,none⟩=some (.slice WA wd.length c4)/\w'.cell? ⟨w.heap.size+1,0,none⟩=some (.int .i64 d.kind)/\w'.cell? ⟨w.heap.size+1,1,none⟩=some (.int .i64 d.day)/\w'.cell? ⟨w.heap.size+1,2,none⟩=some (.string d.place)/\w'.cell? ⟨w.heap.size+1,3,none⟩=some (.string d.frm)/\w'.cell? ⟨w.heap.size+1,4,none⟩=some (.slice B d.to.length c)/\w'.cell? ⟨w.heap.size+1,5,none⟩=some (.int .i64 d.cls)/\w'.cell? ⟨w.heap.size+1,6,none⟩=some (.int .i64 d.years))) Mco (.inr (aG.o _ (zaH (Below.refl _ _)))) ?hrest
   case hrest=>
    intro hHeld;clear xs0 xd0 xr0 s0 s1 s2 s3 s4 s5 s6 d0 d1 d2 d3 d4 d5 d6 r0 r1 r2 r3 r4 r5 r6 rf ls ld lr;refine TkM 1 ?_;refine TkM 2 ?_;refine TkM 4 ?_;refine TwM 0 5 (fun K hK=> ?_) fun K hK=> ?_
    ·go_simp
     have e0:Below WX.heap.size WX (WX.drew.alloc (.cells #[] 52)):=zad (zaH (Below.refl _ _)) _;have m0:OwnS (WX.drew.alloc (.cells #[] 52)) WX.heap.size 52 7 DV.cells (.slice (some ⟨WX.heap.size,0,none⟩) 0 0) []:=zdY zb0 WX.drew WX.heap.size (Nat.le_refl _);refine NxM hK (fun hHeld=> ?_) (.inr (aG.o _ e0));clear hK K;refine TwM 3 5 (fun K hK=> ?_) fun K hK=> ?_
     ·refine zak (v:= .slice (some ⟨WX.heap.size,0,none⟩) 0 0) (n:=0) (m:=wd.length) rfl _ _ rfl zeW zb0 zeV rfl (xs:=[]) (ys:=dvs) (m0) rfl rfl bs.o (cf.o _ e0) Mcv McG Mcy ?_;intro v4 w4 h1 h2 h3;rw[List.nil_append]at h1;obtain⟨V4,c4',b8,_,_⟩:=h1.sl zb0;rw[<-bs.o]at b8;subst b8;have aC:Below WX.heap.size WX w4:=Below.grown e0 h2 Mdn (fun j hj=>by simp[zaA]at hj;omega);refine NxM hK (fun hHeld=> ?_) (.inr (aG.o _ aC));clear hK K;refine OnM 5 false fun K hK=> ?_
      go_simp
      have e1:Below WX.heap.size WX (w4.alloc (.cells #[.int .i64 d.kind, .int .i64 d.day, .string d.place, .string d.frm, .slice B d.to.length c, .int .i64 d.cls, .int .i64 d.years] 52)):=zad aC _;have n1:(w4.alloc (.cells #[.int .i64 d.kind, .int .i64 d.day, .string d.place, .string d.frm, .slice B d.to.length c, .int .i64 d.cls, .int .i64 d.years] 52)).heap[w4.heap.size]?=some (.cells #[.int .i64 d.kind, .int .i64 d.day, .string d.place, .string d.frm, .slice B d.to.length c, .int .i64 d.cls, .int .i64 d.years] 52):=zar _ _ _ rfl;have o1:OwnS (w4.alloc (.cells #[.int .i64 d.kind, .int .i64 d.day, .string d.place, .string d.frm, .slice B d.to.length c, .int .i64 d.cls, .int .i64 d.years] 52)) WX.heap.size 52 7 DV.cells (.slice V4 wd.length c4') dvs:=h1.keep (n:=w4.heap.size) (zad (Below.refl _ _) _);refine NxM hK (fun hHeld=> ?_) (.inr (aG.o _ e1));clear hK K;have o9:=o1;have n9:=n1;have e9:=e1;exact Mp
     ·go_simp
      have e1:Below WX.heap.size WX ((WX.drew.alloc (.cells #[] 52)).alloc (.cells #[.int .i64 d.kind, .int .i64 d.day, .string d.place, .string d.frm, .slice B d.to.length c, .int .i64 d.cls, .int .i64 d.years] 52)):=zad e0 _;have n1:((WX.drew.alloc (.cells #[] 52)).alloc (.cells #[.int .i64 d.kind, .int .i64 d.day, .string d.place, .string d.frm, .slice B d.to.length c, .int .i64 d.cls, .int .i64 d.years] 52)).heap[WX.heap.size+1]?=some (.cells #[.int .i64 d.kind, .int .i64 d.day, .string d.place, .string d.frm, .slice B d.to.length c, .int .i64 d.cls, .int .i64 d.years] 52):=zar _ _ _ Mcq;have m1:OwnS ((WX.drew.alloc (.cells #[] 52)).alloc (.cells #[.int .i64 d.kind, .int .i64 d.day, .string d.place, .string d.frm, .slice B d.to.length c, .int .i64 d.cls, .int .i64 d.years] 52)) WX.heap.size 52 7 DV.cells (.slice (some ⟨WX.heap.size,0,none⟩) 0 0) []:=m0.keep (n:=(WX.drew.alloc (.cells #[] 52)).heap.size) (zad (Below.refl _ _) _);refine NxM hK (fun hHeld=> ?_) (.inr (aG.o _ e1));clear hK K;refine OnM 3 false fun K hK=> ?_
      refine zak (v:= .slice (some ⟨WX.heap.size,0,none⟩) 0 0) (n:=0) (m:=wd.length) rfl _ _ rfl zeW zb0 zeV rfl (xs:=[]) (ys:=dvs) (m1) rfl rfl bs.o (cf.o _ e1) Mcv McG Mcu ?_;intro v4 w4 h1 h2 h3;rw[List.nil_append]at h1;obtain⟨V4,c4',b8,_,_⟩:=h1.sl zb0;rw[<-bs.o]at b8;subst b8;have aC:Below WX.heap.size WX w4:=Below.grown e1 h2 McI (fun j hj=>by simp[zaA]at hj;omega);have n2:w4.heap[WX.heap.size+1]?=some (.cells #[.int .i64 d.kind, .int .i64 d.day, .string d.place, .string d.frm, .slice B d.to.length c, .int .i64 d.cls, .int .i64 d.years] 52):=(h2.block _ McE Mdg).trans n1;exact Mb8
    ·go_simp
     have e0:Below WX.heap.size WX (WX.drew.alloc (.cells #[.int .i64 d.kind, .int .i64 d.day, .string d.place, .string d.frm, .slice B d.to.length c, .int .i64 d.cls, .int .i64 d.years] 52)):=zad (zaH (Below.refl _ _)) _;have n0:(WX.drew.alloc (.cells #[.int .i64 d.kind, .int .i64 d.day, .string d.place, .string d.frm, .slice B d.to.length c, .int .i64 d.cls, .int .i64 d.years] 52)).heap[WX.heap.size]?=some (.cells #[.int .i64 d.kind, .int .i64 d.day, .string d.place, .string d.frm, .slice B d.to.length c, .int .i64 d.cls, .int .i64 d.years] 52):=zar _ _ _ rfl;refine NxM hK (fun hHeld=> ?_) (.inr (aG.o _ e0));clear hK K;refine OnM 0 false fun K hK=> ?_
     go_simp
     have e1:Below WX.heap.size WX ((WX.drew.alloc (.cells #[.int .i64 d.kind, .int .i64 d.day, .string d.place, .string d.frm, .slice B d.to.length c, .int .i64 d.cls, .int .i64 d.years] 52)).alloc (.cells #[] 52)):=zad e0 _;have n1:((WX.drew.alloc (.cells #[.int .i64 d.kind, .int .i64 d.day, .string d.place, .string d.frm, .slice B d.to.length c, .int .i64 d.cls, .int .i64 d.years] 52)).alloc (.cells #[] 52)).heap[WX.heap.size]?=some (.cells #[.int .i64 d.kind, .int .i64 d.day, .string d.place, .string d.frm, .slice B d.to.length c, .int .i64 d.cls, .int .i64 d.years] 52):=zal n0;have m1:OwnS ((WX.drew.alloc (.cells #[.int .i64 d.kind, .int .i64 d.day, .string d.place, .string d.frm, .slice B d.to.length c, .int .i64 d.cls, .int .i64 d.years] 52)).alloc (.cells #[] 52)) WX.heap.size 52 7 DV.cells (.slice (some ⟨WX.heap.size+1,0,none⟩) 0 0) []:=by
      exact Mav
     refine NxM hK (fun hHeld=> ?_) (.inr (aG.o _ e1));clear hK K;refine OnM 3 false fun K hK=> ?_
     refine zak (v:= .slice (some ⟨WX.heap.size+1,0,none⟩) 0 0) (n:=0) (m:=wd.length) rfl _ _ rfl zeW zb0 zeV rfl (xs:=[]) (ys:=dvs) (m1) rfl rfl bs.o (cf.o _ e1) Mcv McG Mcu ?_;intro v4 w4 h1 h2 h3;rw[List.nil_append]at h1;obtain⟨V4,c4',b8,_,_⟩:=h1.sl zb0;rw[<-bs.o]at b8;subst b8;have aC:Below WX.heap.size WX w4:=Below.grown e1 h2 McI (fun j hj=>by simp[zaA]at hj;omega);have n2:w4.heap[WX.heap.size]?=some (.cells #[.int .i64 d.kind, .int .i64 d.day, .string d.place, .string d.frm, .slice B d.to.length c, .int .i64 d.cls, .int .i64 d.years] 52):=(h2.block _ McE Mdg).trans n1;exact Mb8
  case rest=>
   obtain⟨_,V,c',eM,cu,eb,ob⟩:=hcut;clear xs0 xd0 xr0 s0 s1 s2 s3 s4 s5 s6 d0 d1 d2 d3 d4 d5 d6 r0 r1 r2 r3 r4 r5 r6 rf ls ld lr;obtain⟨s0,s1,s2,s3,s4,s5,s6⟩:=zaG eM;obtain⟨r0,r1,r2,r3,r4,r5,r6⟩:=zaG cu;have rf:=frz cu;have ls:=zab eM;have lr:=zab cu;go_wp2_with fail
   rw[HE.o];have dh:=zc9 (a0:= .slice LA laws.length c0) (a1:= .slice CA s.children.length c1) (a2:= .slice MA s.marriages.length c2) (a3:= .slice DA s.dead.length c3) (a4:= .slice V (wd.length+1) c') (a5:= .slice RA rd.length c5) (a6:= .slice GA s.graves.length c6) ob (show w.heap.size<=w.heap.size+2 by omega);refine bodyPost_ret (zbB rfl _ rfl rfl (zc0 cu)) rfl ?_;have h':=H.o _ dh;refine⟨_,_,_,_,_,_,_,rfl,rfl,dh,fun _=>⟨wd++[d],rd,LA,CA,MA,DA,V,RA,GA,c0,c1,c2,c3,c',c5,c6,rfl,rfl,rfl,rfl,by rw[List.length_append];rfl,rfl,rfl,⟨h'.laws,h'.kids,h'.marr,h'.dead,?_,h'.ren,h'.graves,h'.deadc⟩,⟨?_,?_,HK.o.ren,HK.o.tos⟩⟩⟩
   ·exact Mag
   ·rw[List.map_append,<-HK.o.wills];rfl
   ·intro x hx;rcases List.mem_append.1 hx with hx|hx
    ·exact HK.o.shares x hx
    ·rw[List.mem_singleton.1 hx];exact fun p hp=>(Io.o p hp).2.2
 ·have k4:(d.kind==4)=false:=by simp[h4]
  rw[k4]at hr;simp only[Bool.false_eq_true,if_false]at hr;unfold zdL at hr;clear h0 h1 h2 h3 h4 h5 h6 h7;cases ca:zaK s d.frm;rotate_left 1
  ·exact Mcl
  rw[ca,if_neg Mcq]at hr;rw[ca]at ib;have cO:R=zpn laws s d.frm d.day:=hr;have um:=zHi (fun W (hB:Below W0.heap.size W0 W)=>yK.o W (ak.o.trans (hB.mono aw)));rw[<-cO]at um;clear hr ca cO yK;go_upto_region 21 with(go_at_call 32;go_must(refine(ib.o).mono ?_);rintro e wq ⟨rfl,z,rfl⟩)
  obtain⟨W1,aM⟩: ∃W1,W1=W0.ext z:=⟨_,rfl⟩
  have aS:Below W0.heap.size W0 W1:=Mdb;rw[<-aM];have gw:=aS.size;have aA:=zHi aS;clear aM aS ib;clear xs0 xd0 xr0 s0 s1 s2 s3 s4 s5 s6 d0 d1 d2 d3 d4 d5 d6 r0 r1 r2 r3 r4 r5 r6 rf ls ld lr;obtain⟨⟨xs0,xd0,xr0⟩,⟨s0,s1,s2,s3,s4,s5,s6⟩,⟨d0,d1,d2,d3,d4,d5,d6⟩,⟨r0,r1,r2,r3,r4,r5,r6⟩,rf,ls,ld,lr⟩:=ddF (ax.o W1 (aA.o))
  go_upto_region 22 with(go_at_call 187
                         go_must(refine(um.o _ aA.o).mono ?_)
                         rintro e w5 ⟨a0,a1,a2,a3,a4,a5,a6,bb,rfl,aP,aq,aj⟩;obtain⟨⟨X0,n0,m0,rfl⟩,⟨X1,n1,m1,rfl⟩,⟨X2,n2,m2,rfl⟩,⟨X3,n3,m3,rfl⟩,⟨X4,n4,m4,rfl⟩,⟨X5,n5,m5,rfl⟩,⟨X6,n6,m6,rfl⟩⟩:=zck aP;have bi:=zHi (aA.o.trans (aq.mono gw));have aD:=zHi aj
                         clear aq aj aP)
  obtain⟨W6,dF⟩: ∃W6,W6=w5.alloc (.cells #[.slice X0 n0 m0, .slice X1 n1 m1, .slice X2 n2 m2, .slice X3 n3 m3, .slice X4 n4 m4, .slice X5 n5 m5, .slice X6 n6 m6] 36):=⟨_,rfl⟩
  have gY:W6.heap[w5.heap.size]?=some (.cells #[.slice X0 n0 m0, .slice X1 n1 m1, .slice X2 n2 m2, .slice X3 n3 m3, .slice X4 n4 m4, .slice X5 n5 m5, .slice X6 n6 m6] 36):=by rw[dF];exact zar _ _ _ rfl
  have aI:Below w5.heap.size w5 W6:=by rw[dF];exact zad (Below.refl _ _) _
  have bV:=zHi (bi.o.trans (aI.mono bi.o.size));have lm:=zHi aI;obtain⟨YB,rC⟩: ∃YB,YB=w5.heap.size:=⟨_,rfl⟩
  rw[<-dF,<-rC];rw[<-rC]at gY;clear dF rC aI;clear xs0 xd0 xr0 s0 s1 s2 s3 s4 s5 s6 d0 d1 d2 d3 d4 d5 d6 r0 r1 r2 r3 r4 r5 r6 rf ls ld lr;obtain⟨⟨xs0,xd0,xr0⟩,⟨s0,s1,s2,s3,s4,s5,s6⟩,⟨d0,d1,d2,d3,d4,d5,d6⟩,⟨r0,r1,r2,r3,r4,r5,r6⟩,rf,ls,ld,lr⟩:=ddF (ax.o W6 (bV.o));obtain⟨y0,y1,y2,y3,y4,y5,y6⟩:=zaG gY;have oU:=zab gY;obtain⟨R1,R2⟩:=R;rcases aD.o with⟨rfl,hz,aj⟩|⟨rfl,hz⟩
  ·simp only at hz;subst hz;have cN:=zHi aj;clear aj;go_wp2_with fail
   refine bodyPost_ret (zbB rfl _ rfl rfl (zc0 xr0)) rfl ?_;exact⟨_,_,_,_,_,_,_,rfl,rfl,zc9 (ak.o.trans (bV.o.mono aw)) (show w.heap.size<=w.heap.size+2 by omega),fun _=>(zc3 xr0 rfl).st (cN.o.keep lm.o)⟩
  ·simp only at hz;subst hz;go_wp2_with fail
   refine bodyPost_ret (zbB rfl _ rfl rfl (zc0 xr0)) rfl ?_;exact⟨_,_,_,_,_,_,_,rfl,rfl,zc9 (ak.o.trans (bV.o.mono aw)) (show w.heap.size<=w.heap.size+2 by omega),fun e=>by cases e⟩
noncomputable def nxP (laws:List Law) (s:St) (ds:List Deed) (d:Deed):St×Int:=
 if decide (60<=ds.length)then(s,8)else if(ds.getLast?.map fun e=>decide (d.day<e.day)).getD false then(s,9)else zbm laws s d
theorem rNext_of (laws:List Law) (s:St) (wd rd:List Deed) (LA CA MA DA WA RA GA:Option Addr) (c0 c1 c2 c3 c4 c5 c6:Nat) (d:Deed) (B:Option Addr) (c:Nat) (w:World) (h:StIn w laws s wd rd LA CA MA DA WA RA GA c0 c1 c2 c3 c4 c5 c6) (hk:StLink s wd rd) (hf:StFew s wd rd) (hd:OkD d) (hS:Sl w 3 RPart.cells B d.to) (ds:List Deed) (DB:Option Addr) (dc:Nat) (gy:SlW w 7 zfc DB ds) (au:d.to.length<=c) (ba: ∀g∈s.graves,GoodG g/\g.holders.length<=50000) (bL: ∀g∈s.graves,g.fin<=200000)
 (iu: ∀W,Below w.heap.size w W->Calls Tryz.prog 187 #[.agg #[.slice LA laws.length c0, .slice CA s.children.length c1, .slice MA s.marriages.length c2, .slice DA s.dead.length c3, .slice WA wd.length c4, .slice RA rd.length c5, .slice GA s.graves.length c6], .string d.frm, .int .i64 d.day] W (zkV W laws (zpn laws s d.frm d.day))):Calls Tryz.prog 62 #[.agg #[.slice LA laws.length c0, .slice CA s.children.length c1, .slice MA s.marriages.length c2, .slice DA s.dead.length c3, .slice WA wd.length c4, .slice RA rd.length c5, .slice GA s.graves.length c6], .slice DB ds.length dc,d.v B c] w (zeX w laws (nxP laws s ds d)):=by
 obtain⟨R,hR⟩: ∃R,R=nxP laws s ds d:=⟨_,rfl⟩
 rw[<-hR];unfold nxP at hR;have ei:=zHi ba;have qs:=zHi bL;have yK:=zHi iu;have lz:=zHi au;have dD:=zHi gy;clear ba bL iu au gy;have H:=zHi (fun W (hB:Below w.heap.size w W)=>h.keep hB);have HK:=zHi hk;have HF:=zHi hf;have HD:=zHi hd;have HS:=zHi (fun W (hB:Below w.heap.size w W)=>hS.keep hB);have HR:=zHi hR;unfold Deed.v;clear h hk hf hd hS hR;go_enter Tryz.func62,Tryz.ntmps62
 go_upto_region 1 with fail
 generalize ao:World.alloc (World.alloc (World.alloc w _) _) _=W0;obtain⟨ak,ax⟩:=zeP ao;clear ao;have aw:=ak.o.size;obtain⟨⟨xs0,xd0,xr0⟩,⟨s0,s1,s2,s3,s4,s5,s6⟩,⟨d0,d1,d2,d3,d4,d5,d6⟩,⟨r0,r1,r2,r3,r4,r5,r6⟩,rf,ls,ld,lr⟩:=ddF (ax.o W0 (Below.refl _ _));have hr:=HR.o
 have dW:=zHi (fun W (hB:Below W0.heap.size W0 W)=>rTake_of laws s wd rd LA CA MA DA WA RA GA c0 c1 c2 c3 c4 c5 c6 d B c W (H.o W (ak.o.trans (hB.mono aw))) HK.o HF.o HD.o (HS.o W (ak.o.trans (hB.mono aw))) lz.o ei.o qs.o
  fun W' ft=>yK.o W' ((ak.o.trans (hB.mono aw)).trans (ft.mono (by have:=ak.o.size;have:=hB.size;omega))))
 unfold Deed.v at dW;by_cases oa:60<=ds.length
 ·have HE:Hid (R=(s,8)):=by show _=_;rw[hr,if_pos (by simpa using oa)]
  have hk:(60:Int)<=(ds.length:Int):=Mcn;clear hr;go_upto_region 2 with fail
  have bf:=Below.refl W0.heap.size W0;exact Mg
 have hk: ¬(60:Int)<=(ds.length:Int):=Mcn;rw[if_neg (by simpa using oa)]at hr;go_upto_region 3 with fail
 by_cases h0:0<ds.length
 ·have aa:ds.length-1<ds.length:=Mcn;obtain⟨gb,go,cs,lY,dM,dl,ah⟩:=(dD.o.keep zbM ak.o).at aa;have cz:ds.getLast?=some ds[ds.length-1]:=by rw[List.getLast?_eq_getElem?,List.getElem?_eq_getElem aa]
  rw[cz]at hr;generalize ds[ds.length-1]=e at*;obtain⟨EB,ec,tI,rfl,hP⟩:=dl;have i1:W0.cell? ⟨gb,go+(ds.length-1)*7+1,none⟩=some (.int .i64 e.day):=ah 1 _ rfl;have tV:R=if decide (d.day<e.day)=true then(s,9)else zbm laws s d:=hr;have br:=zHi tV;subst lY;generalize hn:ds.length=n at*;have hz:(0:Int)<(n:Int):=Mcn;have jK:wrap64 ((n:Int)-1)=(n:Int)-1:=wrap_m Mcn;have yu:(0:Int)<=(n:Int)-1:=Mcn;have L7:(n:Int)-1<(n:Int):=Mcn;have GC:((n:Int)-1).toNat=n-1:=Mcn;clear hr tV cz ah hP tI hn oa;by_cases jX:d.day<e.day
  ·have HE:Hid (R=(s,9)):=by show _=_;rw[br.o,if_pos (by simpa using jX)]
   (refine zan Mco Mco ?_
    repeat(first|go_big_quiet_skip|(go_big_quiet_want;go_big_quiet_op;first|go_big_quiet_on|(apply Exists.intro;refine⟨fun _=> ?_,?_⟩;(fail);go_big_quiet_on)))
    refine wpQuiet_nil ?_
    rintro _ ⟨zq,rfl⟩)
   clear xs0 xd0 xr0 s0 s1 s2 s3 s4 s5 s6 d0 d1 d2 d3 d4 d5 d6 r0 r1 r2 r3 r4 r5 r6 rf ls ld lr;obtain⟨⟨xs0,xd0,xr0⟩,⟨s0,s1,s2,s3,s4,s5,s6⟩,⟨d0,d1,d2,d3,d4,d5,d6⟩,⟨r0,r1,r2,r3,r4,r5,r6⟩,rf,ls,ld,lr⟩:=ddF (ax.o (W0.ext zq) (zaq _ _));clear i1;have bf:=zaq W0 zq;exact Mg
  ·have cO:R=zbm laws s d:=by rw[br.o,if_neg (by simpa using jX)]
   rw[<-cO]at dW;clear cO
   (refine zan Mco Mco ?_
    repeat(first|go_big_quiet_skip|(go_big_quiet_want;go_big_quiet_op;first|go_big_quiet_on|(apply Exists.intro;refine⟨fun _=> ?_,?_⟩;(fail);go_big_quiet_on)))
    refine wpQuiet_nil ?_
    rintro _ ⟨zq,rfl⟩)
   clear xs0 xd0 xr0 s0 s1 s2 s3 s4 s5 s6 d0 d1 d2 d3 d4 d5 d6 r0 r1 r2 r3 r4 r5 r6 rf ls ld lr;obtain⟨⟨xs0,xd0,xr0⟩,⟨s0,s1,s2,s3,s4,s5,s6⟩,⟨d0,d1,d2,d3,d4,d5,d6⟩,⟨r0,r1,r2,r3,r4,r5,r6⟩,rf,ls,ld,lr⟩:=ddF (ax.o (W0.ext zq) (zaq _ _));clear i1;exact MbY
 ·have mK:ds=[]:=List.eq_nil_of_length_eq_zero Mcn;have cO:R=zbm laws s d:=by rw[hr,mK];rfl
  rw[<-cO]at dW;generalize hn:ds.length=n at*;have hz:decide ((0:Int)<(n:Int))=false:=Mcr;have ja:decide (0<n)=false:=Mcr;have hz3: ¬0<n:=Mcn;clear hr cO mK hn oa h0
  (refine zan Mco Mco ?_
   repeat(first|go_big_quiet_skip|(go_big_quiet_want;go_big_quiet_op;first|go_big_quiet_on|(apply Exists.intro;refine⟨fun _=> ?_,?_⟩;(fail);go_big_quiet_on)))
   refine wpQuiet_nil ?_
   rintro _ ⟨zq,rfl⟩)
  clear xs0 xd0 xr0 s0 s1 s2 s3 s4 s5 s6 d0 d1 d2 d3 d4 d5 d6 r0 r1 r2 r3 r4 r5 r6 rf ls ld lr;obtain⟨⟨xs0,xd0,xr0⟩,⟨s0,s1,s2,s3,s4,s5,s6⟩,⟨d0,d1,d2,d3,d4,d5,d6⟩,⟨r0,r1,r2,r3,r4,r5,r6⟩,rf,ls,ld,lr⟩:=ddF (ax.o (W0.ext zq) (zaq _ _));exact MbY
end Go.Proofs.YtjhbofabmpfniaaGreatDoor

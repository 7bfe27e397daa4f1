/- Walks of the reference's marry, child. -/
import Derived.Test.YtckkbkdcdkhglaaGreatDoorXI
set_option linter.unusedSimpArgs false
set_option linter.unusedVariables false
set_option maxRecDepth 100000
set_option maxHeartbeats 4000000
namespace Go.Proofs.YtckkbkdcdkhglaaGreatDoor
open Go.RowKit Go.Shelf
attribute [local go_sem] World.cell?_alloc_mark zag za5 zaq za8 zaw zax zay zaz za0 za1 za2
attribute [local go_sem] zap zad
structure GainSt (own:Rat) (out l:Parts):Prop where
 good:GoodParts out
 small:zaE out=false
 le:sumQ out+own*sumQ l<=1
 pos: ∀p∈l,0<=p.2
theorem GainSt.parts {own:Rat} {out l:Parts} (h:GainSt own out l) (ho:0<=own): ∀p∈out,zaK p.2:=by
 have h1:=Rat.mul_nonneg ho (zbr h.pos);exact fun p hp=>(zdH (hs:=out) ⟨h.good,h.small,by have:=h.le;grind⟩ hp).2.2
theorem GainSt.next {own:Rat} {out l:Parts} {n:ByteArray} {q:Rat} (ho:0<=own) (h:GainSt own out ((n,q)::l)) (hl:zaE (za3 out n (own*q))=false):GainSt own (za3 out n (own*q)) l:=by
 have hq:=h.pos (n,q) Mco;have bQ:=h.le;rw[sumQ]at bQ;exact⟨zbw (Rat.mul_nonneg ho hq) h.good,hl,by rw[zbX];grind,fun p hp=>h.pos p MdT⟩
theorem GainSt.more {own:Rat} {out l:Parts} {n:ByteArray} {q:Rat} (ho:0<=own) (h:GainSt own out ((n,q)::l)):0<=own*q/\own*q<=1:=by
 have hq:=h.pos (n,q) Mco;have bQ:=h.le;rw[sumQ]at bQ;have h1:=Rat.mul_nonneg ho hq;have h2:=Rat.mul_nonneg ho (zbr (l:=l) fun p hp=>h.pos p MdT);have h3:0<=sumQ out:=zbr fun p hp=>by have:=h.good.pos p hp;grind
 simp only at hq bQ;exact⟨h1,by grind⟩
def tpRes (s:St) (i:Nat) (g:Grave):Option Parts->St×Int
 |none=>(s,8)
 |some o=>(s.withGrave i {g with holders:=o},0)
theorem zmp (own:Rat) (n:ByteArray) (q:Rat) (l out:Parts):zb6 own ((n,q)::l) out=if bigQ (own*q)then none else if zaE (za3 out n (own*q))then none else zb6 own l (za3 out n (own*q)):=by rw[zb6]
theorem sum_isN {n:Nat}: ∀ {l:Parts},(∀p∈l,IsN n p.2)->IsN n (sumQ l)
 | [],_=>zkm n
 |x::r,h=>zkk (h x Mco) (sum_isN fun p hp=>h p MdT)
theorem zkR (laws:List Law) (s:St) (wd rd:List Deed) (LA CA MA DA WA RA GA:Option Addr) (c0 c1 c2 c3 c4 c5 c6:Nat) (d:Deed) (B:Option Addr) (c:Nat) (w:World) (h:StIn w laws s wd rd LA CA MA DA WA RA GA c0 c1 c2 c3 c4 c5 c6) (hk:StLink s wd rd) (hf:StFew s wd rd) (hd:OkD d) (hS:Sl w 3 RPart.cells B d.to) (cf:d.kind=1) (b9: ∀g∈s.graves,GoodG g/\g.holders.length<=50000):Calls Tryz.prog 134 #[.agg #[.slice LA laws.length c0, .slice CA s.children.length c1, .slice MA s.marriages.length c2, .slice DA s.dead.length c3, .slice WA wd.length c4, .slice RA rd.length c5, .slice GA s.graves.length c6],d.v B c] w (zfH w laws (zbp s d)):=by
 obtain⟨R,hR⟩: ∃R,R=zbp s d:=⟨_,rfl⟩
 rw[<-hR];obtain⟨gxs,hm,bp,bw⟩:=zns h.graves;have HM:=zHi hm;have dm:=zHi bp;have bZ:=zHi bw;have ej:=zHi b9;have jH:=zHi (zdX (hd.parts (.inr (.inl cf))).2);have bz:=hd.len;clear hm bp bw b9 cf;have H:=zHi (fun W (hB:Below w.heap.size w W)=>h.keep hB);have HK:=zHi hk;have HF:=zHi hf;have HD:=zHi hd;have HS:=zHi (fun W (hB:Below w.heap.size w W)=>hS.keep hB);have HR:=zHi hR;unfold Deed.v;clear h hk hf hd hS hR;go_enter Tryz.func134,Tryz.ntmps134
 go_upto_region 1 with fail
 generalize ao:World.alloc (World.alloc (World.alloc w _) _) _=W0;obtain⟨ak,ax⟩:=zeK ao;clear ao;have aw:=ak.o.size;obtain⟨⟨xs0,xd0,xr0⟩,⟨s0,s1,s2,s3,s4,s5,s6⟩,⟨d0,d1,d2,d3,d4,d5,d6⟩,⟨r0,r1,r2,r3,r4,r5,r6⟩,rf,ls,ld,lr⟩:=ddF (ax.o W0 (Below.refl _ _));have cP:=zHi (fun W (hB:Below W0.heap.size W0 W)=>ziW d.place d.day W (H.o W (ak.o.trans (hB.mono aw))) HF.o);have jU:=zHi (fun W (hB:Below W0.heap.size W0 W)=>zmn d.to B c W (H.o W (ak.o.trans (hB.mono aw))) HF.o Mcl (HS.o W (ak.o.trans (hB.mono aw))));have t8:=zHi (fun W (hB:Below W0.heap.size W0 W)=>zod d.to B c W Mcl (HS.o W (ak.o.trans (hB.mono aw))));have hr:=HR.o;unfold zbp at hr;cases aA:zaJ s d.place d.day with
 |none=>
  exact Mch
 |some i=>
  rw[aA]at hr;rw[zd3 aA]at cP;obtain⟨g,bO,bS,pA⟩:=zgB aA;simp only[bS]at hr;obtain⟨hi,kE⟩:=gx_at HM.o bO;have eb:i<s.graves.length:=MdO;have ie:=dm.o _ (List.getElem_mem hi);have qL:=zHi (fun(y:GX) W (hB:Below W0.heap.size W0 W)=>zjc laws s wd rd LA CA MA DA WA RA GA c0 c1 c2 c3 c4 c5 c6 gxs i y W HM.o (bZ.o.keep (ak.o.trans (hB.mono aw))) HF.o eb);have jZ:=zHi (znt laws s wd rd LA CA MA DA WA RA GA c0 c1 c2 c3 c4 c5 c6 gxs i HM.o dm.o);have aB:=zHi (fun W (hB:Below W0.heap.size W0 W)=>H.o W (ak.o.trans (hB.mono aw)));go_upto_region 2 with(go_at_call 13;go_must(refine(cP.o _ (Below.refl _ _)).mono ?_);rintro e wq ⟨rfl,z1,rfl⟩)
  obtain⟨W1,aV⟩: ∃W1,W1=W0.ext z1:=⟨_,rfl⟩
  have aZ:Below W0.heap.size W0 W1:=Mdi;rw[<-aV];clear aV;clear xs0 xd0 xr0 s0 s1 s2 s3 s4 s5 s6 d0 d1 d2 d3 d4 d5 d6 r0 r1 r2 r3 r4 r5 r6 rf ls ld lr;obtain⟨⟨xs0,xd0,xr0⟩,⟨s0,s1,s2,s3,s4,s5,s6⟩,⟨d0,d1,d2,d3,d4,d5,d6⟩,⟨r0,r1,r2,r3,r4,r5,r6⟩,rf,ls,ld,lr⟩:=ddF (ax.o W1 (aZ));have wv:=aZ.size;have fg:=ak.o.trans (aZ.mono aw);obtain⟨gb,gof,kf,cL,ah⟩:=(bZ.o.keep fg).at hi;generalize gxs[i]=x at*;subst kE;subst kf;have i0:=ah 0 _ rfl;have i1:=ah 1 _ rfl;have i2:=ah 2 _ rfl;have i3:=ah 3 _ rfl;have i4:=ah 4 _ rfl;simp only[Nat.add_zero]at i0;have tP:(i:Int)<(s.graves.length:Int):=Mcl;have eN:(0:Int)<=(i:Int):=Mcl;have aN: ¬(i:Int)<0:=Mcl;clear ah;go_upto_region 5 with fail
  obtain⟨W2,bM⟩: ∃W2,W2=W1.alloc (.cells #[.string x.g.place, .int .i64 x.g.cls, .int .i64 x.g.fin, .slice x.H x.g.holders.length x.hc, .slice x.D x.g.died.length x.dc] 46):=⟨_,rfl⟩
  have gG:W2.heap[W1.heap.size]?=some (.cells #[.string x.g.place, .int .i64 x.g.cls, .int .i64 x.g.fin, .slice x.H x.g.holders.length x.hc, .slice x.D x.g.died.length x.dc] 46):=Meh;have aS:Hid (Below W0.heap.size W0 W2):=Mdw;have kR:W1.heap.size<W2.heap.size:=zab gG;have un:=zHi fg;obtain⟨GB,jh⟩: ∃GB,GB=W1.heap.size:=⟨_,rfl⟩
  rw[<-bM,<-jh];rw[<-jh]at gG kR;have iR:W0.heap.size<=GB:=Mcl;clear bM jh aZ fg i0 i1 i2 i3 i4;clear xs0 xd0 xr0 s0 s1 s2 s3 s4 s5 s6 d0 d1 d2 d3 d4 d5 d6 r0 r1 r2 r3 r4 r5 r6 rf ls ld lr;obtain⟨dr,cB⟩:=ej.o x.g pA;have oT:=ie.keep (ak.o.trans (aS.o.mono aw));obtain⟨t1,t2,t3⟩:=zi7 (frm:=d.frm) dr (fun p hp=>jH.o.1 p hp) jH.o.2.1;have pX:=zck (n:=d.frm) dr.good;have sH:=zbH (n:=d.frm) dr.good;have jE:=zd7 d.frm dr.small;have l9: ∀p∈zas x.g.holders d.frm,p.1≠d.frm:=zj4;have cx:=zdQ x.g.holders d.frm;have aR:sumQ x.g.holders<=1:=by
   rcases dr.one with e|e
   ·rw[e];decide
   ·rw[e];exact Rat.le_refl
  have ni:=zHi (fun W (hB:Below W2.heap.size W2 W)=>zfk x.g.holders d.frm x.H x.hc W Mcl (oT.1.keep hB));have lV:=zHi (fun W (hB:Below W2.heap.size W2 W)=>zhy x.g.holders d.frm x.H x.hc W Mcl (oT.1.keep hB));generalize zaf x.g.holders d.frm=sh at*;generalize zas x.g.holders d.frm=wo at*;unfold za9 at ni t8;obtain⟨g0,g1,g2,g3,g4⟩:=zec gG;have rB:=aS.o.size;have GG:=zHi gG;obtain⟨⟨xs0,xd0,xr0⟩,⟨s0,s1,s2,s3,s4,s5,s6⟩,⟨d0,d1,d2,d3,d4,d5,d6⟩,⟨r0,r1,r2,r3,r4,r5,r6⟩,rf,ls,ld,lr⟩:=ddF (ax.o W2 (aS.o));by_cases kj:x.g.cls=4
  ·have nC:(x.g.cls==4)=true:=by rw[kj];rfl
   have HE:Hid (R=(s,15)):=by show _=_;rw[hr,if_pos nC]
   clear hr kj;go_upto_region 6 with fail
   have bs:=aS.o;exact Mg
  have nC:(x.g.cls==4)=false:=by simpa using kj
  rw[if_neg (by rw[nC];simp)]at hr;go_upto_region 8 with(go_at_call 165;go_must(refine(ni.o _ (Below.refl _ _)).mono ?_);rintro e wq ⟨rfl,z2,rfl⟩)
  obtain⟨SB,gD⟩: ∃SB,SB=W2.heap.size+z2.os.size:=⟨_,rfl⟩
  obtain⟨W3,aX⟩: ∃W3,W3=(W2.ext z2).alloc (.cells #[.int .i64 (sh).num, .int .i64 (sh).den] 58):=⟨_,rfl⟩
  have gS:W3.heap[SB]?=some (.cells #[.int .i64 (sh).num, .int .i64 (sh).den] 58):=by rw[aX];exact zar _ _ _ (by rw[gD];simp[zag])
  have av:Below W2.heap.size W2 W3:=by rw[aX];exact zac (zam W2 z2) _
  rw[<-aX,<-gD];clear aX gD g0 g1 g2 g3 g4 gG kj nC;clear xs0 xd0 xr0 s0 s1 s2 s3 s4 s5 s6 d0 d1 d2 d3 d4 d5 d6 r0 r1 r2 r3 r4 r5 r6 rf ls ld lr;have jl:=av.size;have aJ:=zHi (aS.o.trans (av.mono rB));have Al:=zHi av;have G3:=zHi ((av.block GB kR).trans GG.o);have GS:=zHi gS;obtain⟨q0,q1⟩:=zba gS;have ri:=zab gS;obtain⟨⟨xs0,xd0,xr0⟩,⟨s0,s1,s2,s3,s4,s5,s6⟩,⟨d0,d1,d2,d3,d4,d5,d6⟩,⟨r0,r1,r2,r3,r4,r5,r6⟩,rf,ls,ld,lr⟩:=ddF (ax.o W3 (aJ.o));by_cases hz:sh=0
  ·have mW:(sh.num==0)=true:=by rw[hz];rfl
   have HE:Hid (R=(s,19)):=by show _=_;rw[hr,if_pos Mds]
   clear hr;go_upto_region 9 with fail
   have bs:=aJ.o;exact Mg
  have mW:(sh.num==0)=false:=by
   exact Mbd
  rw[if_neg Mds]at hr;cases fW:zdW s d.to;rotate_left 1
  ·have HE:Hid (R=(s,28)):=by show _=_;rw[hr,fW];rfl
   rw[fW]at jU;clear hr hz aA;go_upto_region 11 with(go_at_call 163;go_must(refine(jU.o _ (by have:=aJ.o;exact Bw)).mono ?_);rintro e wq ⟨rfl,z3,rfl⟩)
   have bs:=zbc aJ.o z3;exact MbO
  rw[fW,if_neg Mco]at hr;rw[fW]at jU;have l8:=znl d.to 0;have aY:d.to.all zdS=true:=by
   rw[List.all_eq_true];intro p hp;have h1:=jH.o.1 p hp;have h2:=zbl h1.2.2;unfold zdS;rw[h1.2.2,Bool.true_and];have:p.num≠0:=fun e=>by
    have h3:=h1.1;have h4:=(zk9.1 h3)
    unfold RPart.rat at h4;rw[h2.1,e]at h4;exact absurd h4 Mcn
   simpa using this
  rw[aY]at l8;have dO:=l8.2 rfl;rw[Rat.zero_add]at dO;have tL: ∀p∈zao d.to,0<p.2:=fun p hp=>by
   obtain⟨q,hq,rfl⟩:=List.mem_map.1 hp;exact(jH.o.1 q hq).1
  have i8:IsN 720720 (sumQ (zao d.to)):=sum_isN (fun p hp=>by
   obtain⟨q,hq,rfl⟩:=List.mem_map.1 hp
   exact(jH.o.1 q hq).2.1)
  have oB:0<=sumQ (zao d.to):=zbr fun p hp=>by have:=tL p hp;grind
  have mC:=jH.o.2.1;have aM:=zc8 Mcn Mcn i8 oB mC;have ss:=zc8 Mcn Mcn (zgS (zgT _) i8) (show 0<=1-sumQ (zao d.to) by grind) (show 1-sumQ (zao d.to)<=1 by grind);rw[l8.1,dO]at t8;have xR: ∀p∈zao d.to,0<=p.2:=fun p hp=>by have:=tL p hp;grind
  have oG:(zao d.to).length=d.to.length:=List.length_map _;have gF: ∀k (hk:k<d.to.length),(zao d.to).drop k=(d.to[k].name,d.to[k].rat)::(zao d.to).drop (k+1):=fun k hk=>by
   rw[List.drop_eq_getElem_cons Mcl];congr 1
   exact List.getElem_map _
  have Bf:=zHi (fun p hp=>(jH.o.1 p hp).2.2);generalize zao d.to=l0 at*;have se:0<=sh*(1-sumQ l0):=Rat.mul_nonneg t1 McO;have xi:sh*(1-sumQ l0)<=1:=by
   have:=Rat.mul_le_mul_of_nonneg_left (show 1-sumQ l0<=1 by grind) t1;grind
  have gy:=zHi (fun(hb:bigQ (sh*(1-sumQ l0))=false)=>(show zaK (sh*(1-sumQ l0))/\GainSt sh (za3 wo d.frm (sh*(1-sumQ l0))) l0 from
   ⟨zcb se xi hb,⟨zbw se sH,zfK hb l9 jE,by rw[zbX];grind,xR⟩⟩))
  have vn:=zHi (show∀p∈wo,zaK p.2 from fun p hp=>(zdH (hs:=wo) ⟨sH,jE,by have:=pX;grind⟩ hp).2.2);obtain⟨q,hq⟩: ∃q,q=sumQ l0:=⟨_,rfl⟩
  rw[<-hq]at hr t8 aM ss gy;have eU:=zHi (fun W=>zhL 1 q W ⟨by decide,by decide⟩ aM);have jb:=zHi (fun W=>zg6 sh (1-q) W t2 ss);unfold za9 at eU jb;rw[show(1:Rat).num=1 from rfl,show((1:Rat).den:Int)=1 from rfl]at eU;obtain⟨kq,FJ⟩: ∃kq,kq=sh*(1-q):=⟨_,rfl⟩
  rw[<-FJ]at hr gy jb;have jc:=zHi t1;have lO:=zHi t2;have Ha:=zHi gF;have AO:=zHi oG;have yw:wo.length<=50000:=Mcl;have bx:=zHi hr;clear hr gF oG xR se xi aY l8 dO tL i8 oB mC aM ss t1 t2 t3 pX sH jE l9 cx aR hq FJ hz aA dr
  go_upto_region 13 with(first
   |(go_at_call 163;go_must(refine(jU.o _ (by have:=aJ.o;exact Bw)).mono ?_);rintro e wq ⟨rfl,z3,rfl⟩)
   |(go_at_call 132;go_must(refine(t8.o _ (by have:=aJ.o;exact Bw)).mono ?_);rintro e wq ⟨rfl,z5,rfl⟩))
  obtain⟨QB,rh⟩: ∃QB,QB=W3.heap.size+z3.os.size+z5.os.size:=⟨_,rfl⟩
  obtain⟨W4,iu⟩: ∃W4,W4=((W3.ext z3).ext z5).alloc (.cells #[.int .i64 (q).num, .int .i64 (q).den] 58):=⟨_,rfl⟩
  have gQ:W4.heap[QB]?=some (.cells #[.int .i64 (q).num, .int .i64 (q).den] 58):=by rw[iu];exact zar _ _ _ (by rw[rh];simp[zag])
  have aD:Below W3.heap.size W3 W4:=by rw[iu];exact zac (zbc (zam W3 z3) z5) _
  rw[<-iu,<-rh];have Es:=aD.size;have rC:=aJ.o.trans (aD.mono (by have:=aJ.o.size;omega));have G4:=zHi ((aD.block GB Mcl).trans G3.o);have S4:=zHi ((aD.block SB ri).trans GS.o);have Q4:=zHi gQ;have qM:=zHi (lV.o W4 (Al.o.trans (aD.mono jl)));have rj:SB<W4.heap.size:=Mcl;have BP:GB<W4.heap.size:=Mcl;have C2:=zab gQ;have eE:=zHi rC;have zg:=rC.size;clear iu rh gQ gS q0 q1 aD rC ri av;clear xs0 xd0 xr0 s0 s1 s2 s3 s4 s5 s6 d0 d1 d2 d3 d4 d5 d6 r0 r1 r2 r3 r4 r5 r6 rf ls ld lr;obtain⟨g0,g1,g2,g3,g4⟩:=zec G4.o;obtain⟨⟨xs0,xd0,xr0⟩,⟨s0,s1,s2,s3,s4,s5,s6⟩,⟨d0,d1,d2,d3,d4,d5,d6⟩,⟨r0,r1,r2,r3,r4,r5,r6⟩,rf,ls,ld,lr⟩:=ddF (ax.o W4 (eE.o));go_upto_region 14 with(go_at_call 166;go_must(refine(qM.o).mono ?_);rintro e w5 ⟨v5,rfl,o5,b5⟩)
  obtain⟨VA,vc,rfl,jk,_⟩:=o5.sl zan;have td:=zHi jk;have BE:=b5.size;have aH:=zHi (eE.o.trans (b5.mono zg));have G5:=zHi ((b5.block GB BP).trans G4.o);have S5:=zHi ((b5.block SB rj).trans S4.o);have Q5:=zHi ((b5.block QB C2).trans Q4.o);clear g0 g1 g2 g3 g4 o5 b5 jk;clear xs0 xd0 xr0 s0 s1 s2 s3 s4 s5 s6 d0 d1 d2 d3 d4 d5 d6 r0 r1 r2 r3 r4 r5 r6 rf ls ld lr;obtain⟨q0,q1⟩:=zba Q5.o;obtain⟨e0,e1⟩:=zba S5.o;have wa:=zab S5.o;have C3:=zab Q5.o;have vG:=zab G5.o;refine zdC 5 _ _ (.cells #[.int .i64 0, .int .i64 0] 58) (.cells #[.int .i64 (kq).num, .int .i64 (kq).den] 58) Mcm Mcm rfl rfl ?hrun ?_
  case hrun=>intro a W;kernel_rfl
  simp only[List.take_succ_cons,List.take_zero];repeat(refine zeD (fun K hK=> ?_);simp only[grow];go_simp;first|(refine hK _ ?_;clear hK K)|(apply Exists.intro;refine⟨fun _=> ?_,hK _ ?_⟩;((first|(go_at_call 36;exact quietg (zhS _))|(go_at_call 39;exact quietg (eU.o _))|(go_at_call 42;exact quietg (jb.o _))));clear hK K))
  refine zf4 ⟨?hstore,?hlast⟩
  case hstore=>
   exact ME
  case hlast=>
   rintro LB W6 ⟨z6,eK⟩ tw gL;have aE:Below w5.heap.size w5 W6:=by rw[eK];exact zam _ _
   have qP:=aE.size;have aC:=zHi (aH.o.trans (aE.mono Mcl));have G6:=zHi ((aE.block GB vG).trans G5.o);have S6:=zHi ((aE.block SB wa).trans S5.o);have It:=zHi (td.o.keep aE);have BQ:=zab G6.o;have C8:=zab S6.o;have IZ:=zab gL;obtain⟨l0',l1'⟩:=zba gL;clear eK aE q0 q1 e0 e1 wa C3 vG;obtain⟨⟨xs0,xd0,xr0⟩,⟨s0,s1,s2,s3,s4,s5,s6⟩,⟨d0,d1,d2,d3,d4,d5,d6⟩,⟨r0,r1,r2,r3,r4,r5,r6⟩,rf,ls,ld,lr⟩:=ddF (ax.o W6 (aC.o));by_cases hs:1000000000<(kq.den:Int)
   ·have HE:Hid (R=(s,8)):=by show _=_;rw[bx.o,if_pos (by simp[bigQ,hs])]
    go_upto_region 16 with fail
    have bs:=aC.o;exact Mg
   have bs:bigQ kq=false:=by simpa[bigQ]using hs
   obtain⟨k5,am⟩:=gy.o bs;have hr:=bx.o;rw[bs,if_neg Mco]at hr;change R=tpRes s i x.g (zb6 sh l0 (za3 wo d.frm kq))at hr;have eF:=zHi (zcR wo d.frm kq VA vc W6 Mcl vn.o k5 It.o);unfold za9 at eF;have kr:=zcy d.frm kq wo;have lR:=zHi hr;have aB:=zHi am;clear hr am k5 gy bx bs;go_upto_region 18 with(go_at_call 38;go_must(refine(eF.o).mono ?_);rintro e w7 ⟨v7,rfl,o7,b7⟩)
   have Et:=b7.size;have bG:=aC.o.trans (b7.mono (by have:=aC.o.size;omega));have G7:=zHi ((b7.block GB BQ).trans G6.o);have S7:=zHi ((b7.block SB C8).trans S6.o);have BR:=zab G7.o;have C9:=zab S7.o;have bR:=zHi bG;have IG:=bG.size;have uS:=zHi o7;clear o7 b7 l0' l1' eF bG hs;generalize za3 wo d.frm kq=out0 at*;clear xs0 xd0 xr0 s0 s1 s2 s3 s4 s5 s6 d0 d1 d2 d3 d4 d5 d6 r0 r1 r2 r3 r4 r5 r6 rf ls ld lr;go_upto_region 19 with fail
   go_loopw [11,13] (fun v n wr=> ∃(k:Nat) (out:Parts),k<=d.to.length/\n= .int .i64 k/\Hid (R=tpRes s i x.g (zb6 sh (l0.drop k) out))/\Hid (GainSt sh out (l0.drop k))/\out.length<=50001+k/\OwnS wr W6.heap.size 63 3 zaa v out/\Below w7.heap.size w7 wr) (fun _ n _=>d.to.length-(intOf n).toNat)
   case atStart=>exact⟨0,out0,Nat.zero_le _,rfl,lR,aB,by omega,uS.o,Below.refl _ _⟩
   case round=>
    obtain⟨k,out,hk,rfl,HX,HG,Ks,ae,hB⟩:=hrel;have aK:=hB.size;have iz:=(hB.block GB BR).trans G7.o;have CI:=(hB.block SB C9).trans S7.o;obtain⟨g0,g1,g2,g3,g4⟩:=zec iz;obtain⟨q0,q1⟩:=zba CI;have IP:=zab iz;have Jb:=zab CI;have cy:=bR.o.trans (hB.mono IG);obtain⟨⟨xs0,xd0,xr0⟩,⟨s0,s1,s2,s3,s4,s5,s6⟩,⟨d0,d1,d2,d3,d4,d5,d6⟩,⟨r0,r1,r2,r3,r4,r5,r6⟩,rf,ls,ld,lr⟩:=ddF (ax.o wr (cy));have aW:=zHi cy;have HB:=zHi hB;have HO:=zHi ae;have vl:=zHi (HS.o wr (ak.o.trans (cy.mono aw)));by_cases aa:k<d.to.length
    ·obtain⟨b,off,hA,hb,ah⟩:=vl.o.at aa;have hx:=HX.o;have am:=HG.o;rw[Ha.o k aa]at hx am;rw[zmp]at hx;have bn:=Bf.o _ (List.getElem_mem aa);have aq:=zHi aa;generalize d.to[k]=y at*;obtain⟨nm,nu,de⟩:=y;simp only at bn hx am;have i0:wr.cell? ⟨b,off+k*3,none⟩=some (.string nm):=ah 0 _ rfl;have i1:wr.cell? ⟨b,off+k*3+1,none⟩=some (.int .i64 nu):=ah 1 _ rfl;have i2:wr.cell? ⟨b,off+k*3+2,none⟩=some (.int .i64 de):=ah 2 _ rfl;have ar:(k:Int)<(d.to.length:Int):=Mcl;have aT:(0:Int)<=(k:Int):=Mcl;have mR:(⟨nm,nu,de⟩:RPart).rat=Rat.divInt nu de:=rfl;rw[mR]at hx am;obtain⟨r1,r2,r3,r4⟩:=zbl bn;have kJ:=zHi (fun W=>zg6 sh (Rat.divInt nu de) W lO.o (zc8 Mcn Mcn (zel bn) r3 r4));unfold za9 at kJ;rw[r1,r2]at kJ;obtain⟨p1,p2⟩:=am.more jc.o;have jW:=zHi (fun hl=>am.next jc.o hl);have kN:=zHi (am.parts jc.o);obtain⟨mo,xA⟩: ∃mo,mo=sh*Rat.divInt nu de:=⟨_,rfl⟩
     rw[<-xA]at hx kJ p1 p2 jW;have lP:=zHi (And.intro p1 p2);have au:=zHi hx;rw[hA]at d4;have HDW:=zHi xd0;have Ai:=zHi hA;have kG:=zHi (show wr.cell? ⟨b,off+k*3,none⟩=some (.string nm)/\b<wr.heap.size from⟨i0,hb⟩);clear ah hx am bn aa mR r1 r2 r3 r4 p1 p2 xA ae hB hA;go_upto_region 21 with fail
     refine zdC 8 _ _ (.cells #[.int .i64 0, .int .i64 0] 58) (.cells #[.int .i64 (mo).num, .int .i64 (mo).den] 58) Mcm Mcm rfl rfl ?hrun ?_
     case hrun=>intro a W;kernel_rfl
     simp only[List.take_succ_cons,List.take_zero];repeat(refine zeD (fun K hK=> ?_);simp only[grow];go_simp;first|(refine hK _ ?_;clear hK K)|(apply Exists.intro;refine⟨fun _=> ?_,hK _ ?_⟩;((go_at_call 42;exact quietg (kJ.o _)));clear hK K))
     refine zf4 ⟨?hstore,?hlast⟩
     case hstore=>
      exact ME
     case hlast=>
      rintro MB W9 ⟨z9,wj⟩ J0 gM;have bf:Below wr.heap.size wr W9:=by rw[wj];exact zam _ _
      have BG:=bf.size;have rK:=aW.o.trans (bf.mono Md2);have cO:=zHi bf;have dJ:=zHi rK;have GM:=zHi gM;obtain⟨m0,m1⟩:=zba gM;have qX:=zab gM;clear wj bf i0 i1 i2 g0 g1 g2 g3 g4 q0 q1;clear xs0 xd0 xr0 s0 s1 s2 s3 s4 s5 s6 d0 d1 d2 d3 d4 d5 d6 r0 r1 r2 r3 r4 r5 r6 rf ls ld lr;obtain⟨⟨xs0,xd0,xr0⟩,⟨s0,s1,s2,s3,s4,s5,s6⟩,⟨d0,d1,d2,d3,d4,d5,d6⟩,⟨r0,r1,r2,r3,r4,r5,r6⟩,rf,ls,ld,lr⟩:=ddF (ax.o W9 (rK));clear rK;by_cases hs:1000000000<(mo.den:Int)
      ·have HE:Hid (R=(s,8)):=by show _=_;rw[au.o,if_pos (by simp[bigQ,hs])];rfl
       go_upto_region 23 with fail
       have bs:=dJ.o;exact Mg
      have bs:bigQ mo=false:=by simpa[bigQ]using hs
      have hx:=au.o;rw[bs,if_neg Mco]at hx;have eY:=zHi hx;have mN:=zcb lP.o.1 lP.o.2 bs;obtain⟨OV,oc,rfl,_,_⟩:=HO.o.sl zan;have eF:=zHi (fun W (hW:Below wr.heap.size wr W)=>zcR out nm mo OV oc W (by have:=aq.o;omega) kN.o mN (ziT zan (HO.o.keep hW)).1);unfold za9 at eF;have cB:=zcy nm mo out;go_upto_region 24 with fail
      have Cz:=d4;rw[Ai.o]at Cz;have BH:=fun(W:World) (h:Below W9.heap.size W9 W)=>(zah h ld).trans Cz
      have IS:=fun(W:World) (h:Below W9.heap.size W9 W)=>(zah h (show b<W9.heap.size by have:=kG.o.2;omega)).trans ((zah cO.o kG.o.2).trans kG.o.1)
      clear Cz;have aL:=zHi (fun(W:World) (h:Below W9.heap.size W9 W)=>(show W.cell? ⟨w.heap.size+1,4,none⟩=some (.slice (some ⟨b,off,none⟩) d.to.length c)/\W.cell? ⟨b,off+k*3,none⟩=some (.string nm)/\W.cell? ⟨MB,0,none⟩=some (.int .i64 mo.num)/\W.cell? ⟨MB,1,none⟩=some (.int .i64 mo.den) from⟨(BH W h),(IS W h),(zah h qX).trans m0,(zah h qX).trans m1⟩));clear hx mN bs hs;refine zaC 8 (fun bb w'=>bb=true\/(w'.cell? ⟨w.heap.size+1,4,none⟩=some (.slice (some ⟨b,off,none⟩) d.to.length c)/\w'.cell? ⟨b,off+k*3,none⟩=some (.string nm)/\w'.cell? ⟨MB,0,none⟩=some (.int .i64 mo.num)/\w'.cell? ⟨MB,1,none⟩=some (.int .i64 mo.den))) Mcm (.inr (aL.o _ (zaM (Below.refl _ _)))) ?hrest
      case hrest=>
       intro hHeld;refine TkM 0 ?_;refine TkM 1 ?_;refine TkM 2 ?_;refine TkM 3 ?_;refine TkM 4 ?_;refine TkM 5 ?_;refine TkM 6 ?_;refine TkM 7 ?_;refine OnM 8 true fun K hK=> ?_
       go_simp
       refine(eF.o _ (zaM cO.o)).mono ?_;rintro e w10 ⟨v10,rfl,o10,b10⟩;refine NxM hK fun hHeld=> ?_
       clear hK K;refine OnM 9 true fun K hK=> ?_
       go_simp
       refine NxM hK fun hHeld=> ?_
       clear hK K;refine zaQ Mcm ?_ _;clear hHeld;obtain⟨YA,yc,rfl,oU,_⟩:=o10.sl zan;have fL:Below W9.heap.size W9 w10:=(zaM (Below.refl _ _)).trans b10;have mn:=dJ.o.trans (fL.mono (by have:=dJ.o.size;omega));have nP:=zHi (cO.o.trans (fL.mono BG));have uo:=zHi mn;have nZ:=zHi (o10.base_le (show W6.heap.size<=W9.drew.heap.size by have:=cO.o.size;have:=HB.o.size;have:=Et;show W6.heap.size<=W9.heap.size;omega));have dj:=zHi (fun W (h:Below w10.heap.size w10 W)=>zdG (za3 out nm mo) YA yc W (by have:=aq.o;omega) (oU.keep h));have IC:=fL.size;clear o10 b10 oU fL m0 m1 qX;clear xs0 xd0 xr0 s0 s1 s2 s3 s4 s5 s6 d0 d1 d2 d3 d4 d5 d6 r0 r1 r2 r3 r4 r5 r6 rf ls ld lr;obtain⟨⟨xs0,xd0,xr0⟩,⟨s0,s1,s2,s3,s4,s5,s6⟩,⟨d0,d1,d2,d3,d4,d5,d6⟩,⟨r0,r1,r2,r3,r4,r5,r6⟩,rf,ls,ld,lr⟩:=ddF (ax.o w10 (mn));clear mn;have hx:=eY.o;cases hlg:zaE (za3 out nm mo)
       ·rw[hlg]at hx dj;have aB:=zHi (jW.o hlg);have ka:Hid (R=tpRes s i x.g (zb6 sh (l0.drop (k+1)) (za3 out nm mo))):=by show _=_;rw[hx,if_neg Mco]
        clear hx hlg;generalize za3 out nm mo=out1 at*;go_wp2_with (go_at_call 44;go_must(refine(dj.o _ Bw).mono ?_);rintro e wq ⟨rfl,rfl⟩)
        go_round
        case rel=>exact⟨k+1,out1,aq.o,by go_num,ka,aB,by omega,nZ.o,HB.o.trans (nP.o.mono aK)⟩
        case measure=>have:=aq.o;simp only[intOf];omega
       ·rw[hlg]at hx dj;have HE:Hid (R=(s,8)):=by show _=_;rw[hx,if_pos rfl];rfl
        clear hx hlg;generalize za3 out nm mo=out1 at*;go_upto_region 26 with(go_at_call 44;go_must(refine(dj.o _ Bw).mono ?_);rintro e wq ⟨rfl,rfl⟩)
        have bs:=uo.o;exact Mg
    ·have ar: ¬(k:Int)<(d.to.length:Int):=Mcl;have hx:=HX.o;rw[List.drop_of_length_le (by have:=AO.o;omega)]at hx;have HE:Hid (R=(s.withGrave i {x.g with holders:=out},0)):=Md0;obtain⟨VB,vd,rfl,_,_⟩:=ae.sl zan;have g3f:=frz iz;have lH:=zHi iz;clear ae aa hB CI hx;go_upto_region 28 with fail
     obtain⟨W8,wh⟩: ∃W8,W8=wr.setCell ⟨GB,3,none⟩ (.slice VB out.length vd):=⟨_,rfl⟩
     have gG6:W8.heap[GB]?=some (.cells #[.string x.g.place, .int .i64 x.g.cls, .int .i64 x.g.fin, .slice VB out.length vd, .slice x.D x.g.died.length x.dc] 46):=by
      rw[wh];have:=Joins.block_setCell (i:=3) lH.o (.slice VB out.length vd);simpa using this
     have m8:Below W0.heap.size W0 W8:=by rw[wh];exact zaO aW.o iR _
     have pM:OwnS W8 W6.heap.size 63 3 zaa (.slice VB out.length vd) out:=by rw[wh];exact HO.o.kept (zau _ _ _ _) lH.o Mcn
     rw[<-wh];clear wh g0 g1 g2 g3 g4 g3f q0 q1 iz;clear xs0 xd0 xr0 s0 s1 s2 s3 s4 s5 s6 d0 d1 d2 d3 d4 d5 d6 r0 r1 r2 r3 r4 r5 r6 rf ls ld lr;obtain⟨g0,g1,g2,g3,g4⟩:=zec gG6;have bH:=zab gG6;have qP:=m8.size;obtain⟨⟨xs0,xd0,xr0⟩,⟨s0,s1,s2,s3,s4,s5,s6⟩,⟨d0,d1,d2,d3,d4,d5,d6⟩,⟨r0,r1,r2,r3,r4,r5,r6⟩,rf,ls,ld,lr⟩:=ddF (ax.o W8 (m8));have lX:=zHi (qL.o ({g:= {x.g with holders:=out},H:=VB,hc:=vd,D:=x.D,dc:=x.dc}:GX) W8 m8);unfold GX.cells zgJ at lX;dsimp only at lX;have aC:=zHi m8;have lL:=zHi pM;clear m8 pM gG6
     go_wp2_with (go_at_call 167
                  go_must(refine(lX.o).mono ?_)
                  rintro e w5 ⟨ga,go,gc,rfl,bi,aj⟩;have bG:=aC.o.trans (aj.mono qP);obtain⟨_,_,xr5⟩:=ax.o w5 bG;obtain⟨t0,t1,t2,t3,t4,t5,t6⟩:=zaG xr5;have tf:=frz xr5;have bX:=zHi bi;have bR:=zHi bG;have lm:=zHi aj
                  clear bi aj bG)
     rw[HE.o];refine bodyPost_ret (zbA rfl _ rfl rfl (zc0 xr5)) rfl ?_;have dq:=zc9 (a0:= .slice LA laws.length c0) (a1:= .slice CA s.children.length c1) (a2:= .slice MA s.marriages.length c2) (a3:= .slice DA s.dead.length c3) (a4:= .slice WA wd.length c4) (a5:= .slice RA rd.length c5) (a6:= .slice (some ⟨ga,go,none⟩) s.graves.length gc) (ak.o.trans (bR.o.mono aw)) (show w.heap.size<=w.heap.size+2 by omega);obtain⟨A',c',mz,_,ee⟩:=lL.o.ro;obtain⟨rfl,_,rfl⟩:VB=A'/\out.length=out.length/\vd=c':=by simpa using mz
     exact⟨_,_,_,_,_,_,_,rfl,rfl,dq,fun _=>jZ.o ({g:= {x.g with holders:=out},H:=VB,hc:=vd,D:=x.D,dc:=x.dc}:GX) _ ga go gc (H.o w (Below.refl _ _)) HK.o dq (bX.o.ne7 (zmo bX.o xr5 Mcn)) ⟨(zjd (ee.keep lm.o) xr5 Mcn).sl zan,(ie.keep dq).2⟩⟩
theorem zdT {t:TypeId} {α:Type} {f:α->List Value} {size:Nat} (ag: ∀x,(f x).length=size) (W:World) (base:Nat) (h:base<=W.heap.size):OwnS (W.alloc (.cells #[] t)) base t size f (.slice (some ⟨W.heap.size,0,none⟩) 0 0) []:=
 OwnS.of_own ag (World.ownsRow_made W #[] 0 h (Nat.zero_le _) Mco)
theorem to_head {d:Deed} (h:d.to.length=1): ∃y,d.to[0]?=some y/\zbh d=y.name:=by
 obtain⟨y,hy⟩:=List.length_eq_one_iff.1 h;exact⟨y,by rw[hy];rfl,by unfold zbh;rw[hy];rfl⟩
theorem znu {d:Deed} {W:World} {B:Option Addr} (h:d.to.length=1) (hS:Sl W 3 RPart.cells B d.to): ∃b off,B=some ⟨b,off,none⟩/\b<W.heap.size/\W.cell? ⟨b,off,none⟩=some (.string (zbh d)):=by
 obtain⟨y,hy,he⟩:=to_head h;obtain⟨b,off,hA,hb,hc⟩:=hS Mcl;refine⟨b,off,hA,hb,?_⟩;rw[he];have:=hc 0 y hy 0 _ rfl;simpa using this
theorem zph (laws:List Law) (s:St) (wd rd:List Deed) (LA CA MA DA WA RA GA:Option Addr) (c0 c1 c2 c3 c4 c5 c6:Nat) (d:Deed) (B:Option Addr) (c:Nat) (w:World) (h:StIn w laws s wd rd LA CA MA DA WA RA GA c0 c1 c2 c3 c4 c5 c6) (hk:StLink s wd rd) (hf:StFew s wd rd) (hd:OkD d) (hS:Sl w 3 RPart.cells B d.to) (cf:d.kind=7):Calls Tryz.prog 139 #[.agg #[.slice LA laws.length c0, .slice CA s.children.length c1, .slice MA s.marriages.length c2, .slice DA s.dead.length c3, .slice WA wd.length c4, .slice RA rd.length c5, .slice GA s.graves.length c6],d.v B c] w (zfH w laws (zdp s d)):=by
 obtain⟨R,hR⟩: ∃R,R=zdp s d:=⟨_,rfl⟩
 rw[<-hR];have aR:=(hd.one (.inr (.inr cf))).1;have ta:=zHi (fun W (hS:Sl W 3 RPart.cells B d.to)=>znu aR hS);have nL:(0:Int)<(d.to.length:Int):=Mcl;unfold zdp at hR;generalize zbh d=tn at*;clear cf aR;have H:=zHi (fun W (hB:Below w.heap.size w W)=>h.keep hB);have HK:=zHi hk;have HF:=zHi hf;have HD:=zHi hd;have HS:=zHi (fun W (hB:Below w.heap.size w W)=>hS.keep hB);have HR:=zHi hR;unfold Deed.v;clear h hk hf hd hS hR;go_enter Tryz.func139,Tryz.ntmps139
 go_upto_region 1 with fail
 generalize ao:World.alloc (World.alloc (World.alloc w _) _) _=W0;obtain⟨ak,ax⟩:=zeK ao;clear ao;have aw:=ak.o.size;obtain⟨⟨xs0,xd0,xr0⟩,⟨s0,s1,s2,s3,s4,s5,s6⟩,⟨d0,d1,d2,d3,d4,d5,d6⟩,⟨r0,r1,r2,r3,r4,r5,r6⟩,rf,ls,ld,lr⟩:=ddF (ax.o W0 (Below.refl _ _));have sO:=zHi (fun x W (hB:Below W0.heap.size W0 W)=>sDead x W (H.o W (ak.o.trans (hB.mono aw))) HF.o);have fK:=zHi (fun x W (hB:Below W0.heap.size W0 W)=>sSpouse x W (H.o W (ak.o.trans (hB.mono aw))) HF.o);obtain⟨b,off,hA,hb,kU⟩:=ta.o W0 (HS.o W0 ak.o);have hr:=HR.o;rw[hA]at d4;go_upto_region 2 with fail
 cases cd:zaH s d.frm;rotate_left 1
 ·have HE:Hid (R=(s,28)):=Md5;clear hr;go_upto_region 3 with(go_at_call 17;go_must(refine(sO.o _ _ (Below.refl _ _)).mono ?_);rintro e wq ⟨rfl,z,rfl⟩;rw[cd])
  have bs:=zam W0 z;exact MbO
 cases dY:zaH s tn;rotate_left 1
 ·have HE:Hid (R=(s,28)):=by show _=_;rw[hr,cd,dY];rfl
  clear hr;go_upto_region 3 with(go_at_call 17;go_must(refine(sO.o _ _ Bw).mono ?_);rintro e wq ⟨rfl,zz,rfl⟩;first|(rw[cd];obtain⟨z,rfl⟩: ∃z,z=zz:=⟨_,rfl⟩)|(rw[dY];obtain⟨z2,rfl⟩: ∃z,z=zz:=⟨_,rfl⟩))
  obtain⟨W1,aV⟩: ∃W1,W1=(W0.ext z).ext z2:=⟨_,rfl⟩
  have aZ:Below W0.heap.size W0 W1:=by rw[aV];exact zbc (zam _ _) _
  rw[<-aV];clear aV;have bs:=aZ;exact MbO
 go_upto_region 4 with(go_at_call 17;go_must(refine(sO.o _ _ Bw).mono ?_);rintro e wq ⟨rfl,zz,rfl⟩;first|(rw[cd];obtain⟨z,rfl⟩: ∃z,z=zz:=⟨_,rfl⟩)|(rw[dY];obtain⟨z2,rfl⟩: ∃z,z=zz:=⟨_,rfl⟩))
 rw[cd,dY,Bool.or_false,if_neg Mco]at hr;obtain⟨W1,aV⟩: ∃W1,W1=(W0.ext z).ext z2:=⟨_,rfl⟩
 have aZ:Below W0.heap.size W0 W1:=by rw[aV];exact zbc (zam _ _) _
 have im:=aZ.size;rw[<-aV];have aG:=zHi aZ;clear aV aZ;clear xs0 xd0 xr0 s0 s1 s2 s3 s4 s5 s6 d0 d1 d2 d3 d4 d5 d6 r0 r1 r2 r3 r4 r5 r6 rf ls ld lr;obtain⟨⟨xs0,xd0,xr0⟩,⟨s0,s1,s2,s3,s4,s5,s6⟩,⟨d0,d1,d2,d3,d4,d5,d6⟩,⟨r0,r1,r2,r3,r4,r5,r6⟩,rf,ls,ld,lr⟩:=ddF (ax.o W1 (aG.o));cases cD:noB (zaL s d.frm)
 ·have HE:Hid (R=(s,13)):=by show _=_;rw[hr,cD];rfl
  have w1: ¬(zaL s d.frm).toList=[]:=by simpa using(show(zaL s d.frm).toList.isEmpty=false from cD)
  have y1:(zaL s d.frm).toList.isEmpty=false:=cD;clear hr cD;go_upto_region 5 with(go_at_call 40;go_must(refine(fK.o _ _ aG.o).mono ?_);rintro e wq ⟨rfl,z3,rfl⟩)
  have bs:=zbc aG.o z3;exact MbO
 have w1:(zaL s d.frm).toList=[]:=by simpa using(show(zaL s d.frm).toList.isEmpty=true from cD)
 have y1:(zaL s d.frm).toList.isEmpty=true:=cD;cases ed:noB (zaL s tn)
 ·have HE:Hid (R=(s,13)):=by show _=_;rw[hr,cD,ed];rfl
  have w2: ¬(zaL s tn).toList=[]:=by simpa using(show(zaL s tn).toList.isEmpty=false from ed)
  have y2:(zaL s tn).toList.isEmpty=false:=ed;clear hr cD ed;go_upto_region 5 with(go_at_call 40;go_must(refine(fK.o _ _ MdL).mono ?_);rintro e wq ⟨rfl,zz,rfl⟩;first|(rw[show zaL s tn=zaL s tn from rfl];obtain⟨z4,rfl⟩: ∃z,z=zz:=⟨_,rfl⟩)|(obtain⟨z3,rfl⟩: ∃z,z=zz:=⟨_,rfl⟩))
  obtain⟨W2,bM⟩: ∃W2,W2=(W1.ext z3).ext z4:=⟨_,rfl⟩
  have bF:Below W0.heap.size W0 W2:=by rw[bM];exact zbc (zbc aG.o _) _
  rw[<-bM];clear bM;have bs:=bF;exact MbO
 have w2:(zaL s tn).toList=[]:=by simpa using(show(zaL s tn).toList.isEmpty=true from ed)
 have y2:(zaL s tn).toList.isEmpty=true:=ed;rw[cD,ed,Bool.not_true,Bool.or_false,if_neg Mco]at hr;have HE:=zHi hr;clear hr cD ed;go_upto_region 6 with(go_at_call 40;go_must(refine(fK.o _ _ MdL).mono ?_);rintro e wq ⟨rfl,zz,rfl⟩;first|(rw[show zaL s tn=zaL s tn from rfl];obtain⟨z4,rfl⟩: ∃z,z=zz:=⟨_,rfl⟩)|(obtain⟨z3,rfl⟩: ∃z,z=zz:=⟨_,rfl⟩))
 obtain⟨WX,kg⟩: ∃WX,WX=(W1.ext z3).ext z4:=⟨_,rfl⟩
 have hJ:Below W0.heap.size W0 WX:=by rw[kg];exact zbc (zbc aG.o _) _
 rw[<-kg];have bA:=zHi hJ;have dQ:=hJ.size;clear kg hJ;clear xs0 xd0 xr0 s0 s1 s2 s3 s4 s5 s6 d0 d1 d2 d3 d4 d5 d6 r0 r1 r2 r3 r4 r5 r6 rf ls ld lr;obtain⟨⟨xs0,xd0,xr0⟩,⟨s0,s1,s2,s3,s4,s5,s6⟩,⟨d0,d1,d2,d3,d4,d5,d6⟩,⟨r0,r1,r2,r3,r4,r5,r6⟩,rf,ls,ld,lr⟩:=ddF (ax.o WX (bA.o));have bu:Hid (s.marriages.length=(s.marriages).length):=zHi rfl;have tg:Hid ((s.marriages).length<=1000):=zHi HF.o.marr;have bZ:=zHi (fun W (hB:Below WX.heap.size WX W)=>(H.o W (ak.o.trans ((bA.o.trans (hB.mono dQ)).mono aw))).marr);have aL:=zHi (fun(W:World) (h:Below WX.heap.size WX W)=>(show W.cell? ⟨w.heap.size,2,none⟩=some (.slice MA s.marriages.length c2)/\W.cell? ⟨w.heap.size+1,3,none⟩=some (.string d.frm) from⟨(zah h ls).trans s2,(zah h ld).trans d3⟩));go_cut [5]from 34 to 45 (fun v wc=>v= .int .i64 0/\ ∃V c',wc.heap[w.heap.size]?=some (.cells #[.slice LA laws.length c0, .slice CA s.children.length c1, .slice V (s.marriages.length+1) c', .slice DA s.dead.length c3, .slice WA wd.length c4, .slice RA rd.length c5, .slice GA s.graves.length c6] 40)/\wc.heap[w.heap.size+2]?=some (.cells #[.slice none 0 0, .slice none 0 0, .slice none 0 0, .slice none 0 0, .slice none 0 0, .slice none 0 0, .slice none 0 0] 40)/\Ro wc 136 zaT V (s.marriages++[(d.frm,tn)])/\Below w.heap.size w wc)
 case first=>
  refine zaC 9 (fun bb w'=>bb=true\/(w'.cell? ⟨w.heap.size,2,none⟩=some (.slice MA s.marriages.length c2)/\w'.cell? ⟨w.heap.size+1,3,none⟩=some (.string d.frm))) Mcm (.inr (aL.o _ (zaM (Below.refl _ _)))) ?hrest
  case hrest=>
   intro hHeld;clear xs0 xd0 xr0 s0 s1 s2 s3 s4 s5 s6 d0 d1 d2 d3 d4 d5 d6 r0 r1 r2 r3 r4 r5 r6 rf ls ld lr;refine TkM 1 ?_;refine TkM 2 ?_;refine TkM 4 ?_;refine TkM 5 ?_;refine TkM 6 ?_;refine TkM 7 ?_;refine TwM 0 8 (fun K hK=> ?_) fun K hK=> ?_
   ·go_simp
    have e0:Below WX.heap.size WX (WX.drew.alloc (.cells #[] 136)):=zac (zaM (Below.refl _ _)) _;have m0:OwnS (WX.drew.alloc (.cells #[] 136)) WX.heap.size 136 2 zaT (.slice (some ⟨WX.heap.size,0,none⟩) 0 0) []:=zdT zbk WX.drew WX.heap.size (Nat.le_refl _);refine NxM hK (fun hHeld=> ?_) (.inr (aL.o _ e0));clear hK K;refine TwM 3 8 (fun K hK=> ?_) fun K hK=> ?_
    ·refine zal (v:= .slice (some ⟨WX.heap.size,0,none⟩) 0 0) (n:=0) (m:=s.marriages.length) rfl _ _ rfl zgo zbk zdB rfl (xs:=[]) (ys:=s.marriages) (m0) rfl rfl bu.o (bZ.o _ e0) Mct McE Mcw ?_;intro v4 w4 h1 h2 h3;rw[List.nil_append]at h1;obtain⟨V4,c4',b8,_,_⟩:=h1.sl zbk;rw[<-bu.o]at b8;subst b8;have aD:Below WX.heap.size WX w4:=Below.grown e0 h2 Mdl (fun j hj=>by simp[za7]at hj;omega);refine NxM hK (fun hHeld=> ?_) (.inr (aL.o _ aD));clear hK K;refine OnM 8 false fun K hK=> ?_
     go_simp
     have e1:Below WX.heap.size WX (w4.alloc (.cells #[.string d.frm, .string tn] 136)):=zac aD _;have n1:(w4.alloc (.cells #[.string d.frm, .string tn] 136)).heap[w4.heap.size]?=some (.cells #[.string d.frm, .string tn] 136):=zar _ _ _ rfl;have o1:OwnS (w4.alloc (.cells #[.string d.frm, .string tn] 136)) WX.heap.size 136 2 zaT (.slice V4 s.marriages.length c4') s.marriages:=h1.keep (n:=w4.heap.size) (zac (Below.refl _ _) _);refine NxM hK (fun hHeld=> ?_) (.inr (aL.o _ e1));clear hK K;have o9:=o1;have n9:=n1;have e9:=e1;exact Mq
    ·go_simp
     have e1:Below WX.heap.size WX ((WX.drew.alloc (.cells #[] 136)).alloc (.cells #[.string d.frm, .string tn] 136)):=zac e0 _;have n1:((WX.drew.alloc (.cells #[] 136)).alloc (.cells #[.string d.frm, .string tn] 136)).heap[WX.heap.size+1]?=some (.cells #[.string d.frm, .string tn] 136):=zar _ _ _ Mco;have m1:OwnS ((WX.drew.alloc (.cells #[] 136)).alloc (.cells #[.string d.frm, .string tn] 136)) WX.heap.size 136 2 zaT (.slice (some ⟨WX.heap.size,0,none⟩) 0 0) []:=m0.keep (n:=(WX.drew.alloc (.cells #[] 136)).heap.size) (zac (Below.refl _ _) _);refine NxM hK (fun hHeld=> ?_) (.inr (aL.o _ e1));clear hK K;refine OnM 3 false fun K hK=> ?_
     refine zal (v:= .slice (some ⟨WX.heap.size,0,none⟩) 0 0) (n:=0) (m:=s.marriages.length) rfl _ _ rfl zgo zbk zdB rfl (xs:=[]) (ys:=s.marriages) (m1) rfl rfl bu.o (bZ.o _ e1) Mct McE Mcs ?_;intro v4 w4 h1 h2 h3;rw[List.nil_append]at h1;obtain⟨V4,c4',b8,_,_⟩:=h1.sl zbk;rw[<-bu.o]at b8;subst b8;have aD:Below WX.heap.size WX w4:=Below.grown e1 h2 McG (fun j hj=>by simp[za7]at hj;omega);have n2:w4.heap[WX.heap.size+1]?=some (.cells #[.string d.frm, .string tn] 136):=(h2.block _ McC Mdd).trans n1;exact Mb7
   ·go_simp
    have e0:Below WX.heap.size WX (WX.drew.alloc (.cells #[.string d.frm, .string tn] 136)):=zac (zaM (Below.refl _ _)) _;have n0:(WX.drew.alloc (.cells #[.string d.frm, .string tn] 136)).heap[WX.heap.size]?=some (.cells #[.string d.frm, .string tn] 136):=zar _ _ _ rfl;refine NxM hK (fun hHeld=> ?_) (.inr (aL.o _ e0));clear hK K;refine OnM 0 false fun K hK=> ?_
    go_simp
    have e1:Below WX.heap.size WX ((WX.drew.alloc (.cells #[.string d.frm, .string tn] 136)).alloc (.cells #[] 136)):=zac e0 _;have n1:((WX.drew.alloc (.cells #[.string d.frm, .string tn] 136)).alloc (.cells #[] 136)).heap[WX.heap.size]?=some (.cells #[.string d.frm, .string tn] 136):=zak n0;have m1:OwnS ((WX.drew.alloc (.cells #[.string d.frm, .string tn] 136)).alloc (.cells #[] 136)) WX.heap.size 136 2 zaT (.slice (some ⟨WX.heap.size+1,0,none⟩) 0 0) []:=by
     exact Mbb
    refine NxM hK (fun hHeld=> ?_) (.inr (aL.o _ e1));clear hK K;refine OnM 3 false fun K hK=> ?_
    refine zal (v:= .slice (some ⟨WX.heap.size+1,0,none⟩) 0 0) (n:=0) (m:=s.marriages.length) rfl _ _ rfl zgo zbk zdB rfl (xs:=[]) (ys:=s.marriages) (m1) rfl rfl bu.o (bZ.o _ e1) Mct McE Mcs ?_;intro v4 w4 h1 h2 h3;rw[List.nil_append]at h1;obtain⟨V4,c4',b8,_,_⟩:=h1.sl zbk;rw[<-bu.o]at b8;subst b8;have aD:Below WX.heap.size WX w4:=Below.grown e1 h2 McG (fun j hj=>by simp[za7]at hj;omega);have n2:w4.heap[WX.heap.size]?=some (.cells #[.string d.frm, .string tn] 136):=(h2.block _ McC Mdd).trans n1;exact Mb7
 case rest=>
  obtain⟨rfl,V,c',eQ,cv,ee,oe⟩:=hcut;clear xs0 xd0 xr0 s0 s1 s2 s3 s4 s5 s6 d0 d1 d2 d3 d4 d5 d6 r0 r1 r2 r3 r4 r5 r6 rf ls ld lr;obtain⟨s0,s1,s2,s3,s4,s5,s6⟩:=zaG eQ;obtain⟨r0,r1,r2,r3,r4,r5,r6⟩:=zaG cv;have rf:=frz cv;have ls:=zab eQ;have lr:=zab cv;go_wp2_with fail
  rw[HE.o];have dq:=zc9 (a0:= .slice LA laws.length c0) (a1:= .slice CA s.children.length c1) (a2:= .slice V (s.marriages.length+1) c') (a3:= .slice DA s.dead.length c3) (a4:= .slice WA wd.length c4) (a5:= .slice RA rd.length c5) (a6:= .slice GA s.graves.length c6) oe (show w.heap.size<=w.heap.size+2 by omega);refine bodyPost_ret (zbA rfl _ rfl rfl (zc0 cv)) rfl ?_;have h':=H.o _ dq;exact⟨_,_,_,_,_,_,_,rfl,rfl,dq,fun _=>⟨wd,rd,LA,CA,V,DA,WA,RA,GA,c0,c1,c',c3,c4,c5,c6,rfl,rfl,by rw[List.length_append];rfl,rfl,rfl,rfl,rfl,⟨h'.laws,h'.kids,(zjd ee cv Mcn).sl zbk,h'.dead,h'.wills,h'.ren,h'.graves,h'.deadc⟩,⟨HK.o.wills,HK.o.shares,HK.o.ren,HK.o.tos⟩⟩⟩
end Go.Proofs.YtckkbkdcdkhglaaGreatDoor

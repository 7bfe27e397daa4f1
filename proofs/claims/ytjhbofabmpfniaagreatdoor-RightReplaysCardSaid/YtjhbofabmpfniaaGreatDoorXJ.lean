/- Walk of the reference's transfer. -/
import Derived.Test.YtjhbofabmpfniaaGreatDoorXI
set_option linter.unusedSimpArgs false
set_option linter.unusedVariables false
set_option maxRecDepth 100000
set_option maxHeartbeats 4000000
namespace Go.Proofs.YtjhbofabmpfniaaGreatDoor
open Go.RowKit Go.Shelf
attribute [local go_sem] World.cell?_alloc_mark zae za3 zam za6 zas zat zau zav zaw zax zay
attribute [local go_sem] zaj zac
structure GainSt (own:Rat) (out l:Parts):Prop where
 good:GoodParts out
 small:zaF out=false
 le:sumQ out+own*sumQ l<=1
 pos: ∀p∈l,0<=p.2
theorem GainSt.parts {own:Rat} {out l:Parts} (h:GainSt own out l) (ho:0<=own): ∀p∈out,zaI p.2:=by
 have h1:=Rat.mul_nonneg ho (zbp h.pos);exact fun p hp=>(zdJ (hs:=out) ⟨h.good,h.small,by have:=h.le;grind⟩ hp).2.2
theorem GainSt.next {own:Rat} {out l:Parts} {n:ByteArray} {q:Rat} (ho:0<=own) (h:GainSt own out ((n,q)::l)) (hl:zaF (za4 out n (own*q))=false):GainSt own (za4 out n (own*q)) l:=by
 have hq:=h.pos (n,q) Mcq;have bN:=h.le;rw[sumQ]at bN;exact⟨zbv (Rat.mul_nonneg ho hq) h.good,hl,by rw[zbZ];grind,fun p hp=>h.pos p Mdo⟩
theorem GainSt.more {own:Rat} {out l:Parts} {n:ByteArray} {q:Rat} (ho:0<=own) (h:GainSt own out ((n,q)::l)):0<=own*q/\own*q<=1:=by
 have hq:=h.pos (n,q) Mcq;have bN:=h.le;rw[sumQ]at bN;have h1:=Rat.mul_nonneg ho hq;have h2:=Rat.mul_nonneg ho (zbp (l:=l) fun p hp=>h.pos p Mdo);have h3:0<=sumQ out:=zbp fun p hp=>by have:=h.good.pos p hp;grind
 simp only at hq bN;exact⟨h1,by grind⟩
def tpRes (s:St) (i:Nat) (g:Grave):Option Parts->St×Int
 |none=>(s,8)
 |some o=>(s.withGrave i {g with holders:=o},0)
theorem zmr (own:Rat) (n:ByteArray) (q:Rat) (l out:Parts):zb8 own ((n,q)::l) out=if bigQ (own*q)then none else if zaF (za4 out n (own*q))then none else zb8 own l (za4 out n (own*q)):=by rw[zb8]
theorem sum_isN {n:Nat}: ∀ {l:Parts},(∀p∈l,IsN n p.2)->IsN n (sumQ l)
 | [],_=>zkm n
 |x::r,h=>zkk (h x Mcq) (sum_isN fun p hp=>h p Mdo)
theorem zkS (laws:List Law) (s:St) (wd rd:List Deed) (LA CA MA DA WA RA GA:Option Addr) (c0 c1 c2 c3 c4 c5 c6:Nat) (d:Deed) (B:Option Addr) (c:Nat) (w:World) (h:StIn w laws s wd rd LA CA MA DA WA RA GA c0 c1 c2 c3 c4 c5 c6) (hk:StLink s wd rd) (hf:StFew s wd rd) (hd:OkD d) (hS:Sl w 3 RPart.cells B d.to) (bQ:d.kind=1) (ba: ∀g∈s.graves,GoodG g/\g.holders.length<=50000):Calls Tryz.prog 181 #[.agg #[.slice LA laws.length c0, .slice CA s.children.length c1, .slice MA s.marriages.length c2, .slice DA s.dead.length c3, .slice WA wd.length c4, .slice RA rd.length c5, .slice GA s.graves.length c6],d.v B c] w (zeX w laws (zbo s d)):=by
 obtain⟨R,hR⟩: ∃R,R=zbo s d:=⟨_,rfl⟩
 rw[<-hR];obtain⟨gxs,hm,bJ,bw⟩:=gx_of h.graves;have HM:=zHi hm;have dI:=zHi bJ;have cf:=zHi bw;have ei:=zHi ba;have jR:=zHi (zea (hd.parts (.inr (.inl bQ))).2);have bu:=hd.len;clear hm bJ bw ba bQ;have H:=zHi (fun W (hB:Below w.heap.size w W)=>h.keep hB);have HK:=zHi hk;have HF:=zHi hf;have HD:=zHi hd;have HS:=zHi (fun W (hB:Below w.heap.size w W)=>hS.keep hB);have HR:=zHi hR;unfold Deed.v;clear h hk hf hd hS hR;go_enter Tryz.func181,Tryz.ntmps181
 go_upto_region 1 with fail
 generalize ao:World.alloc (World.alloc (World.alloc w _) _) _=W0;obtain⟨ak,ax⟩:=zeP ao;clear ao;have aw:=ak.o.size;obtain⟨⟨xs0,xd0,xr0⟩,⟨s0,s1,s2,s3,s4,s5,s6⟩,⟨d0,d1,d2,d3,d4,d5,d6⟩,⟨r0,r1,r2,r3,r4,r5,r6⟩,rf,ls,ld,lr⟩:=ddF (ax.o W0 (Below.refl _ _));have eC:=zHi (fun W (hB:Below W0.heap.size W0 W)=>zmo d.place d.day W (H.o W (ak.o.trans (hB.mono aw))) HF.o);have ki:=zHi (fun W (hB:Below W0.heap.size W0 W)=>zmp d.to B c W (H.o W (ak.o.trans (hB.mono aw))) HF.o Mcn (HS.o W (ak.o.trans (hB.mono aw))));have t8:=zHi (fun W (hB:Below W0.heap.size W0 W)=>zoe d.to B c W Mcn (HS.o W (ak.o.trans (hB.mono aw))));have hr:=HR.o;unfold zbo at hr;cases aN:zaO s d.place d.day with
 |none=>
  exact Mcj
 |some i=>
  rw[aN]at hr;rw[ze0 aN]at eC;obtain⟨g,cj,cy,zX⟩:=zjS aN;simp only[cy]at hr;obtain⟨hi,oS⟩:=gx_at HM.o cj;have f9:i<s.graves.length:=MdU;have jM:=dI.o _ (List.getElem_mem hi);have qP:=zHi (fun(y:GX) W (hB:Below W0.heap.size W0 W)=>zjf laws s wd rd LA CA MA DA WA RA GA c0 c1 c2 c3 c4 c5 c6 gxs i y W HM.o (cf.o.keep (ak.o.trans (hB.mono aw))) HF.o f9);have km:=zHi (znz laws s wd rd LA CA MA DA WA RA GA c0 c1 c2 c3 c4 c5 c6 gxs i HM.o dI.o);have aD:=zHi (fun W (hB:Below W0.heap.size W0 W)=>H.o W (ak.o.trans (hB.mono aw)));go_upto_region 2 with(go_at_call 23;go_must(refine(eC.o _ (Below.refl _ _)).mono ?_);rintro e wq ⟨rfl,z1,rfl⟩)
  obtain⟨W1,aM⟩: ∃W1,W1=W0.ext z1:=⟨_,rfl⟩
  have aS:Below W0.heap.size W0 W1:=Mdb;rw[<-aM];clear aM;clear xs0 xd0 xr0 s0 s1 s2 s3 s4 s5 s6 d0 d1 d2 d3 d4 d5 d6 r0 r1 r2 r3 r4 r5 r6 rf ls ld lr;obtain⟨⟨xs0,xd0,xr0⟩,⟨s0,s1,s2,s3,s4,s5,s6⟩,⟨d0,d1,d2,d3,d4,d5,d6⟩,⟨r0,r1,r2,r3,r4,r5,r6⟩,rf,ls,ld,lr⟩:=ddF (ax.o W1 (aS));have wk:=aS.size;have eX:=ak.o.trans (aS.mono aw);obtain⟨gb,gof,lY,dM,ah⟩:=(cf.o.keep eX).at hi;generalize gxs[i]=x at*;subst oS;subst lY;have i0:=ah 0 _ rfl;have i1:=ah 1 _ rfl;have i2:=ah 2 _ rfl;have i3:=ah 3 _ rfl;have i4:=ah 4 _ rfl;simp only[Nat.add_zero]at i0;have x8:(i:Int)<(s.graves.length:Int):=Mcn;have fB:(0:Int)<=(i:Int):=Mcn;have aO: ¬(i:Int)<0:=Mcn;clear ah;go_upto_region 5 with fail
  obtain⟨W2,cF⟩: ∃W2,W2=W1.alloc (.cells #[.string x.g.place, .int .i64 x.g.cls, .int .i64 x.g.fin, .slice x.H x.g.holders.length x.hc, .slice x.D x.g.died.length x.dc] 49):=⟨_,rfl⟩
  have gG:W2.heap[W1.heap.size]?=some (.cells #[.string x.g.place, .int .i64 x.g.cls, .int .i64 x.g.fin, .slice x.H x.g.holders.length x.hc, .slice x.D x.g.died.length x.dc] 49):=Mep;have aB:Hid (Below W0.heap.size W0 W2):=MdB;have jk:W1.heap.size<W2.heap.size:=zab gG;have ui:=zHi eX;obtain⟨GB,jl⟩: ∃GB,GB=W1.heap.size:=⟨_,rfl⟩
  rw[<-cF,<-jl];rw[<-jl]at gG jk;have iQ:W0.heap.size<=GB:=Mcn;clear cF jl aS eX i0 i1 i2 i3 i4;clear xs0 xd0 xr0 s0 s1 s2 s3 s4 s5 s6 d0 d1 d2 d3 d4 d5 d6 r0 r1 r2 r3 r4 r5 r6 rf ls ld lr;obtain⟨dj,cz⟩:=ei.o x.g zX;have oT:=jM.keep (ak.o.trans (aB.o.mono aw));obtain⟨t1,t2,t3⟩:=ziC (frm:=d.frm) dj (fun p hp=>jR.o.1 p hp) jR.o.2.1;have q9:=zch (n:=d.frm) dj.good;have sK:=zbI (n:=d.frm) dj.good;have jL:=zd8 d.frm dj.small;have kE: ∀p∈za0 x.g.holders d.frm,p.1≠d.frm:=zj2;have bS:=zdV x.g.holders d.frm;have aR:sumQ x.g.holders<=1:=by
   rcases dj.one with e|e
   ·rw[e];decide
   ·rw[e];exact Rat.le_refl
  have ni:=zHi (fun W (hB:Below W2.heap.size W2 W)=>zfp x.g.holders d.frm x.H x.hc W Mcn (oT.1.keep hB));have iM:=zHi (fun W (hB:Below W2.heap.size W2 W)=>zh0 x.g.holders d.frm x.H x.hc W Mcn (oT.1.keep hB));generalize zag x.g.holders d.frm=sh at*;generalize za0 x.g.holders d.frm=wo at*;unfold zaB at ni t8;obtain⟨g0,g1,g2,g3,g4⟩:=zef gG;have rF:=aB.o.size;have GG:=zHi gG;obtain⟨⟨xs0,xd0,xr0⟩,⟨s0,s1,s2,s3,s4,s5,s6⟩,⟨d0,d1,d2,d3,d4,d5,d6⟩,⟨r0,r1,r2,r3,r4,r5,r6⟩,rf,ls,ld,lr⟩:=ddF (ax.o W2 (aB.o));by_cases iO:x.g.cls=4
  ·have mi:(x.g.cls==4)=true:=by rw[iO];rfl
   have HE:Hid (R=(s,15)):=by show _=_;rw[hr,if_pos mi]
   clear hr iO;go_upto_region 6 with fail
   have bf:=aB.o;exact Mg
  have mi:(x.g.cls==4)=false:=by simpa using iO
  rw[if_neg (by rw[mi];simp)]at hr;go_upto_region 8 with(go_at_call 38;go_must(refine(ni.o _ (Below.refl _ _)).mono ?_);rintro e wq ⟨rfl,z2,rfl⟩)
  obtain⟨SB,jn⟩: ∃SB,SB=W2.heap.size+z2.os.size:=⟨_,rfl⟩
  obtain⟨W3,aX⟩: ∃W3,W3=(W2.ext z2).alloc (.cells #[.int .i64 (sh).num, .int .i64 (sh).den] 71):=⟨_,rfl⟩
  have gS:W3.heap[SB]?=some (.cells #[.int .i64 (sh).num, .int .i64 (sh).den] 71):=by rw[aX];exact zar _ _ _ (by rw[jn];simp[zae])
  have ay:Below W2.heap.size W2 W3:=by rw[aX];exact zad (zaq W2 z2) _
  rw[<-aX,<-jn];clear aX jn g0 g1 g2 g3 g4 gG iO mi;clear xs0 xd0 xr0 s0 s1 s2 s3 s4 s5 s6 d0 d1 d2 d3 d4 d5 d6 r0 r1 r2 r3 r4 r5 r6 rf ls ld lr;have jq:=ay.size;have aH:=zHi (aB.o.trans (ay.mono rF));have Ax:=zHi ay;have G3:=zHi ((ay.block GB jk).trans GG.o);have GS:=zHi gS;obtain⟨q0,q1⟩:=zbu gS;have rp:=zab gS;obtain⟨⟨xs0,xd0,xr0⟩,⟨s0,s1,s2,s3,s4,s5,s6⟩,⟨d0,d1,d2,d3,d4,d5,d6⟩,⟨r0,r1,r2,r3,r4,r5,r6⟩,rf,ls,ld,lr⟩:=ddF (ax.o W3 (aH.o));by_cases hz:sh=0
  ·have mV:(sh.num==0)=true:=by rw[hz];rfl
   have HE:Hid (R=(s,19)):=by show _=_;rw[hr,if_pos Mdu]
   clear hr;go_upto_region 9 with fail
   have bf:=aH.o;exact Mg
  have mV:(sh.num==0)=false:=by
   exact Mbc
  rw[if_neg Mdu]at hr;cases fR:ze3 s d.to;rotate_left 1
  ·have HE:Hid (R=(s,28)):=by show _=_;rw[hr,fR];rfl
   rw[fR]at ki;clear hr hz aN;go_upto_region 11 with(go_at_call 233;go_must(refine(ki.o _ (by have:=aH.o;exact Bw)).mono ?_);rintro e wq ⟨rfl,z3,rfl⟩)
   have bf:=zb6 aH.o z3;exact MbR
  rw[fR,if_neg Mcq]at hr;rw[fR]at ki;have l8:=znj d.to 0;have b9:d.to.all zdX=true:=by
   rw[List.all_eq_true];intro p hp;have h1:=jR.o.1 p hp;have h2:=zbj h1.2.2;unfold zdX;rw[h1.2.2,Bool.true_and];have:p.num≠0:=fun e=>by
    have h3:=h1.1;have h4:=(zkF.1 h3)
    unfold RPart.rat at h4;rw[h2.1,e]at h4;exact absurd h4 Mcp
   simpa using this
  rw[b9]at l8;have dQ:=l8.2 rfl;rw[Rat.zero_add]at dQ;have tK: ∀p∈zap d.to,0<p.2:=fun p hp=>by
   obtain⟨q,hq,rfl⟩:=List.mem_map.1 hp;exact(jR.o.1 q hq).1
  have kV:IsN 720720 (sumQ (zap d.to)):=sum_isN (fun p hp=>by
   obtain⟨q,hq,rfl⟩:=List.mem_map.1 hp
   exact(jR.o.1 q hq).2.1)
  have oz:0<=sumQ (zap d.to):=zbp fun p hp=>by have:=tK p hp;grind
  have mz:=jR.o.2.1;have aK:=zc7 Mcp Mcp kV oz mz;have nE:=zc7 Mcp Mcp (zgX (zgY _) kV) (show 0<=1-sumQ (zap d.to) by grind) (show 1-sumQ (zap d.to)<=1 by grind);rw[l8.1,dQ]at t8;have xP: ∀p∈zap d.to,0<=p.2:=fun p hp=>by have:=tK p hp;grind
  have oE:(zap d.to).length=d.to.length:=List.length_map _;have gD: ∀k (hk:k<d.to.length),(zap d.to).drop k=(d.to[k].name,d.to[k].rat)::(zap d.to).drop (k+1):=fun k hk=>by
   rw[List.drop_eq_getElem_cons Mcn];congr 1
   exact List.getElem_map _
  have By:=zHi (fun p hp=>(jR.o.1 p hp).2.2);generalize zap d.to=l0 at*;have si:0<=sh*(1-sumQ l0):=Rat.mul_nonneg t1 McP;have xf:sh*(1-sumQ l0)<=1:=by
   have:=Rat.mul_le_mul_of_nonneg_left (show 1-sumQ l0<=1 by grind) t1;grind
  have g9:=zHi (fun(hb:bigQ (sh*(1-sumQ l0))=false)=>(show zaI (sh*(1-sumQ l0))/\GainSt sh (za4 wo d.frm (sh*(1-sumQ l0))) l0 from
   ⟨zcc si xf hb,⟨zbv si sK,zfU hb kE jL,by rw[zbZ];grind,xP⟩⟩))
  have vh:=zHi (show∀p∈wo,zaI p.2 from fun p hp=>(zdJ (hs:=wo) ⟨sK,jL,by have:=q9;grind⟩ hp).2.2);obtain⟨q,hq⟩: ∃q,q=sumQ l0:=⟨_,rfl⟩
  rw[<-hq]at hr t8 aK nE g9;have eP:=zHi (fun W=>zhQ 1 q W ⟨by decide,by decide⟩ aK);have jd:=zHi (fun W=>zg7 sh (1-q) W t2 nE);unfold zaB at eP jd;rw[show(1:Rat).num=1 from rfl,show((1:Rat).den:Int)=1 from rfl]at eP;obtain⟨kq,FZ⟩: ∃kq,kq=sh*(1-q):=⟨_,rfl⟩
  rw[<-FZ]at hr g9 jd;have je:=zHi t1;have lL:=zHi t2;have Hq:=zHi gD;have B7:=zHi oE;have yx:wo.length<=50000:=Mcn;have br:=zHi hr;clear hr gD oE xP si xf b9 l8 dQ tK kV oz mz aK nE t1 t2 t3 q9 sK jL kE bS aR hq FZ hz aN dj
  go_upto_region 13 with(first
   |(go_at_call 233;go_must(refine(ki.o _ (by have:=aH.o;exact Bw)).mono ?_);rintro e wq ⟨rfl,z3,rfl⟩)
   |(go_at_call 179;go_must(refine(t8.o _ (by have:=aH.o;exact Bw)).mono ?_);rintro e wq ⟨rfl,z5,rfl⟩))
  obtain⟨QB,rl⟩: ∃QB,QB=W3.heap.size+z3.os.size+z5.os.size:=⟨_,rfl⟩
  obtain⟨W4,ip⟩: ∃W4,W4=((W3.ext z3).ext z5).alloc (.cells #[.int .i64 (q).num, .int .i64 (q).den] 71):=⟨_,rfl⟩
  have gQ:W4.heap[QB]?=some (.cells #[.int .i64 (q).num, .int .i64 (q).den] 71):=by rw[ip];exact zar _ _ _ (by rw[rl];simp[zae])
  have aC:Below W3.heap.size W3 W4:=by rw[ip];exact zad (zb6 (zaq W3 z3) z5) _
  rw[<-ip,<-rl];have EO:=aC.size;have rG:=aH.o.trans (aC.mono (by have:=aH.o.size;omega));have G4:=zHi ((aC.block GB Mcn).trans G3.o);have S4:=zHi ((aC.block SB rp).trans GS.o);have Q4:=zHi gQ;have qQ:=zHi (iM.o W4 (Ax.o.trans (aC.mono jq)));have rq:SB<W4.heap.size:=Mcn;have C3:GB<W4.heap.size:=Mcn;have Cg:=zab gQ;have eB:=zHi rG;have zk:=rG.size;clear ip rl gQ gS q0 q1 aC rG rp ay;clear xs0 xd0 xr0 s0 s1 s2 s3 s4 s5 s6 d0 d1 d2 d3 d4 d5 d6 r0 r1 r2 r3 r4 r5 r6 rf ls ld lr;obtain⟨g0,g1,g2,g3,g4⟩:=zef G4.o;obtain⟨⟨xs0,xd0,xr0⟩,⟨s0,s1,s2,s3,s4,s5,s6⟩,⟨d0,d1,d2,d3,d4,d5,d6⟩,⟨r0,r1,r2,r3,r4,r5,r6⟩,rf,ls,ld,lr⟩:=ddF (ax.o W4 (eB.o));go_upto_region 14 with(go_at_call 114;go_must(refine(qQ.o).mono ?_);rintro e w5 ⟨v5,rfl,o5,b5⟩)
  obtain⟨VA,vc,rfl,jo,_⟩:=o5.sl zao;have td:=zHi jo;have BS:=b5.size;have bi:=zHi (eB.o.trans (b5.mono zk));have G5:=zHi ((b5.block GB C3).trans G4.o);have S5:=zHi ((b5.block SB rq).trans S4.o);have Q5:=zHi ((b5.block QB Cg).trans Q4.o);clear g0 g1 g2 g3 g4 o5 b5 jo;clear xs0 xd0 xr0 s0 s1 s2 s3 s4 s5 s6 d0 d1 d2 d3 d4 d5 d6 r0 r1 r2 r3 r4 r5 r6 rf ls ld lr;obtain⟨q0,q1⟩:=zbu Q5.o;obtain⟨e0,e1⟩:=zbu S5.o;have vV:=zab S5.o;have Ch:=zab Q5.o;have vA:=zab G5.o;refine zdD 5 _ _ (.cells #[.int .i64 0, .int .i64 0] 71) (.cells #[.int .i64 (kq).num, .int .i64 (kq).den] 71) Mco Mco rfl rfl ?hrun ?_
  case hrun=>intro a W;kernel_rfl
  simp only[List.take_succ_cons,List.take_zero];repeat(refine zeD (fun K hK=> ?_);simp only[grow];go_simp;first|(refine hK _ ?_;clear hK K)|(apply Exists.intro;refine⟨fun _=> ?_,hK _ ?_⟩;((first|(go_at_call 85;exact quietg (zhS _))|(go_at_call 39;exact quietg (eP.o _))|(go_at_call 40;exact quietg (jd.o _))));clear hK K))
  refine zfC ⟨?hstore,?hlast⟩
  case hstore=>
   exact MF
  case hlast=>
   rintro LB W6 ⟨z6,dF⟩ tu gL;have aI:Below w5.heap.size w5 W6:=by rw[dF];exact zaq _ _
   have lU:=aI.size;have bV:=zHi (bi.o.trans (aI.mono Mcn));have G6:=zHi ((aI.block GB vA).trans G5.o);have S6:=zHi ((aI.block SB vV).trans S5.o);have IG:=zHi (td.o.keep aI);have C4:=zab G6.o;have Cm:=zab S6.o;have Je:=zab gL;obtain⟨l0',l1'⟩:=zbu gL;clear dF aI q0 q1 e0 e1 vV Ch vA;obtain⟨⟨xs0,xd0,xr0⟩,⟨s0,s1,s2,s3,s4,s5,s6⟩,⟨d0,d1,d2,d3,d4,d5,d6⟩,⟨r0,r1,r2,r3,r4,r5,r6⟩,rf,ls,ld,lr⟩:=ddF (ax.o W6 (bV.o));by_cases hs:1000000000<(kq.den:Int)
   ·have HE:Hid (R=(s,8)):=by show _=_;rw[br.o,if_pos (by simp[bigQ,hs])]
    go_upto_region 16 with fail
    have bf:=bV.o;exact Mg
   have bf:bigQ kq=false:=by simpa[bigQ]using hs
   obtain⟨k5,aj⟩:=g9.o bf;have hr:=br.o;rw[bf,if_neg Mcq]at hr;change R=tpRes s i x.g (zb8 sh l0 (za4 wo d.frm kq))at hr;have eD:=zHi (zcS wo d.frm kq VA vc W6 Mcn vh.o k5 IG.o);unfold zaB at eD;have iW:=zcz d.frm kq wo;have lP:=zHi hr;have aD:=zHi aj;clear hr aj k5 g9 br bf;go_upto_region 18 with(go_at_call 87;go_must(refine(eD.o).mono ?_);rintro e w7 ⟨v7,rfl,o7,b7⟩)
   have vm:=b7.size;have bj:=bV.o.trans (b7.mono (by have:=bV.o.size;omega));have G7:=zHi ((b7.block GB C4).trans G6.o);have S7:=zHi ((b7.block SB Cm).trans S6.o);have C5:=zab G7.o;have Cn:=zab S7.o;have bT:=zHi bj;have IX:=bj.size;have uO:=zHi o7;clear o7 b7 l0' l1' eD bj hs;generalize za4 wo d.frm kq=out0 at*;clear xs0 xd0 xr0 s0 s1 s2 s3 s4 s5 s6 d0 d1 d2 d3 d4 d5 d6 r0 r1 r2 r3 r4 r5 r6 rf ls ld lr;go_upto_region 19 with fail
   go_loopw [11,13] (fun v n wr=> ∃(k:Nat) (out:Parts),k<=d.to.length/\n= .int .i64 k/\Hid (R=tpRes s i x.g (zb8 sh (l0.drop k) out))/\Hid (GainSt sh out (l0.drop k))/\out.length<=50001+k/\OwnS wr W6.heap.size 75 3 zaa v out/\Below w7.heap.size w7 wr) (fun _ n _=>d.to.length-(intOf n).toNat)
   case atStart=>exact⟨0,out0,Nat.zero_le _,rfl,lP,aD,by omega,uO.o,Below.refl _ _⟩
   case round=>
    obtain⟨k,out,hk,rfl,HX,HG,KL,ae,hB⟩:=hrel;have aE:=hB.size;have iw:=(hB.block GB C5).trans G7.o;have D7:=(hB.block SB Cn).trans S7.o;obtain⟨g0,g1,g2,g3,g4⟩:=zef iw;obtain⟨q0,q1⟩:=zbu D7;have J4:=zab iw;have Jr:=zab D7;have cw:=bT.o.trans (hB.mono IX);obtain⟨⟨xs0,xd0,xr0⟩,⟨s0,s1,s2,s3,s4,s5,s6⟩,⟨d0,d1,d2,d3,d4,d5,d6⟩,⟨r0,r1,r2,r3,r4,r5,r6⟩,rf,ls,ld,lr⟩:=ddF (ax.o wr (cw));have aW:=zHi cw;have HB:=zHi hB;have HO:=zHi ae;have vf:=zHi (HS.o wr (ak.o.trans (cw.mono aw)));by_cases aa:k<d.to.length
    ·obtain⟨b,off,hA,hb,ah⟩:=vf.o.at aa;have hx:=HX.o;have aj:=HG.o;rw[Hq.o k aa]at hx aj;rw[zmr]at hx;have bO:=By.o _ (List.getElem_mem aa);have am:=zHi aa;generalize d.to[k]=y at*;obtain⟨nm,nu,de⟩:=y;simp only at bO hx aj;have i0:wr.cell? ⟨b,off+k*3,none⟩=some (.string nm):=ah 0 _ rfl;have i1:wr.cell? ⟨b,off+k*3+1,none⟩=some (.int .i64 nu):=ah 1 _ rfl;have i2:wr.cell? ⟨b,off+k*3+2,none⟩=some (.int .i64 de):=ah 2 _ rfl;have ar:(k:Int)<(d.to.length:Int):=Mcn;have aT:(0:Int)<=(k:Int):=Mcn;have mO:(⟨nm,nu,de⟩:RPart).rat=Rat.divInt nu de:=rfl;rw[mO]at hx aj;obtain⟨r1,r2,r3,r4⟩:=zbj bO;have kJ:=zHi (fun W=>zg7 sh (Rat.divInt nu de) W lL.o (zc7 Mcp Mcp (zep bO) r3 r4));unfold zaB at kJ;rw[r1,r2]at kJ;obtain⟨p1,p2⟩:=aj.more je.o;have ig:=zHi (fun hl=>aj.next je.o hl);have kO:=zHi (aj.parts je.o);obtain⟨mo,xx⟩: ∃mo,mo=sh*Rat.divInt nu de:=⟨_,rfl⟩
     rw[<-xx]at hx kJ p1 p2 ig;have lM:=zHi (And.intro p1 p2);have av:=zHi hx;rw[hA]at d4;have HDW:=zHi xd0;have At:=zHi hA;have kH:=zHi (show wr.cell? ⟨b,off+k*3,none⟩=some (.string nm)/\b<wr.heap.size from⟨i0,hb⟩);clear ah hx aj bO aa mO r1 r2 r3 r4 p1 p2 xx ae hB hA;go_upto_region 21 with fail
     refine zdD 8 _ _ (.cells #[.int .i64 0, .int .i64 0] 71) (.cells #[.int .i64 (mo).num, .int .i64 (mo).den] 71) Mco Mco rfl rfl ?hrun ?_
     case hrun=>intro a W;kernel_rfl
     simp only[List.take_succ_cons,List.take_zero];repeat(refine zeD (fun K hK=> ?_);simp only[grow];go_simp;first|(refine hK _ ?_;clear hK K)|(apply Exists.intro;refine⟨fun _=> ?_,hK _ ?_⟩;((go_at_call 40;exact quietg (kJ.o _)));clear hK K))
     refine zfC ⟨?hstore,?hlast⟩
     case hstore=>
      exact MF
     case hlast=>
      rintro MB W9 ⟨z9,wf⟩ Jf gM;have bK:Below wr.heap.size wr W9:=by rw[wf];exact zaq _ _
      have BU:=bK.size;have rP:=aW.o.trans (bK.mono Md9);have ee:=zHi bK;have qg:=zHi rP;have GM:=zHi gM;obtain⟨m0,m1⟩:=zbu gM;have r9:=zab gM;clear wf bK i0 i1 i2 g0 g1 g2 g3 g4 q0 q1;clear xs0 xd0 xr0 s0 s1 s2 s3 s4 s5 s6 d0 d1 d2 d3 d4 d5 d6 r0 r1 r2 r3 r4 r5 r6 rf ls ld lr;obtain⟨⟨xs0,xd0,xr0⟩,⟨s0,s1,s2,s3,s4,s5,s6⟩,⟨d0,d1,d2,d3,d4,d5,d6⟩,⟨r0,r1,r2,r3,r4,r5,r6⟩,rf,ls,ld,lr⟩:=ddF (ax.o W9 (rP));clear rP;by_cases hs:1000000000<(mo.den:Int)
      ·have HE:Hid (R=(s,8)):=by show _=_;rw[av.o,if_pos (by simp[bigQ,hs])];rfl
       go_upto_region 23 with fail
       have bf:=qg.o;exact Mg
      have bf:bigQ mo=false:=by simpa[bigQ]using hs
      have hx:=av.o;rw[bf,if_neg Mcq]at hx;have eS:=zHi hx;have mJ:=zcc lM.o.1 lM.o.2 bf;obtain⟨OV,oc,rfl,_,_⟩:=HO.o.sl zao;have eD:=zHi (fun W (hW:Below wr.heap.size wr W)=>zcS out nm mo OV oc W (by have:=am.o;omega) kO.o mJ (ziT zao (HO.o.keep hW)).1);unfold zaB at eD;have cz:=zcz nm mo out;go_upto_region 24 with fail
      have CP:=d4;rw[At.o]at CP;have BV:=fun(W:World) (h:Below W9.heap.size W9 W)=>(zah h ld).trans CP
      have J7:=fun(W:World) (h:Below W9.heap.size W9 W)=>(zah h (show b<W9.heap.size by have:=kH.o.2;omega)).trans ((zah ee.o kH.o.2).trans kH.o.1)
      clear CP;have aG:=zHi (fun(W:World) (h:Below W9.heap.size W9 W)=>(show W.cell? ⟨w.heap.size+1,4,none⟩=some (.slice (some ⟨b,off,none⟩) d.to.length c)/\W.cell? ⟨b,off+k*3,none⟩=some (.string nm)/\W.cell? ⟨MB,0,none⟩=some (.int .i64 mo.num)/\W.cell? ⟨MB,1,none⟩=some (.int .i64 mo.den) from⟨(BV W h),(J7 W h),(zah h r9).trans m0,(zah h r9).trans m1⟩));clear hx mJ bf hs;refine zaC 8 (fun bb w'=>bb=true\/(w'.cell? ⟨w.heap.size+1,4,none⟩=some (.slice (some ⟨b,off,none⟩) d.to.length c)/\w'.cell? ⟨b,off+k*3,none⟩=some (.string nm)/\w'.cell? ⟨MB,0,none⟩=some (.int .i64 mo.num)/\w'.cell? ⟨MB,1,none⟩=some (.int .i64 mo.den))) Mco (.inr (aG.o _ (zaH (Below.refl _ _)))) ?hrest
      case hrest=>
       intro hHeld;refine TkM 0 ?_;refine TkM 1 ?_;refine TkM 2 ?_;refine TkM 3 ?_;refine TkM 4 ?_;refine TkM 5 ?_;refine TkM 6 ?_;refine TkM 7 ?_;refine OnM 8 true fun K hK=> ?_
       go_simp
       refine(eD.o _ (zaH ee.o)).mono ?_;rintro e w10 ⟨v10,rfl,o10,b10⟩;refine NxM hK fun hHeld=> ?_
       clear hK K;refine OnM 9 true fun K hK=> ?_
       go_simp
       refine NxM hK fun hHeld=> ?_
       clear hK K;refine zaN Mco ?_ _;clear hHeld;obtain⟨YA,yc,rfl,oV,_⟩:=o10.sl zao;have jp:Below W9.heap.size W9 w10:=(zaH (Below.refl _ _)).trans b10;have mf:=qg.o.trans (jp.mono (by have:=qg.o.size;omega));have Aw:=zHi (ee.o.trans (jp.mono BU));have uj:=zHi mf;have nU:=zHi (o10.base_le (show W6.heap.size<=W9.drew.heap.size by have:=ee.o.size;have:=HB.o.size;have:=vm;show W6.heap.size<=W9.heap.size;omega));have cL:=zHi (fun W (h:Below w10.heap.size w10 W)=>zdI (za4 out nm mo) YA yc W (by have:=am.o;omega) (oV.keep h));have IT:=jp.size;clear o10 b10 oV jp m0 m1 r9;clear xs0 xd0 xr0 s0 s1 s2 s3 s4 s5 s6 d0 d1 d2 d3 d4 d5 d6 r0 r1 r2 r3 r4 r5 r6 rf ls ld lr;obtain⟨⟨xs0,xd0,xr0⟩,⟨s0,s1,s2,s3,s4,s5,s6⟩,⟨d0,d1,d2,d3,d4,d5,d6⟩,⟨r0,r1,r2,r3,r4,r5,r6⟩,rf,ls,ld,lr⟩:=ddF (ax.o w10 (mf));clear mf;have hx:=eS.o;cases hlg:zaF (za4 out nm mo)
       ·rw[hlg]at hx cL;have aD:=zHi (ig.o hlg);have kn:Hid (R=tpRes s i x.g (zb8 sh (l0.drop (k+1)) (za4 out nm mo))):=by show _=_;rw[hx,if_neg Mcq]
        clear hx hlg;generalize za4 out nm mo=out1 at*;go_wp2_with (go_at_call 90;go_must(refine(cL.o _ Bw).mono ?_);rintro e wq ⟨rfl,rfl⟩)
        go_round
        case rel=>exact⟨k+1,out1,am.o,by go_num,kn,aD,by omega,nU.o,HB.o.trans (Aw.o.mono aE)⟩
        case measure=>have:=am.o;simp only[intOf];omega
       ·rw[hlg]at hx cL;have HE:Hid (R=(s,8)):=by show _=_;rw[hx,if_pos rfl];rfl
        clear hx hlg;generalize za4 out nm mo=out1 at*;go_upto_region 26 with(go_at_call 90;go_must(refine(cL.o _ Bw).mono ?_);rintro e wq ⟨rfl,rfl⟩)
        have bf:=uj.o;exact Mg
    ·have ar: ¬(k:Int)<(d.to.length:Int):=Mcn;have hx:=HX.o;rw[List.drop_of_length_le (by have:=B7.o;omega)]at hx;have HE:Hid (R=(s.withGrave i {x.g with holders:=out},0)):=Md7;obtain⟨VB,vd,rfl,_,_⟩:=ae.sl zao;have g3f:=frz iw;have lF:=zHi iw;clear ae aa hB D7 hx;go_upto_region 28 with fail
     obtain⟨W8,we⟩: ∃W8,W8=wr.setCell ⟨GB,3,none⟩ (.slice VB out.length vd):=⟨_,rfl⟩
     have gG6:W8.heap[GB]?=some (.cells #[.string x.g.place, .int .i64 x.g.cls, .int .i64 x.g.fin, .slice VB out.length vd, .slice x.D x.g.died.length x.dc] 49):=by
      rw[we];have:=Joins.block_setCell (i:=3) lF.o (.slice VB out.length vd);simpa using this
     have lW:Below W0.heap.size W0 W8:=by rw[we];exact zaM aW.o iQ _
     have pO:OwnS W8 W6.heap.size 75 3 zaa (.slice VB out.length vd) out:=by rw[we];exact HO.o.kept (zaz _ _ _ _) lF.o Mcp
     rw[<-we];clear we g0 g1 g2 g3 g4 g3f q0 q1 iw;clear xs0 xd0 xr0 s0 s1 s2 s3 s4 s5 s6 d0 d1 d2 d3 d4 d5 d6 r0 r1 r2 r3 r4 r5 r6 rf ls ld lr;obtain⟨g0,g1,g2,g3,g4⟩:=zef gG6;have bG:=zab gG6;have lU:=lW.size;obtain⟨⟨xs0,xd0,xr0⟩,⟨s0,s1,s2,s3,s4,s5,s6⟩,⟨d0,d1,d2,d3,d4,d5,d6⟩,⟨r0,r1,r2,r3,r4,r5,r6⟩,rf,ls,ld,lr⟩:=ddF (ax.o W8 (lW));have lS:=zHi (qP.o ({g:= {x.g with holders:=out},H:=VB,hc:=vd,D:=x.D,dc:=x.dc}:GX) W8 lW);unfold GX.cells zgO at lS;dsimp only at lS;have bV:=zHi lW;have lJ:=zHi pO;clear lW pO gG6
     go_wp2_with (go_at_call 235
                  go_must(refine(lS.o).mono ?_)
                  rintro e w5 ⟨ga,go,gc,rfl,bh,aq⟩;have bj:=bV.o.trans (aq.mono lU);obtain⟨_,_,xr5⟩:=ax.o w5 bj;obtain⟨t0,t1,t2,t3,t4,t5,t6⟩:=zaG xr5;have tf:=frz xr5;have bW:=zHi bh;have bT:=zHi bj;have lm:=zHi aq
                  clear bh aq bj)
     rw[HE.o];refine bodyPost_ret (zbB rfl _ rfl rfl (zc0 xr5)) rfl ?_;have dh:=zc9 (a0:= .slice LA laws.length c0) (a1:= .slice CA s.children.length c1) (a2:= .slice MA s.marriages.length c2) (a3:= .slice DA s.dead.length c3) (a4:= .slice WA wd.length c4) (a5:= .slice RA rd.length c5) (a6:= .slice (some ⟨ga,go,none⟩) s.graves.length gc) (ak.o.trans (bT.o.mono aw)) (show w.heap.size<=w.heap.size+2 by omega);obtain⟨A',c',mu,_,eb⟩:=lJ.o.ro;obtain⟨rfl,_,rfl⟩:VB=A'/\out.length=out.length/\vd=c':=by simpa using mu
     exact⟨_,_,_,_,_,_,_,rfl,rfl,dh,fun _=>km.o ({g:= {x.g with holders:=out},H:=VB,hc:=vd,D:=x.D,dc:=x.dc}:GX) _ ga go gc (H.o w (Below.refl _ _)) HK.o dh (bW.o.ne7 (zmq bW.o xr5 Mcp)) ⟨(zjh (eb.keep lm.o) xr5 Mcp).sl zao,(jM.keep dh).2⟩⟩
end Go.Proofs.YtjhbofabmpfniaaGreatDoor

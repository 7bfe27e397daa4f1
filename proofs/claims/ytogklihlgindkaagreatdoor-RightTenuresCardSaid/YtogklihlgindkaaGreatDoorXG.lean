import Derived.Test.YtogklihlgindkaaGreatDoorXA
set_option linter.all false
set_option maxRecDepth 100000
set_option maxHeartbeats 4000000
namespace Go.Proofs.YtogklihlgindkaaGreatDoor
open Go.RowKit Go.Shelf
attribute [local go_sem] World.cell?_alloc_mark zaf za3 zam za6 zat zau zav zaw zax zay zaz
attribute [local go_sem] zao zac
variable{q:Rat}
def zcB{n:Nat}(h0:0<n)(h1:n<=1000000000)(h:IsN n q)(h2:0<=q)(h3:q<=1):zaJ q:=zca h2 h3 (by
 have:=zkw h0 h;unfold bigQ;simp
 omega)
variable{k:Nat}
def wrap_m(h:k<=1000):wrap64 ((k:Int)-1)=(k:Int)-1:=by
 unfold wrap64;omega
def zge(wd:List Deed)(n:ByteArray):List RPart:=((wd.reverse.find? λd=>zae d.frm n).map (·.to)).getD []
variable{wd:List Deed}
def zjk{s:St}{rd:List Deed}(h:StLink s wd rd)(n:ByteArray):zbv s n=zaq (zge wd n):=by
 unfold zbv zge;rw[h.wills,<-List.map_reverse,List.find?_map];have e:((λw:ByteArray×Parts=>zae w.1 n)∘λd:Deed=>(d.frm,zaq d.to))=λd:Deed=>zae d.frm n:=rfl
 rw[e];cases wd.reverse.find? λd=>zae d.frm n<;>rfl
variable{n:ByteArray}
def zpG(h:k<wd.length):zge (wd.take (k+1)) n=if zae wd[k].frm n then wd[k].to else zge (wd.take k) n:=by
 unfold zge;rw[List.take_add_one,List.getElem?_eq_getElem h];simp only[Option.toList_some,List.reverse_append,List.reverse_singleton,List.singleton_append,List.find?_cons];cases zae wd[k].frm n<;>rfl
variable{out:Parts}{rest:Rat}
def own_key{law:Law}(sp:ByteArray)(hl:za8 16 law.num law.den=true)(g1:GoodParts out)(g2:∀p∈out,IsN 720720 p.2)(g3:IsN 720720 rest)(g4:0<=rest)(g5:rest<=1):
 0<=rest*Rat.divInt law.num law.den/\rest*Rat.divInt law.num law.den<=rest/\GoodParts (za5 out sp (rest*Rat.divInt law.num law.den))/\zaE (za5 out sp (rest*Rat.divInt law.num law.den))=false/\
  zaJ (rest*Rat.divInt law.num law.den)/\zaJ (rest-rest*Rat.divInt law.num law.den):=by
 obtain⟨_,_,l1,l2⟩:=zbl hl;have hd:za8 16 law.num law.den=true:=hl;have h1:0<=rest*Rat.divInt law.num law.den:=Rat.mul_nonneg g4 l1;have h2:rest*Rat.divInt law.num law.den<=rest:=by
  have:=Rat.mul_le_mul_of_nonneg_left l2 g4;grind
 have kN:∃d:Nat,0<d/\d<=16/\IsN d (Rat.divInt law.num law.den):=by
  exact Mad
 obtain⟨d,d0,d1,DN⟩:=kN;have hN:=zku g3 DN;exact⟨h1,h2,zby h1 g1,zc8 (n:=720720*d) McS McS (zcI hN λp hp=>zlt (g2 p hp)),zcB (n:=720720*d) McS McS hN h1 Mdl,zcB (n:=720720*d) McS McS (zgZ (zlt g3) hN) Mdl Mdl⟩
structure WillSt (out:Parts) (rest:Rat) (l:Parts) (L:List ByteArray):Prop where
 good:GoodParts out
 isN:∀p∈out,IsN 720720 p.2
 rN:IsN 720720 rest
 names:zck out L
 sum:sumQ out+rest=1
 left:sumQ l<=rest
 pos:∀p∈l,0<p.2
 lN:∀p∈l,IsN 720720 p.2
variable{l:Parts}{L:List ByteArray}
def WillSt.bounds(h:WillSt out rest l L):0<=rest/\rest<=1/\0<=sumQ out/\sumQ out<=1/\zaJ rest/\zaE out=false:=by
 have h1:0<=sumQ l:=zbq λp hp=>by have:=h.pos p hp;grind
 have h2:0<=sumQ out:=zbq λp hp=>by have:=h.good.pos p hp;grind
 have h3:=h.left;have h4:=h.sum;have h5:0<=rest:=Mdl;have h6:rest<=1:=Mdl;exact⟨h5,h6,h2,by grind,zcB McU McU h.rN h5 h6,zc8 McU McU h.isN⟩
def WillSt.hd(h:WillSt out rest l L):Hd out L:=⟨h.good,h.bounds.2.2.2.2.2,h.names⟩
def WillSt.give(h:WillSt out rest ((n,q)::l) L)(hn:n∈L):WillSt (za5 out n q) (rest-q) l L:=by
 have hq:=h.pos (n,q) McV;have hN:=h.lN (n,q) McV;have hs:=h.left;rw[sumQ]at hs;simp only at hq hN hs;exact⟨zby Mdl h.good,zcI hN h.isN,zgZ h.rN hN,zji h.names hn,by rw[zbW];have:=h.sum;grind,by grind,λp hp=>h.pos p MdQ,λp hp=>h.lN p MdQ⟩
def WillSt.skip{x:ByteArray×Rat}(h:WillSt out rest (x::l) L):WillSt out rest l L:=by
 have hq:=h.pos x McV;have hs:=h.left;rw[sumQ]at hs;exact⟨h.good,h.isN,h.rN,h.names,h.sum,by grind,λp hp=>h.pos p MdQ,λp hp=>h.lN p MdQ⟩
def zla(w:World)(R:Option Parts)(e:Ending)(w':World):Prop:=
 ∃(A:Option Addr) (c:Nat) (xs:Parts) (b:Bool),e=.returned (.tuple #[.slice A xs.length c,.bool b])/\Sl w' 3 zaa A xs/\Qa w w'/\xs.length<=100000/\((R=some xs/\b=false)\/(R=none/\b=true))
def znJ(laws:List Law)(s:St)(wd rd:List Deed)(LA CA MA DA WA RA GA:Option Addr)(c0 c1 c2 c3 c4 c5 c6:Nat)(n:ByteArray)(day:Int)(w:World)(h:StIn w laws s wd rd LA CA MA DA WA RA GA c0 c1 c2 c3 c4 c5 c6)(hk:StLink s wd rd)(hf:StFew s wd rd)(bH:zaC laws=0)(hW:WillOk (zbv s n))(lF:∀a,¬Desc s a a)(cK:(zbv s n).length<=8):
 Calls Tryz.prog 172 #[.agg #[.slice LA laws.length c0,.slice CA s.children.length c1,.slice MA s.marriages.length c2,.slice DA s.dead.length c3,.slice WA wd.length c4,.slice RA rd.length c5,.slice GA s.graves.length c6],.string n,.int .i64 day] w (zla w (zcM s (zbc laws day) n)):=by
 have xX:laws.length<=10:=by
  unfold zaC at bH;split at bH
  ·cases bH
  ·rename_i h1;simpa using h1
 have rl:=zHi (λW (hB:Qa w W)=>zp9 laws LA c0 day W xX (h.laws.keep hB));have bS:=zfc bH day;obtain⟨R,hR⟩:=Qd (zcM s (zbc laws day) n)
 rw[<-hR];unfold Law.v at rl;generalize zbc laws day=law at*;obtain⟨L,hL⟩:∃L:List ByteArray,L=(zge wd n).map (·.name)++s.children.map (·.2)++[zaK s n,⟨#[]⟩]:=⟨_,rfl⟩
 have Gq:∀p∈zge wd n,p.name∈L:=λp hp=>by rw[hL];exact List.mem_append_left _ (List.mem_append_left _ (List.mem_map_of_mem hp))
 have Gm:∀c∈s.children,c.2∈L:=λc hc=>by rw[hL];exact List.mem_append_left _ (List.mem_append_right _ (List.mem_map_of_mem hc))
 have Gp:zaK s n∈L:=by rw[hL];exact List.mem_append_right _ McV
 have wG:(⟨#[]⟩:ByteArray)∈L:=by rw[hL];exact List.mem_append_right _ McV
 have yj:(zge wd n).length<=8:=by
  have:=cK;rw[zjk hk]at this;simpa[zaq]using this
 have um:L.length<=90000:=by
  rw[hL];have:=hf.kids;simp;omega
 have yg:∀p∈zge wd n,za8 16 p.num p.den=true:=by
  unfold zge;intro p hp;cases oZ:wd.reverse.find? λd=>zae d.frm n with
  |none=>rw[oZ]at hp;simp at hp
  |some d=>
   rw[oZ]at hp;exact hk.shares d (by have:=List.mem_of_find?_eq_some oZ;simpa using this) p hp
 obtain⟨dh,rC,fP,jw,rI⟩:=yH5 (λW (hB:Qa w W)=>zht laws s wd rd LA CA MA DA WA RA GA c0 c1 c2 c3 c4 c5 c6 law n hk hf (zaX s) n W (h.keep hB) (zkK lF n)) (λshare A c out W (hB:Qa w W)=>zjj laws s wd rd LA CA MA DA WA RA GA c0 c1 c2 c3 c4 c5 c6 law n L hk hf Gm um (zaX s) n share A c out W (h.keep hB) (zkK lF n)) (λx W (hB:Qa w W)=>sAble x n W (h.keep hB) hk hf) (λW (hB:Qa w W)=>sSpouse n W (h.keep hB) hf) (λW (hB:Qa w W)=>h.wills.keep zbS hB);have g9:=zgJ s law.stems n (zaX s) n;rw[zjk hk]at hW;have Cr:Hid (WillSt [] 1 (zaq (zge wd n)) L):=zHi ⟨zd9,by simp,zha _,λp hp=>by(cases hp),by simp[sumQ];grind,hW.le,hW.pos,hW.isN⟩;unfold zcM at hR;rw[zjk hk]at hR;obtain⟨Z,hZ⟩:=Qd (zcq s n (zaq (zge wd n)) [] 1)
 rw[<-hZ]at hR;obtain⟨HZ,HR,BW,eM,jv,cG,wg,mz⟩:=yH8 hZ hR yg Gq bS (show LA=LA/\zaK s n∈L/\(⟨#[]⟩:ByteArray)∈L/\L.length<=90000 from⟨rfl,Gp,wG,um⟩) yj g9;have qZ:=zHi hf.wills;unfold Law.v at dh rC;unfold zaA at rC;unfold zla;clear bH hW lF cK xX bS hR hL Gq Gm Gp wG yj um yg g9 hZ h hf hk;generalize zd6 s law.stems n (zaX s) n=ls at*;generalize zb6 s law.stems n (zaX s) n=T at*;generalize pm:zge wd n=lw at*;have BV:=zHi pm.symm;clear pm;go_enter Tryz.func172,Tryz.ntmps172
 go_upto_block 0 with(first
  |(go_at_call 187;go_must(refine(rl.o _ Bw).mono ?_);rintro e wq ⟨rfl,z1,rfl⟩)
  |(go_at_call 129;go_must(refine(zhY _).mono ?_);rintro e wq ⟨rfl,z2,rfl⟩))
 obtain⟨LB,uk⟩:=Qd (w.heap.size+1+z1.os.size)
 obtain⟨QB,s8⟩:=Qd (LB+1+z2.os.size)
 obtain⟨W2,cN⟩:=Qd (((((w.alloc (.cells #[.slice LA laws.length c0,.slice CA s.children.length c1,.slice MA s.marriages.length c2,.slice DA s.dead.length c3,.slice WA wd.length c4,.slice RA rd.length c5,.slice GA s.graves.length c6] 86)).ext z1).alloc (.cells #[.int .i64 law.frm,.bool law.stems,.int .i64 law.num,.int .i64 law.den] 94)).ext z2).alloc (.cells #[.int .i64 1,.int .i64 1] 50))
 have g0:W2.heap[w.heap.size]?=some (.cells #[.slice LA laws.length c0,.slice CA s.children.length c1,.slice MA s.marriages.length c2,.slice DA s.dead.length c3,.slice WA wd.length c4,.slice RA rd.length c5,.slice GA s.graves.length c6] 86):=by rw[cN];exact zal (zbF (zal (zbF (zas _ _ _ rfl))))
 have g1:W2.heap[LB]?=some (.cells #[.int .i64 law.frm,.bool law.stems,.int .i64 law.num,.int .i64 law.den] 94):=by rw[cN];exact zal (zbF (zas _ _ _ (by rw[uk];simp[zaf])))
 have g2:W2.heap[QB]?=some (.cells #[.int .i64 ((1:Rat)).num,.int .i64 ((1:Rat)).den] 50):=by rw[cN];exact zas _ _ _ (by rw[s8,uk];simp[zaf])
 have bV:Qa w W2:=by rw[cN];exact Bw
 rw[<-cN,<-uk,<-s8];have fO:w.heap.size<LB:=McS;have cJ:LB<QB:=McS;have eT:=zab g2;obtain⟨aN,ik⟩:=yH2 bV g2
 have av:=zHi (λW (hB:Below QB W2 W)=>(show(W.cell? ⟨w.heap.size,0,none⟩=some (.slice LA laws.length c0)/\W.cell? ⟨w.heap.size,1,none⟩=some (.slice CA s.children.length c1)/\W.cell? ⟨w.heap.size,2,none⟩=some (.slice MA s.marriages.length c2)/\W.cell? ⟨w.heap.size,3,none⟩=some (.slice DA s.dead.length c3)/\W.cell? ⟨w.heap.size,4,none⟩=some (.slice WA wd.length c4)/\W.cell? ⟨w.heap.size,5,none⟩=some (.slice RA rd.length c5)/\W.cell? ⟨w.heap.size,6,none⟩=some (.slice GA s.graves.length c6))/\(W.cell? ⟨LB,0,none⟩=some (.int .i64 law.frm)/\W.cell? ⟨LB,1,none⟩=some (.bool law.stems)/\W.cell? ⟨LB,2,none⟩=some (.int .i64 law.num)/\W.cell? ⟨LB,3,none⟩=some (.int .i64 law.den)) from by
  have x0:=(hB.block _ McS).trans g0;have x1:=(hB.block _ cJ).trans g1
  refine⟨zaG x0,?_,?_,?_,?_⟩<;>(simp only[World.cell?,x1];rfl)))
 clear cN uk s8 g0 g1 g2 bV rl;obtain⟨⟨d0,d1,d2,d3,d4,d5,d6⟩,e0,e1,e2,e3⟩:=av.o W2 Qb;have sN:=qZ.o;go_cut [10,11,12,13]from 25 to 71 (λv10 _ _ _ wc=>∃(YA:Option Addr) (yc:Nat) (ys:Parts) (q:Rat),v10=.slice YA ys.length yc/\Hid (Z=(ys,q))/\Hid (WillSt ys q [] L)/\Sl wc 3 zaa YA ys/\wc.heap[QB]?=some (.cells #[.int .i64 (q).num,.int .i64 (q).den] 50)/\Below QB W2 wc)
 case first=>
  go_wp2_with fail
  go_loopw [10,11,12,13] (λv10 v11 _ _ wr=>∃(j:Nat) (i:Int),j<=wd.length/\v10=.slice none 0 0/\v11=.int .i64 i/\i=(j:Int)-1/\Hid (lw=zge (wd.take j) n)/\W2=wr) (λ_ v11 _ _ _=>(intOf v11+1).toNat)
  case atStart=>exact⟨wd.length,(wd.length:Int)-1,Qc,rfl,by first|go_num|rw[wrap_m sN],rfl,zHi (by rw[List.take_length];exact BV.o),rfl⟩
  case round=>
   obtain⟨j,i,hj,rfl,rfl,hi,HJ,rfl⟩:=hrel;cases j with
   |zero=>
    have qm:i= -1:=McS;subst qm;have sZ:lw=[]:=by rw[HJ.o,List.take_zero];rfl
    have Cx:Hid (Z=([],1)):=by show _=_;rw[HZ.o,sZ];rfl
    have JK:Hid (WillSt [] 1 [] L):=by have:=Cr;rw[sZ]at this;exact this
    clear sZ hi;go_wp2_with fail
    go_meet
    exact⟨none,0,[],1,rfl,Cx,JK,Sl.nil,ik.o,Qb⟩
   |succ m=>
    have qm:i=(m:Int):=McS;subst qm;obtain⟨b,off,cs,hA,hb,⟨B,c,hc,rfl,hP⟩,ah⟩:=(rI.o w Qb).at (k:=m) hj;have aq:=HJ.o;rw[zpG hj]at aq;generalize wd[m]=x at*;subst hA;have bn:b<W2.heap.size:=Nat.lt_of_lt_of_le hb aN.o.size;have i3:W2.cell? ⟨b,off+m*7+3,none⟩=some (.string x.frm):=(zai aN.o hb).trans (ah 3 _ rfl);have i4:w.cell? ⟨b,off+m*7+4,none⟩=some (.slice B x.to.length c):=ah 4 _ rfl;have iw:(m:Int)<(wd.length:Int):=McS;have nv:(0:Int)<=(m:Int):=McS;obtain⟨Jg,HP⟩:=yH2 hj hP;obtain⟨kd,dy,pl,fr,ts,cl,yr⟩:=x;simp only at i3 i4 hc aq HP;clear ah hi hj hP;cases hs:zae fr n
    ·have bi:(fr.toList==n.toList)=false:=hs;have aK:Hid (lw=zge (wd.take m) n):=by show _=_;rw[aq,hs];rfl
     clear aq hs;go_wp2_with fail
     go_round
     case rel=>exact⟨m,(m:Int)-1,by have:=Jg.o;omega,rfl,by go_num,rfl,aK,by first|exact True.intro|rfl⟩
     case measure=>simp only[intOf];omega
    ·have bi:(fr.toList==n.toList)=true:=hs;have Em:ts=lw:=by rw[aq,hs];rfl
     clear aq hs;subst Em;have hts:ts.length<=8:=wg.o;go_upto_region 9 with fail
     go_loopw [10,12,13] (λv10 v12 _ wr=>∃(k:Nat) (ys:Parts) (q:Rat),k<=ts.length/\v12=.int .i64 k/\Hid (Z=zcq s n (zaq (ts.drop k)) ys q)/\Hid (WillSt ys q (zaq (ts.drop k)) L)/\OwnS wr QB 55 3 zaa v10 ys/\wr.heap[QB]?=some (.cells #[.int .i64 (q).num,.int .i64 (q).den] 50)/\Below QB W2 wr) (λ_ v12 _ _=>ts.length-(intOf v12).toNat)
     case atStart=>exact⟨0,[],1,Nat.zero_le _,rfl,HZ,Cr,OwnS.nil,ik.o,Qb⟩
     case round=>
      obtain⟨k,ys,q,hk,rfl,HX,FE,aa,hQ,hB⟩:=hrel;obtain⟨YA,yc,rfl,sm,uR⟩:=aa.sl zak;have fK:Qa w wr:=aN.o.trans (hB.mono McS);have aM:=fK.size;have Ib:=zab hQ;obtain⟨⟨d0,d1,d2,d3,d4,d5,d6⟩,e0,e1,e2,e3⟩:=av.o wr hB;have j4:wr.cell? ⟨b,off+m*7+4,none⟩=some (.slice B ts.length c):=(zai fK hb).trans i4;obtain⟨bk,HB,cR⟩:=yH3 fK hB aa;by_cases ae:k<ts.length
      ·obtain⟨pb,po,mJ,hpb,pD⟩:=(HP.o.keep fK).at ae;have hx:=HX.o;have kW:=FE.o;have i8:zaq (ts.drop k)=(ts[k].name,ts[k].rat)::zaq (ts.drop (k+1)):=by rw[List.drop_eq_getElem_cons ae];rfl
       rw[i8,zcq]at hx;rw[i8]at kW;have kR:=BW.o _ (List.getElem_mem ae);have pA:=eM.o _ (List.getElem_mem ae);have aj:=zHi ae;generalize ts[k]=x at*;obtain⟨nm,nu,de⟩:=x;simp only at kR pA hx kW;subst mJ;have p0:wr.cell? ⟨pb,po+k*3,none⟩=some (.string nm):=pD 0 _ rfl;have p1:wr.cell? ⟨pb,po+k*3+1,none⟩=some (.int .i64 nu):=pD 1 _ rfl;have p2:wr.cell? ⟨pb,po+k*3+2,none⟩=some (.int .i64 de):=pD 2 _ rfl;have au:(k:Int)<(ts.length:Int):=McS;have aR:(0:Int)<=(k:Int):=McS;have nF:(⟨nm,nu,de⟩:RPart).rat=Rat.divInt nu de:=rfl;rw[nF]at hx kW;obtain⟨r1,r2,r3,r4⟩:=zbl kR;have Ba:=zcB McU McU (zes kR) r3 r4;obtain⟨b1,b2,b3,b4,b5,b6⟩:=kW.bounds;generalize Rat.divInt nu de=r at*;have cX:=zgL kW.good kW.names;obtain⟨eK,eY⟩:=yH2 (λW (hW:Qa wr W)=>zcW ys nm r YA yc W (by have:=cG.o.2.2.2;omega) (kW.hd.parts b4) Ba (sm.keep hW)) (λW=>zhU q r W b5 Ba);unfold zaA at eK eY;rw[r1,r2]at eK eY;obtain⟨kX,aw,oO,C4⟩:=yH4 (λW (hW:Qa wr W)=>fP.o nm W (bk.o.trans (hW.mono aM))) hx kW pA;have hqB:QB<wr.heap.size:=Ib;have HQ:=zHi hQ;clear pD hx kW i8 kR pA nF r1 r2 r3 r4 Ba b1 b2 b3 b4 b5 b6 cX aa sm hB fK ae hQ;go_upto_region 12 with fail
       obtain⟨WP,AI⟩:=Qd (wr.alloc (.cells #[.string nm,.int .i64 nu,.int .i64 de] 55))
       have gP:WP.heap[wr.heap.size]?=some (.cells #[.string nm,.int .i64 nu,.int .i64 de] 55):=by rw[AI];exact zas _ _ _ rfl
       have wt:Qa wr WP:=by rw[AI];exact Bw
       rw[<-AI];have tJ:=zHi wt;have eG:=wt.size;have kn:=zab gP;obtain⟨s0,s1,s2⟩:WP.cell? ⟨wr.heap.size,0,none⟩=some (.string nm)/\WP.cell? ⟨wr.heap.size,1,none⟩=some (.int .i64 nu)/\WP.cell? ⟨wr.heap.size,2,none⟩=some (.int .i64 de):=by
        simp only[World.cell?,gP];exact⟨rfl,rfl,rfl⟩
       obtain⟨⟨x0,x1,x2,x3,x4,x5,x6⟩,_⟩:=av.o WP (HB.o.trans (wt.mono McS));have hqW:QB<WP.heap.size:=McS;obtain⟨GQ,GP⟩:=yH2 ((wt.block _ Ib).trans HQ.o) gP;clear AI gP wt d0 d1 d2 d3 d4 d5 d6 e0 e1 e2 e3 j4 p0 p1 p2;cases bL:zdY s nm n
       ·rw[bL]at kX aw;have du:Hid (Z=zcq s n (zaq (ts.drop (k+1))) ys q):=Mea;clear bL;go_wp2_with (go_at_call 188;go_must(refine(kX.o _ (by have:=tJ.o;exact Bw)).mono ?_);rintro e wq ⟨rfl,z,rfl⟩)
        go_round
        case rel=>exact⟨k+1,ys,q,aj.o,by go_num,du,zHi oO.o.skip,(cR.o.keep tJ.o).keep (n:=WP.heap.size) (zan WP z),zbF GQ.o,zb2 (HB.o.trans (tJ.o.mono McS)) z⟩
        case measure=>have:=aj.o;simp only[intOf];omega
       ·rw[bL]at kX aw;have du:Hid (Z=zcq s n (zaq (ts.drop (k+1))) (za5 ys nm r) (q-r)):=Mea;have Cs:=zHi (oO.o.give C4.o);clear bL
        go_upto_region 14 with(first
         |(go_at_call 188;go_must(refine(kX.o _ (by have:=tJ.o;exact Bw)).mono ?_);rintro e wq ⟨rfl,z,rfl⟩)
         |(go_at_call 160;go_must(refine(eK.o _ (by have:=tJ.o;exact Bw)).mono ?_);rintro e w5 ⟨v5,rfl,o5,b5⟩))
        obtain⟨YB,yd,rfl,_,_⟩:=o5.sl zak;have Bc:=b5.size;have ud:=(b5.block QB Mc1).trans (zbF (z:=z) GQ.o);have CB:=(b5.block wr.heap.size Mc1).trans (zbF (z:=z) GP.o);have bf:=zHi (HB.o.trans ((zb2 tJ.o z |>.trans (b5.mono Mc1)).mono McS));have ll:=zHi (o5.base_le (show QB<=(WP.ext z).heap.size by simp[zaf];omega));have h5l:=zab CB;have h5m:=zab ud;obtain⟨y0,y1⟩:=zbx ud;have f0:=frz ud;obtain⟨-,s1,s2⟩:=cF3 CB;clear o5 b5 CB Bc;go_wp2_with (go_at_call 164;go_must(refine(eY.o _).mono ?_);rintro e wq ⟨rfl,z5,rfl⟩)
        go_round
        case rel=>exact⟨k+1,za5 ys nm r,q-r,aj.o,by go_num,du,Cs,((ll.o.kept (za1 _ _ _ _) ud McU).kept (za1 _ _ _ _) (Joins.block_setCell (i:=0) ud _) McU).keep (zan _ z5),zbF (zer ud),zb2 (zaS (zaS bf.o Qc _) Qc _) z5⟩
        case measure=>have:=aj.o;simp only[intOf];omega
      ·have au:¬(k:Int)<(ts.length:Int):=McS;have hx:=HX.o;have kW:=FE.o;rw[List.drop_of_length_le McS]at hx kW;have aw:Hid (Z=(ys,q)):=Mex;obtain⟨oO,rM,HQ⟩:=yH3 kW sm hQ;clear hx kW aa sm hQ hB fK;go_wp2_with fail
       go_meet
       exact⟨YA,yc,ys,q,rfl,aw,oO,rM.o,HQ.o,HB.o⟩
 case rest=>
  obtain⟨YA,yc,ys,q,rfl,JQ,mG,hY,hQ,hB⟩:=hcut;clear d0 d1 d2 d3 d4 d5 d6 e0 e1 e2 e3;have hr:=HR.o;rw[JQ.o]at hr;simp only at hr;obtain⟨b1,b2,b3,b4,b5,b6⟩:=mG.o.bounds;have kp:=zgL mG.o.good mG.o.names;have tH:ys.length<=90000:=by have:=cG.o.2.2.2;omega
  have fK:Qa w wc:=aN.o.trans (hB.mono McS);obtain⟨q0,q1⟩:=zbx hQ;have EC:=zab hQ;obtain⟨GK,kH,bk⟩:=yH3 hY tH fK;by_cases hqz:q=0
  ·have EE:(q.num==0)=true:=by rw[hqz];rfl
   have cn:Hid (R=some ys):=by show _=_;rw[hr,if_pos (by simpa using hqz)]
   clear hr hqz b1 b2 b3 b4 b5 b6 kp tH hB hY fK;go_wp2_with fail
   go_ret2
   exact⟨YA,yc,ys,false,rfl,GK.o,bk.o,by have:=kH.o;omega,.inl ⟨cn.o,rfl⟩⟩
  ·have EE:(q.num==0)=false:=by
    have:q.num≠0:=λe=>hqz (Rat.num_eq_zero.1 e)
    simpa using this
   rw[if_neg (by simpa using hqz)]at hr;obtain⟨sp,cw⟩:∃sp,sp=if zdY s (zaK s n) n then zaK s n else⟨#[]⟩:=⟨_,rfl⟩
   rw[<-cw]at hr;have zn:sp∈L:=by
    rw[cw];split
    ·exact cG.o.2.1
    ·exact cG.o.2.2.1
   obtain⟨ja,aL,bK,Ck,Cj,bZ,kX⟩:=yH7 hB (show 0<=q/\q<=1/\zaJ q from⟨b1,b2,b5⟩) hr zn cw (λW (hW:Qa wc W)=>jw.o W (fK.trans (hW.mono fK.size))) (λx W (hW:Qa wc W)=>fP.o x W (fK.trans (hW.mono fK.size)));obtain⟨⟨d0,d1,d2,d3,d4,d5,d6⟩,e0,e1,e2,e3⟩:=av.o wc hB;have Nf:w.heap.size<wc.heap.size:=McS;have Ng:LB<wc.heap.size:=McS;have HQ:=zHi hQ;clear hr hqz b1 b2 b3 b4 b5 b6 kp tH hB hY fK cw zn hQ;obtain⟨WC,qd⟩:=Qd wc
   subst qd;go_upto_region 18 with(go_at_call 171;go_must(refine(bZ.o _ Bw).mono ?_);rintro e wq ⟨rfl,z3,rfl⟩)
   have kT:=Cj.o;have F5:=zHi (λW hW=>kX.o (zaK s n) W hW);generalize zaK s n=sq at*;go_upto_if 83 with(go_at_call 188;go_must(refine(F5.o _ Bw).mono ?_);rintro e wq ⟨rfl,z4,rfl⟩)
   go_cut [14]from 79 to 84 (λv wc=>v=.string sp/\(WC.ext z3).ext z4=wc)
   case first=>
    cases bL:zdY s sq n
    ·rw[bL]at kT;simp only[Bool.false_eq_true,if_false]at kT;exact MbV
    ·rw[bL]at kT;simp only[if_true]at kT;exact MbV
   case rest=>
    obtain⟨rfl,rfl⟩:=hcut;obtain⟨WD,Dl⟩:=Qd ((WC.ext z3).ext z4)
    have dA:Qa WC WD:=by rw[Dl];exact Bw
    rw[<-Dl];clear Dl d0 d1 d2 d3 d4 d5 d6 e0 e1 e2 e3 q0 q1 kT F5 bZ kX;have KO:=dA.size;have gQ:=(dA.block QB EC).trans HQ.o;have cB:=ja.o.trans (dA.mono McS);have bn:=bk.o.trans (dA.mono bk.o.size);obtain⟨⟨d0,d1,d2,d3,d4,d5,d6⟩,e0,e1,e2,e3⟩:=av.o WD cB;obtain⟨q0,q1⟩:=zbx gQ;have I7:=zab gQ;obtain⟨mA,FJ,dp,rI,lq,GQ⟩:=yH6 (λW (hW:Qa WD W)=>dh.o W (bn.trans (hW.mono bn.size))) (GK.o.keep dA) cB bn (mG.o.hd.parts mG.o.bounds.2.2.2.1) gQ;clear dA gQ cB bn;by_cases hlz:ls.length=0
    ·have cX:((ls.length:Int)==0)=true:=by rw[hlz];rfl
     have cn:Hid (R=some (za5 ys sp q)):=by
      show _=_;have hT:T=[]:=List.eq_nil_of_length_eq_zero (by rw[mz.o];exact hlz);rw[bK.o,hT];rfl
     obtain⟨eK,oE⟩:=yH2 (λW (hW:Qa WD W)=>zcW ys sp q YA yc W (by have:=kH.o;omega) lq.o aL.o.2.2 (FJ.o.keep hW)) (zcz sp q ys);generalize za5 ys sp q=gv at*;unfold zaA at eK;clear hlz;go_upto_region 21 with(go_at_call 189;go_must(refine(mA.o _ Bw).mono ?_);rintro e w6 ⟨v6,rfl,o6,b6⟩;obtain⟨KA,kc,rfl,_,_⟩:=o6.sl zaB;clear o6)
     have rO:=b6.size;have tp:=(b6.block QB I7).trans GQ.o;obtain⟨x0,x1⟩:=zbx tp;have bs:=zHi b6;clear d0 d1 d2 d3 d4 d5 d6 e0 e1 e2 e3 q0 q1 tp b6;go_wp2_with (go_at_call 160;go_must(refine(eK.o _ bs.o).mono ?_);rintro e w7 ⟨v7,rfl,o7,b7⟩;obtain⟨GV,gc,rfl,aI,_⟩:=o7.sl zak;obtain⟨dq,bT⟩:=yH2 aI (bs.o.trans (b7.mono rO));clear o7 b7 aI)
     go_ret2
     exact⟨GV,gc,gv,false,rfl,dq.o,rI.o.trans (bT.o.mono rI.o.size),by have:=kH.o;have:=oE.o;omega,.inl ⟨cn.o,rfl⟩⟩
    ·have cX:((ls.length:Int)==0)=false:=by
      have:(ls.length:Int)≠0:=by omega
      simpa using this
     have hT:¬T.isEmpty=true:=by
      intro e;rw[List.isEmpty_iff]at e;have:=mz.o;rw[e]at this;exact hlz this.symm
     obtain⟨own,out2,aa,cv,yS⟩:∃(own:Rat) (out2:Parts),own=(if noB sp=true then 0 else q*Rat.divInt law.num law.den)/\out2=(if noB sp=true then ys else za5 ys sp own)/\R=if(q-own==0)=true then some out2 else zeL (q-own) T out2:=
      ⟨_,_,rfl,rfl,by
        rw[bK.o,if_neg hT];unfold zeL
        rw[<-zhB]⟩
     obtain⟨k1,k2,k3,k4,k5,k6⟩:=own_key sp jv.o mG.o.good mG.o.isN mG.o.rN aL.o.1 aL.o.2.1
     have BQ:Hid (Hd out2 L/\0<=q-own/\q-own<=1/\zaJ (q-own)/\sumQ out2+(q-own)=1/\out2.length<=90001):=zHi (by
      have dS:=mG.o.sum;cases hn:noB sp
      ·rw[hn]at aa cv;simp only[Bool.false_eq_true,if_false]at aa cv;rw[cv,aa];refine⟨⟨k3,k4,zji mG.o.names Ck.o⟩,by grind,by have:=aL.o.2.1;grind,k6,by rw[zbW];grind,?_⟩;have:=zcz sp (q*Rat.divInt law.num law.den) ys;have:=kH.o;omega
      ·rw[hn]at aa cv;simp only[if_true]at aa cv;rw[cv,aa];have e:q-0=q:=Mdl;rw[e]
       exact⟨mG.o.hd,aL.o.1,aL.o.2.1,aL.o.2.2,dS,by have:=kH.o;omega⟩)
     obtain⟨mE,cR,Fr,vB⟩:=yH4 yS aa cv (show 0<ls.length/\zaJ (q*Rat.divInt law.num law.den) from⟨by omega,k5⟩);clear hlz hT aa cv yS k1 k2 k3 k4 k5 k6;go_upto_region 22 with(go_at_call 189;go_must(refine(mA.o _ Bw).mono ?_);rintro e w6 ⟨v6,rfl,o6,b6⟩;obtain⟨KA,kc,rfl,_,_⟩:=o6.sl zaB;clear o6)
     have rO:=b6.size;have tp:=(b6.block QB I7).trans GQ.o;have sD:=dp.o.trans (b6.mono McS);have GN:=FJ.o.keep b6;clear d0 d1 d2 d3 d4 d5 d6 e0 e1 e2 e3 q0 q1;obtain⟨bs,Ft,FI⟩:=yH3 sD tp GN;have JV:=zab tp;obtain⟨⟨d0,d1,d2,d3,d4,d5,d6⟩,e0,e1,e2,e3⟩:=av.o w6 sD;obtain⟨q0,q1⟩:=zbx tp;have h6l:LB<w6.heap.size:=McS;clear b6 tp sD GN;go_upto_if 96 with fail
     go_cut [10,15]from 95 to 107 (λv10 _ wc=>∃(ZA:Option Addr) (zc:Nat),v10=.slice ZA out2.length zc/\Sl wc 3 zaa ZA out2/\wc.heap[QB]?=some (.cells #[.int .i64 (q-own).num,.int .i64 (q-own).den] 50)/\Below QB W2 wc)
     case first=>
      cases hn:noB sp
      ·have w2:¬sp.toList=[]:=by simpa using(show sp.toList.isEmpty=false from hn)
       have y2:sp.toList.isEmpty=false:=hn;have y3:(!sp.toList.isEmpty)=true:=by rw[y2];rfl
       rw[y3];have aa:=cR.o;have cv:=Fr.o;rw[hn]at aa cv;simp only[Bool.false_eq_true,if_false]at aa cv;obtain⟨r1,r2,r3,r4⟩:=zbl jv.o;have om:=vB.o.2;rw[<-aa]at om;obtain⟨jt,eY,eK⟩:=yH3 (λW=>zg0 q (Rat.divInt law.num law.den) W aL.o.2.2 (zcB McU McU (zes jv.o) r3 r4)) (λW=>zhU q own W aL.o.2.2 om) (λW (hW:Qa w6 W)=>zcW ys sp own YA yc W (by have:=kH.o;omega) lq.o om (FI.o.keep hW));rw[<-aa]at jt;rw[<-cv]at eK;unfold zaA at jt eY eK;rw[r1,r2]at jt;clear hn aa cv r1 r2 r3 r4 om;go_upto_region 24 with(go_at_call 163;go_must(refine(jt.o _).mono ?_);rintro e wq ⟨rfl,z6,rfl⟩)
       obtain⟨OB,kh⟩:=Qd (w6.heap.size+z6.os.size)
       obtain⟨WO,AH⟩:=Qd ((w6.ext z6).alloc (.cells #[.int .i64 (own).num,.int .i64 (own).den] 50))
       have gO:WO.heap[OB]?=some (.cells #[.int .i64 (own).num,.int .i64 (own).den] 50):=by rw[AH];exact zas _ _ _ (by rw[kh];simp[zaf])
       have Dy:Qa w6 WO:=by rw[AH];exact zad (zan w6 z6) _
       rw[<-AH,<-kh];clear AH kh d0 d1 d2 d3 d4 d5 d6 e0 e1 e2 e3 q0 q1;obtain⟨o0,o1⟩:=zbx gO;have Kq:=Dy.size;have wL:=zab gO;obtain⟨Bu,GO⟩:=yH2 Dy gO;clear gO Dy;go_upto_region 25 with(go_at_call 160;go_must(refine(eK.o _ (by have:=Bu.o;exact Bw)).mono ?_);rintro e w7 ⟨v7,rfl,o7,b7⟩)
       obtain⟨GV,gc,rfl,_,_⟩:=o7.sl zak;have FQ:=b7.size;have ue:=(b7.block QB McS).trans ((Bu.o.block QB JV).trans Ft.o);have CD:=(b7.block OB wL).trans GO.o;have bT:=zHi (bs.o.trans ((Bu.o.trans (b7.mono Kq)).mono McS));have vM:=zHi (o7.base_le (show QB<=WO.heap.size by omega));have h7l:=zab CD;have h7m:=zab ue;obtain⟨y0,y1⟩:=zbx ue;obtain⟨y2,y3⟩:=zbx CD;have f0:=frz ue;clear o7 b7 CD o0 o1;go_wp2_with (go_at_call 164;go_must(refine(eY.o _).mono ?_);rintro e wq ⟨rfl,z5,rfl⟩)
       go_meet
       exact⟨GV,gc,rfl,(zja zak (((vM.o.kept (za1 _ _ _ _) ue McU).kept (za1 _ _ _ _) (Joins.block_setCell (i:=0) ue _) McU).keep (zan _ z5))).1,zbF (zer ue),zb2 (zaS (zaS bT.o Qc _) Qc _) z5⟩
      ·have w2:sp.toList=[]:=by simpa using(show sp.toList.isEmpty=true from hn)
       have y2:sp.toList.isEmpty=true:=hn;have y3:(!sp.toList.isEmpty)=false:=by rw[y2];rfl
       rw[y3];have aa:=cR.o;have cv:=Fr.o;rw[hn]at aa cv;simp only[if_true]at aa cv;have tP:Hid (q-own=q/\out2=ys):=zHi ⟨by rw[aa];grind,cv⟩;clear hn aa cv;go_wp2_with fail
       go_meet
       exact⟨YA,yc,by rw[tP.o.2],by rw[tP.o.2];exact FI.o,by rw[tP.o.1];exact Ft.o,bs.o⟩
     case rest=>
      obtain⟨ZA,zc,rfl,Dp,hQ,hB⟩:=hcut;clear d0 d1 d2 d3 d4 d5 d6 e0 e1 e2 e3 q0 q1;obtain⟨kk1,kk2,kk3,kk4,kk5,kk6⟩:=BQ.o;have LU:=zab hQ;have bn:=aN.o.trans (hB.mono McS);obtain⟨Cy,qM⟩:=yH2 Dp bn;have Nh:w.heap.size<wc.heap.size:=McS;have Ni:LB<wc.heap.size:=McS;obtain⟨⟨d0,d1,d2,d3,d4,d5,d6⟩,e0,e1,e2,e3⟩:=av.o wc hB;obtain⟨q0,q1⟩:=zbx hQ;have Jl:=zHi kk6;by_cases hz:q-own=0
      ·have nM:¬(0:Int)<(q-own).num:=by rw[hz];decide
       have cn:Hid (R=some out2):=by show _=_;rw[mE.o,if_pos MdZ]
       have dr:=zHi (λW (hW:Qa wc W)=>zdJ out2 ZA zc W McS (Cy.o.keep hW));rw[kk1.small]at dr;clear hz kk1 kk2 kk3 kk4 kk5 kk6 hB hQ Dp bn;go_wp2_with (go_at_call 165;go_must(refine(dr.o _ Bw).mono ?_);rintro e wq ⟨rfl,rfl⟩)
       go_ret2
       exact⟨ZA,zc,out2,false,rfl,Cy.o,qM.o,by have:=Jl.o;omega,.inl ⟨cn.o,rfl⟩⟩
      ·have Iw:0<q-own:=Mdl;have nM:(0:Int)<(q-own).num:=zkN.1 Iw;have EM:R=zeL (q-own) T out2:=by rw[mE.o,if_neg MdZ]
       have bZ:=zHi (λW (hW:Qa wc W)=>rC.o (q-own) ZA zc out2 W (bn.trans (hW.mono bn.size)) (Cy.o.keep hW) kk1 kk2 kk4 Mdl vB.o.1)
       have zV:Hid (∀xs,R=some xs->zaE xs=false):=zHi (λxs hx=>by
        rw[EM]at hx;unfold zeL at hx;split at hx
        ·cases hx
        ·exact(ze6 (Rat.mul_nonneg kk2 (zhW (by rw[mz.o];exact vB.o.1)).2.2.1) kk1.good kk1.small hx).2)
       rw[<-EM]at bZ;clear hz Iw EM kk1 kk2 kk3 kk4 kk5 kk6 hB hQ Dp bn;go_upto_region 28 with(go_at_call 190;go_must(refine(bZ.o _ Bw).mono ?_);rintro e w8 ⟨XA,xc,xs,rfl,x1,x2,x3,x4⟩)
       obtain⟨dr,kE,aw,du,kF⟩:=yH5 (λW (hW:Qa w8 W)=>zdJ xs XA xc W McS (x1.keep hW)) x1 (qM.o.trans (x2.mono qM.o.size)) x3 x4;clear x1 x2 x3 x4 d0 d1 d2 d3 d4 d5 d6 e0 e1 e2 e3 q0 q1;cases hlg:zaE xs
       ·rw[hlg]at dr;go_wp2_with (go_at_call 165;go_must(refine(dr.o _ Qb).mono ?_);rintro e wq ⟨rfl,rfl⟩)
        go_ret2
        rcases kF.o with h|⟨h1,h2⟩
        ·exact⟨XA,xc,xs,false,rfl,kE.o,aw.o,du.o,.inl ⟨h,rfl⟩⟩
        ·rw[hlg]at h2;cases h2
       ·rw[hlg]at dr;go_wp2_with (go_at_call 165;go_must(refine(dr.o _ Qb).mono ?_);rintro e wq ⟨rfl,rfl⟩)
        go_ret2
        rcases kF.o with h|⟨h1,h2⟩
        ·have:=zV.o xs h;rw[hlg]at this;cases this
        ·exact⟨XA,xc,xs,true,rfl,kE.o,aw.o,du.o,.inr ⟨h1,rfl⟩⟩
variable{α β:Type}{W:World}{size:Nat}{R:World->α->List Value->Prop}{f:β->List Value}{pr:β->α}{G:β->Prop}{A:Option Addr}{xs:List α}
def slw_list(hR:∀x cs,R W x cs->∃y,pr y=x/\G y/\f y=cs)(h:SlW W size R A xs):
 ∃ys:List β,ys.map pr=xs/\(∀y∈ys,G y)/\Sl W size f A ys:=by
 by_cases h0:xs=[]
 ·subst h0;exact⟨[],rfl,by simp,λh=>absurd h McV⟩
 ·have hl:0<xs.length:=List.length_pos_iff.2 h0;obtain⟨b,off,hA,hb,hc⟩:=h hl;have aV:∀n,n<=xs.length->∃ys:List β,ys.map pr=xs.take n/\(∀y∈ys,G y)/\∀k y,ys[k]?=some y->∀j u,(f y)[j]?=some u->W.cell? ⟨b,off+k*size+j,none⟩=some u:=by
   intro n;induction n with
   |zero=>intro _;exact⟨[],by simp,by simp,by simp⟩
   |succ n ih=>
    intro hn;obtain⟨ys,h1,h2,h3⟩:=ih McS;obtain⟨cs,hr,ah⟩:=hc n _ (List.getElem?_eq_getElem (show n<xs.length by omega));obtain⟨y,e1,e2,e3⟩:=hR _ _ hr;have ag:ys.length=n:=by
     have:=congrArg List.length h1;simp at this;omega
    refine⟨ys++[y],?_,?_,?_⟩
    ·rw[List.map_append,h1,List.take_add_one,List.getElem?_eq_getElem (show n<xs.length by omega)];simp[e1]
    ·intro z hz;rcases List.mem_append.1 hz with hz|hz
     ·exact h2 z hz
     ·rw[List.mem_singleton.1 hz];exact e2
    ·intro k z hk;by_cases jL:k<n
     ·rw[List.getElem?_append_left McS]at hk;exact h3 k z hk
     ·have fY:k=n:=by
       exact Mb8
      subst fY;rw[List.getElem?_append_right McS,ag]at hk;simp at hk;subst hk;intro j u hu;exact ah j u (by rw[<-e3];exact hu)
  obtain⟨ys,h1,h2,h3⟩:=aV xs.length Qc;rw[List.take_length]at h1;exact⟨ys,h1,h2,λ_=>⟨b,off,hA,hb,h3⟩⟩
def slw_back(hG:∀y,G y->R W (pr y) (f y)){ys:List β}(h:Sl W size f A ys)(hm:ys.map pr=xs)(hg:∀y∈ys,G y):SlW W size R A xs:=λhl=>by
 subst hm;obtain⟨b,off,hA,hb,hc⟩:=h (by simpa using hl);refine⟨b,off,hA,hb,λk x hk=>?_⟩;rw[List.getElem?_map]at hk;obtain⟨y,hy,rfl⟩:=Option.map_eq_some_iff.1 hk;exact⟨f y,hG y (hg y (List.mem_of_getElem? hy)),λj u hu=>hc k y hy j u hu⟩
structure GX where
 g:Grave
 H:Option Addr
 hc:Nat
 D:Option Addr
 dc:Nat
def GX.cells(x:GX):List Value:=[.string x.g.place,.int .i64 x.g.cls,.int .i64 x.g.fin,.slice x.H x.g.holders.length x.hc,.slice x.D x.g.died.length x.dc]
def zcX(x:GX):x.cells.length=5:=rfl
def zkk(x:GX):∀u∈x.cells,u.oneCell'=true:=by simp[GX.cells,Value.oneCell']
def GX.ok(W:World)(x:GX):Prop:=Sl W 3 zaa x.H x.g.holders/\Sl W 1 sC x.D x.g.died
def GX.ok.keep{W':World}{x:GX}{n:Nat}(h:x.ok W)(hB:Below n W W')(hn:W.heap.size<=n:=by first|exact Qc|omega):x.ok W':=⟨h.1.keep hB hn,h.2.keep hB hn⟩
variable{gs:List Grave}
def znK(h:SlW W 5 zij A gs):∃xs:List GX,xs.map (·.g)=gs/\(∀x∈xs,x.ok W)/\Sl W 5 GX.cells A xs:=
 slw_list (λx cs hr=>by
  obtain⟨H,hc,D,dc,rfl,h1,h2⟩:=hr
  exact⟨⟨x,H,hc,D,dc⟩,rfl,⟨h1,h2⟩,rfl⟩) h
def slw_gx{xs:List GX}(h:Sl W 5 GX.cells A xs)(hm:xs.map (·.g)=gs)(hg:∀x∈xs,x.ok W):SlW W 5 zij A gs:=
 slw_back (λy hy=>⟨y.H,y.hc,y.D,y.dc,rfl,hy.1,hy.2⟩) h hm hg
def zhu:ElTy Tryz.prog 84 91 5 80:=zdm (z:=.agg #[.string ⟨#[]⟩,.int .i64 0,.int .i64 0,.slice none 0 0,.slice none 0 0]) McT McT rfl McU
structure RowC (W:World) (e:TypeId) (g o size:Nat) (css:List (List Value)):Prop where
 len:∀c∈css,c.length=size
 row:∃cur,W.heap[g]?=some (.cells cur e (0,0))/\o+css.length*size<=cur.size/\∀k c,css[k]?=some c->∀j u,c[j]?=some u->cur[o+k*size+j]?=some u
section
variable {W W':World} {e:TypeId} {g o size:Nat} {css:List (List Value)}
def RowC.at(h:RowC W e g o size css){k:Nat}{c:List Value}(hk:css[k]?=some c){j:Nat}{u:Value}(hj:c[j]?=some u):W.cell? ⟨g,o+k*size+j,none⟩=some u:=by
 obtain⟨cur,h1,_,h3⟩:=h.row;simp only[World.cell?,h1];exact h3 k c hk j u hj
def RowC.lt(h:RowC W e g o size css):g<W.heap.size:=by
 obtain⟨cur,h1,_⟩:=h.row;exact zab h1
def RowC.frz(h:RowC W e g o size css):∀j,W.frozen? ⟨g,j,none⟩=false:=by
 obtain⟨cur,h1,_⟩:=h.row;exact Go.Proofs.YtogklihlgindkaaGreatDoor.frz h1
def RowC.block(h:RowC W e g o size css)(hb:W'.heap[g]?=W.heap[g]?):RowC W' e g o size css:=by
 obtain⟨cur,h1,h2⟩:=h.row;exact⟨h.len,cur,hb.trans h1,h2⟩
def RowC.keep{n:Nat}(h:RowC W e g o size css)(hB:Below n W W')(hn:W.heap.size<=n:=by first|exact Qc|omega):RowC W' e g o size css:=h.block (hB.block g (Nat.lt_of_lt_of_le h.lt hn))
def RowC.sl{α:Type}{f:α->List Value}{xs:List α}(h:RowC W e g o size css)(hc:css=xs.map f):Sl W size f (some ⟨g,o,none⟩) xs:=λ_=>
 ⟨g,o,rfl,h.lt,λk x hk j u hu=>h.at (k:=k) (by rw[hc,List.getElem?_map,hk];rfl) hu⟩
def OwnS.row{α:Type}{base n cap:Nat}{f:α->List Value}{xs:List α}(ag:∀x,(f x).length=size)(h:OwnS W base e size f (.slice (some ⟨g,o,none⟩) n cap) xs):RowC W e g o size (xs.map f):=by
 rcases h with⟨h,_⟩|⟨g',o',c',cur,h,hb,hg,hc,hm,hs,hx⟩
 ·cases h
 ·simp only[Value.slice.injEq,Option.some.injEq,Addr.mk.injEq,and_true]at h;obtain⟨⟨rfl,rfl⟩,rfl,rfl⟩:=h;refine⟨λc hc=>?_,cur,hg,?_,λk c hk j u hu=>?_⟩
  ·obtain⟨x,_,rfl⟩:=List.mem_map.1 hc;exact ag x
  ·rw[List.length_map];exact Nat.le_trans (Nat.add_le_add_left (Nat.mul_le_mul_right _ hc) _) hs
  ·rw[List.getElem?_map]at hk;obtain⟨x,cP,rfl⟩:=Option.map_eq_some_iff.1 hk;have:=hx (k*size+j) u (zeU f size ag xs k x cP j u hu);rw[Nat.add_assoc];exact this
def RowC.set(h:RowC W e g o size css){i j:Nat}{c:List Value}{u:Value}(hi:css[i]?=some c)(hj:j<size):RowC (W.setCell ⟨g,o+i*size+j,none⟩ u) e g o size (css.set i (c.set j u)):=by
 obtain⟨cur,h1,h2,h3⟩:=h.row;have bp:=h.len c (List.mem_of_getElem? hi);have eR:i<css.length:=(List.getElem?_eq_some_iff.1 hi).1;have aQ:o+i*size+j<cur.size:=by
  have:(i+1)*size<=css.length*size:=Nat.mul_le_mul_right _ eR;rw[Nat.add_mul]at this;omega
 have hb:=Joins.block_setCell (i:=o+i*size+j) h1 u;refine⟨λd hd=>?_,_,hb,?_,λk d hk m v hm=>?_⟩
 ·rcases List.mem_or_eq_of_mem_set hd with hd|rfl
  ·exact h.len d hd
  ·rw[List.length_set];exact bp
 ·rw[List.length_set];simpa using h2
 ·rw[List.getElem?_set]at hk;by_cases au:i=k
  ·subst au;rw[if_pos rfl,if_pos eR]at hk;simp only[Option.some.injEq]at hk;subst hk;rw[List.getElem?_set]at hm;by_cases hjm:j=m
   ·subst hjm;rw[if_pos rfl,if_pos McS]at hm;simp only[Option.some.injEq]at hm;subst hm;simp[aQ]
   ·rw[if_neg hjm]at hm;have:=h3 i c hi m v hm;rw[Array.getElem?_setIfInBounds_ne McS];exact this
  ·rw[if_neg au]at hk;have gn:m<size:=by
    have:=(List.getElem?_eq_some_iff.1 hm).1;rw[h.len d (List.mem_of_getElem? hk)]at this;exact this
   have ai:o+i*size+j≠o+k*size+m:=by
    intro he;have sJ:i*size+j=k*size+m:=McS;rcases Nat.lt_or_gt_of_ne au with ae|ae
    ·have:(i+1)*size<=k*size:=Nat.mul_le_mul_right _ ae;rw[Nat.add_mul]at this;omega
    ·have:(k+1)*size<=i*size:=Nat.mul_le_mul_right _ ae;rw[Nat.add_mul]at this;omega
   rw[Array.getElem?_setIfInBounds_ne ai];exact h3 k d hk m v hm
end
def StAt(w:World)(laws:List Law)(s:St)(a0 a1 a2 a3 a4 a5 a6:Value):Prop:=
 ∃(wd rd:List Deed) (LA CA MA DA WA RA GA:Option Addr) (c0 c1 c2 c3 c4 c5 c6:Nat),a0=.slice LA laws.length c0/\a1=.slice CA s.children.length c1/\a2=.slice MA s.marriages.length c2/\a3=.slice DA s.dead.length c3/\a4=.slice WA wd.length c4/\a5=.slice RA rd.length c5/\a6=.slice GA s.graves.length c6/\
  StIn w laws s wd rd LA CA MA DA WA RA GA c0 c1 c2 c3 c4 c5 c6/\StLink s wd rd
def zcQ:Value->Bool
 | .slice ..=>true
 |_=>false
def zeM{a:Value}(h:zcQ a=true):∃A n c,a=.slice A n c:=by
 cases a<;>first|exact⟨_,_,_,rfl⟩|cases h
variable{a0 a1 a2 a3 a4 a5 a6:Value}
def zcm(h:([a0,a1,a2,a3,a4,a5,a6].all zcQ)=true):(∃A n c,a0=.slice A n c)/\(∃A n c,a1=.slice A n c)/\(∃A n c,a2=.slice A n c)/\(∃A n c,a3=.slice A n c)/\(∃A n c,a4=.slice A n c)/\(∃A n c,a5=.slice A n c)/\(∃A n c,a6=.slice A n c):=by
 simp only[List.all_cons,Bool.and_eq_true]at h;obtain⟨h0,h1,h2,h3,h4,h5,h6,_⟩:=h;exact⟨zeM h0,zeM h1,zeM h2,zeM h3,zeM h4,zeM h5,zeM h6⟩
def zfM(w:World)(laws:List Law)(R:St×Int)(e:Ending)(w':World):Prop:=
 ∃a0 a1 a2 a3 a4 a5 a6,e=.returned (.tuple #[.agg #[a0,a1,a2,a3,a4,a5,a6],.int .i64 R.2])/\([a0,a1,a2,a3,a4,a5,a6].all zcQ)=true/\Qa w w'/\(R.2=0->StAt w' laws R.1 a0 a1 a2 a3 a4 a5 a6)
def zpH{fn:Func}{p q:Tmp}{a:TypeId}(h:fn.results= #[.cell p a,.tmp q])(tmps:Array Value)(P:Program)(w:World):
 (results fn tmps).run P w=((asAddr (tmps.getD p undef)).run P w).andThen λx w₁=>((loadVar a x).run P w₁).andThen λv w₂=> .ok (.tuple #[v,tmps.getD q undef]) w₂:=by
 simp only[results,h];simp[Sem.run_bind,Result.andThen]
section
variable {w:World} {B:Nat} {x0 x1 x2 x3 x4 x5 x6 y:Value}
def zbB{fn:Func}{p q:Tmp}(h:fn.results= #[.cell p 86,.tmp q])(tmps:Array Value)(hp:tmps.getD p undef=.pointer (some ⟨B,0,none⟩))(hq:tmps.getD q undef=y)
 (hx:w.heap[B]?=some (.cells #[x0,x1,x2,x3,x4,x5,x6] 86)):(results fn tmps).run Tryz.prog w=.ok (.tuple #[.agg #[x0,x1,x2,x3,x4,x5,x6],y]) w:=by
 obtain⟨h0,h1,h2,h3,h4,h5,h6⟩:=zaG hx;clear hx;rw[zpH h,hp,hq];go_simp
def zpI{fn:Func}{p:Tmp}(h:fn.results= #[.cell p 86])(tmps:Array Value)(hp:tmps.getD p undef=.pointer (some ⟨B,0,none⟩))
 (hx:w.heap[B]?=some (.cells #[x0,x1,x2,x3,x4,x5,x6] 86)):(results fn tmps).run Tryz.prog w=.ok (.agg #[x0,x1,x2,x3,x4,x5,x6]) w:=by
 obtain⟨h0,h1,h2,h3,h4,h5,h6⟩:=zaG hx;exact Mbo
end
variable{e:TypeId}{g o b:Nat}{css:List (List Value)}
def RowC.ne{j:Nat}{u:Value}(h:RowC W e g o size css)(ai:g≠b):RowC (W.setCell ⟨b,j,none⟩ u) e g o size css:=by
 obtain⟨cur,h1,h2⟩:=h.row;exact⟨h.len,cur,J_ne ai h1,h2⟩
def zcC{n:Nat}{w:World}(h:Below n w W)(hb:n<=b):Below n w (((((((W.setCell ⟨b,0,none⟩ a0).setCell ⟨b,1,none⟩ a1).setCell ⟨b,2,none⟩ a2).setCell ⟨b,3,none⟩ a3).setCell ⟨b,4,none⟩ a4).setCell ⟨b,5,none⟩ a5).setCell ⟨b,6,none⟩ a6):=
 zaS (zaS (zaS (zaS (zaS (zaS (zaS h hb _) hb _) hb _) hb _) hb _) hb _) hb _
def RowC.ne7(h:RowC W e g o size css)(ai:g≠b):RowC (((((((W.setCell ⟨b,0,none⟩ a0).setCell ⟨b,1,none⟩ a1).setCell ⟨b,2,none⟩ a2).setCell ⟨b,3,none⟩ a3).setCell ⟨b,4,none⟩ a4).setCell ⟨b,5,none⟩ a5).setCell ⟨b,6,none⟩ a6) e g o size css:=
 ((((((h.ne ai).ne ai).ne ai).ne ai).ne ai).ne ai).ne ai
def zkl(W:World)(base:Nat)(h:base<=W.heap.size):OwnS (W.alloc (.cells #[] 91)) base 91 5 GX.cells (.slice (some ⟨W.heap.size,0,none⟩) 0 0) []:=
 OwnS.of_own zcX (World.ownsRow_made W #[] 0 h (Nat.zero_le _) McV)
def zgM(w:World)(laws:List Law)(s:St)(wd rd:List Deed)(LA CA MA DA WA RA GA:Option Addr)(c0 c1 c2 c3 c4 c5 c6:Nat)(gxs:List GX)(i:Nat)(x:GX)(e:Ending)(w':World):Prop:=
 ∃(ga go c:Nat),e=.returned (.agg #[.slice LA laws.length c0,.slice CA s.children.length c1,.slice MA s.marriages.length c2,.slice DA s.dead.length c3,.slice WA wd.length c4,.slice RA rd.length c5,.slice (some ⟨ga,go,none⟩) s.graves.length c])/\RowC w' 91 ga go 5 ((gxs.set i x).map GX.cells)/\Qa w w'
def zjl(laws:List Law)(s:St)(wd rd:List Deed)(LA CA MA DA WA RA GA:Option Addr)(c0 c1 c2 c3 c4 c5 c6:Nat)(xs:List GX)(i:Nat)(x:GX)(w:World)(hm:xs.map (·.g)=s.graves)(br:Sl w 5 GX.cells GA xs)(hf:StFew s wd rd)(hi:i<s.graves.length):
 Calls Tryz.prog 166 #[.agg #[.slice LA laws.length c0,.slice CA s.children.length c1,.slice MA s.marriages.length c2,.slice DA s.dead.length c3,.slice WA wd.length c4,.slice RA rd.length c5,.slice GA s.graves.length c6],.int .i64 i,.agg x.cells.toArray] w (zgM w laws s wd rd LA CA MA DA WA RA GA c0 c1 c2 c3 c4 c5 c6 xs i x):=by
 have bx:xs.length=s.graves.length:=Mez;have L3:=hf.graves;have bU:=zHi br;unfold zgM GX.cells;rw[<-bx]at hi L3⊢;have dw:=zHi bx;clear hm br hf bx;go_enter Tryz.func166,Tryz.ntmps166
 go_upto_region 1 with fail
 obtain⟨W0,am⟩:=Qd (((w.alloc (.cells #[.slice LA laws.length c0,.slice CA s.children.length c1,.slice MA s.marriages.length c2,.slice DA s.dead.length c3,.slice WA wd.length c4,.slice RA rd.length c5,.slice GA xs.length c6] 86)).alloc (.cells #[.string x.g.place,.int .i64 x.g.cls,.int .i64 x.g.fin,.slice x.H x.g.holders.length x.hc,.slice x.D x.g.died.length x.dc] 91)).alloc (.cells #[.slice none 0 0,.slice none 0 0,.slice none 0 0,.slice none 0 0,.slice none 0 0,.slice none 0 0,.slice none 0 0] 86))
 have g0:W0.heap[w.heap.size]?=some (.cells #[.slice LA laws.length c0,.slice CA s.children.length c1,.slice MA s.marriages.length c2,.slice DA s.dead.length c3,.slice WA wd.length c4,.slice RA rd.length c5,.slice GA xs.length c6] 86):=MdS;have g1:W0.heap[w.heap.size+1]?=some (.cells #[.string x.g.place,.int .i64 x.g.cls,.int .i64 x.g.fin,.slice x.H x.g.holders.length x.hc,.slice x.D x.g.died.length x.dc] 91):=by rw[am];exact zal (zas _ _ _ McV)
 have g2:W0.heap[w.heap.size+2]?=some (.cells #[.slice none 0 0,.slice none 0 0,.slice none 0 0,.slice none 0 0,.slice none 0 0,.slice none 0 0,.slice none 0 0] 86):=by rw[am];exact zas _ _ _ McV
 have aO:Qa w W0:=Mdz;rw[<-am];clear am;obtain⟨s0,s1,s2,s3,s4,s5,s6⟩:=zaG g0;have l2:=zab g2;have l0:w.heap.size<W0.heap.size:=McS;have ak:=zHi aO;have mI:=aO.size;clear aO
 go_upto_region 2 with(at_builtin
                       go_loud(refine zar (v:=.slice (some ⟨W0.heap.size,0,none⟩) 0 0) (n:=0) (m:=xs.length) rfl _ _ rfl zhu zcX zkk rfl (xs:=[]) (ys:=xs) (zkl W0 W0.heap.size Qc) rfl rfl rfl (bU.o.keep (ak.o.trans (Below.mono (B:=W0.heap.size) Bw mI))) Mdf McS McV ?_)
                       intro v2 w2 h1 h2 h3;rw[List.nil_append]at h1;have e0:w2.heap[w.heap.size]?=_:=(h2.block w.heap.size McX Md5).trans (zal g0);have e1:w2.heap[w.heap.size+1]?=_:=(h2.block (w.heap.size+1) McX Md5).trans (zal g1);have e2:w2.heap[w.heap.size+2]?=_:=(h2.block (w.heap.size+2) McX Md5).trans (zal g2);have bM:Qa W0 w2:=Below.grown (zad Qb _) h2 McV Mdx;have fL:=h1.ge;obtain⟨V2,c2',rfl,_,_⟩:=h1.sl zcX;obtain⟨ga,go,rfl⟩:∃ga go,V2=some ⟨ga,go,none⟩:=by
                        rcases h1 with⟨he,h0⟩|⟨g',o',_,_,he,_⟩
                        ·rw[h0]at hi;exact absurd hi McV
                        ·simp only[Value.slice.injEq]at he;exact⟨g',o',he.1⟩
                       have AS:=(fL ga rfl).1;have b8:=OwnS.row zcX h1;have f6:=frz e0 6;obtain⟨y0,y1,y2,y3,y4,y5,y6⟩:=zaG e0
                       clear h1 h2 h3 fL)
 obtain⟨W3,bv⟩:=Qd (w2.setCell ⟨w.heap.size,6,none⟩ (.slice (some ⟨ga,go,none⟩) xs.length c2'))
 have b0:W3.heap[w.heap.size]?=some (.cells #[.slice LA laws.length c0,.slice CA s.children.length c1,.slice MA s.marriages.length c2,.slice DA s.dead.length c3,.slice WA wd.length c4,.slice RA rd.length c5,.slice (some ⟨ga,go,none⟩) xs.length c2'] 86):=by
  rw[bv];have:=Joins.block_setCell (i:=6) e0 (.slice (some ⟨ga,go,none⟩) xs.length c2');simpa using this
 have b1:W3.heap[w.heap.size+1]?=some (.cells #[.string x.g.place,.int .i64 x.g.cls,.int .i64 x.g.fin,.slice x.H x.g.holders.length x.hc,.slice x.D x.g.died.length x.dc] 91):=by rw[bv];exact J_ne McS e1
 have b2:W3.heap[w.heap.size+2]?=some (.cells #[.slice none 0 0,.slice none 0 0,.slice none 0 0,.slice none 0 0,.slice none 0 0,.slice none 0 0,.slice none 0 0] 86):=by rw[bv];exact J_ne McS e2
 have r3:RowC W3 91 ga go 5 (xs.map GX.cells):=by rw[bv];exact b8.ne McS
 have fg:Qa w W3:=by rw[bv];exact zaS (ak.o.trans (bM.mono mI)) McV _
 rw[<-bv];clear bv b8 e0 e1 e2 bM f6 y0 y1 y2 y3 y4 y5 y6 s0 s1 s2 s3 s4 s5 s6 g0 g1 g2;obtain⟨s0,s1,s2,s3,s4,s5,s6⟩:=zaG b0;obtain⟨v0,v1,v2,v3,v4⟩:=zeg b1;have aH:(xs.map GX.cells)[i]?=some (xs[i]).cells:=by rw[List.getElem?_map,List.getElem?_eq_getElem hi];rfl
 have im:∀j u,(xs[i]).cells[j]?=some u->W3.cell? ⟨ga,go+i*5+j,none⟩=some u:=λj u hu=>r3.at aH hu
 have rf:=r3.frz;have q0:=im 0 _ rfl;have q1:=im 1 _ rfl;have q2:=im 2 _ rfl;have q3:=im 3 _ rfl;have q4:=im 4 _ rfl;simp only[Nat.add_zero]at q0;have t0:RowC (W3.setCell ⟨ga,go+i*5,none⟩ (.string x.g.place)) 91 ga go 5 _:=r3.set (j:=0) (u:=.string x.g.place) aH McU;have sX:i<(xs.map GX.cells).length:=by rw[List.length_map];exact hi
 have t1:=t0.set (i:=i) (j:=1) (u:=.int .i64 x.g.cls) (c:=(xs[i]).cells.set 0 (.string x.g.place)) (by rw[List.getElem?_set_self sX]) McU;have t2:=t1.set (i:=i) (j:=2) (u:=.int .i64 x.g.fin) (c:=((xs[i]).cells.set 0 (.string x.g.place)).set 1 (.int .i64 x.g.cls)) (by rw[List.getElem?_set_self (by rw[List.length_set];exact sX)]) McU;have t3:=t2.set (i:=i) (j:=3) (u:=.slice x.H x.g.holders.length x.hc) (c:=(((xs[i]).cells.set 0 (.string x.g.place)).set 1 (.int .i64 x.g.cls)).set 2 (.int .i64 x.g.fin)) (by rw[List.getElem?_set_self (by rw[List.length_set,List.length_set];exact sX)]) McU;have t4:=t3.set (i:=i) (j:=4) (u:=.slice x.D x.g.died.length x.dc) (c:=((((xs[i]).cells.set 0 (.string x.g.place)).set 1 (.int .i64 x.g.cls)).set 2 (.int .i64 x.g.fin)).set 3 (.slice x.H x.g.holders.length x.hc)) (by rw[List.getElem?_set_self (by rw[List.length_set,List.length_set,List.length_set];exact sX)]) McU;have xP:(i:Int)<(xs.length:Int):=McS;have eE:(0:Int)<=(i:Int):=McS;obtain⟨T4,R3,aG,B0,B2⟩:=yH5 t4 r3 fg b0 b2;have aI:w.heap.size≠ga:=McS;have sQ:ga≠w.heap.size:=McS;have dD:ga≠w.heap.size+2:=McS;have nh:w.heap.size+2≠ga:=McS;clear t0 t1 t2 t3 t4 r3 fg b0 b1 b2 im sX;go_upto_region 3 with fail
 obtain⟨W4,gZ⟩:=Qd (((((W3.setCell ⟨ga,go+i*5,none⟩ (.string x.g.place)).setCell ⟨ga,go+i*5+1,none⟩ (.int .i64 x.g.cls)).setCell ⟨ga,go+i*5+2,none⟩ (.int .i64 x.g.fin)).setCell ⟨ga,go+i*5+3,none⟩ (.slice x.H x.g.holders.length x.hc)).setCell ⟨ga,go+i*5+4,none⟩ (.slice x.D x.g.died.length x.dc))
 have t4:=T4.o;rw[<-gZ]at t4⊢;have b0:W4.heap[w.heap.size]?=some (.cells #[.slice LA laws.length c0,.slice CA s.children.length c1,.slice MA s.marriages.length c2,.slice DA s.dead.length c3,.slice WA wd.length c4,.slice RA rd.length c5,.slice (some ⟨ga,go,none⟩) xs.length c2'] 86):=by rw[gZ];exact J_ne aI (J_ne aI (J_ne aI (J_ne aI (J_ne aI B0.o))))
 have b2:W4.heap[w.heap.size+2]?=some (.cells #[.slice none 0 0,.slice none 0 0,.slice none 0 0,.slice none 0 0,.slice none 0 0,.slice none 0 0,.slice none 0 0] 86):=by rw[gZ];exact J_ne nh (J_ne nh (J_ne nh (J_ne nh (J_ne nh B2.o))))
 have FS:Qa w W4:=by rw[gZ];exact zaS (zaS (zaS (zaS (zaS aG.o MdO _) MdO _) MdO _) MdO _) MdO _
 have aY:(xs.set i x).map GX.cells=(((((xs.map GX.cells).set i ((xs[i]).cells.set 0 (.string x.g.place))).set i (((xs[i]).cells.set 0 (.string x.g.place)).set 1 (.int .i64 x.g.cls))).set i ((((xs[i]).cells.set 0 (.string x.g.place)).set 1 (.int .i64 x.g.cls)).set 2 (.int .i64 x.g.fin))).set i (((((xs[i]).cells.set 0 (.string x.g.place)).set 1 (.int .i64 x.g.cls)).set 2 (.int .i64 x.g.fin)).set 3 (.slice x.H x.g.holders.length x.hc))).set i ((((((xs[i]).cells.set 0 (.string x.g.place)).set 1 (.int .i64 x.g.cls)).set 2 (.int .i64 x.g.fin)).set 3 (.slice x.H x.g.holders.length x.hc)).set 4 (.slice x.D x.g.died.length x.dc)):=by
  simp only[List.set_set,List.map_set];rfl
 rw[<-aY]at t4;obtain⟨T5,dL⟩:=yH2 t4 FS;clear t4 aY T4 R3 aG B0 B2 gZ FS s0 s1 s2 s3 s4 s5 s6 v0 v1 v2 v3 v4 q0 q1 q2 q3 q4 rf aH;obtain⟨s0,s1,s2,s3,s4,s5,s6⟩:=zaG b0;obtain⟨r0,r1,r2,r3,r4,r5,r6⟩:=zaG b2;have rf:=frz b2;go_wp2_with fail
 refine bodyPost_ret (v:=.agg #[.slice LA laws.length c0,.slice CA s.children.length c1,.slice MA s.marriages.length c2,.slice DA s.dead.length c3,.slice WA wd.length c4,.slice RA rd.length c5,.slice (some ⟨ga,go,none⟩) xs.length c2']) ?_ rfl ?_
 ·exact zpI rfl _ rfl (zc0 b2)
 ·have nW:=zcC (a0:=.slice LA laws.length c0) (a1:=.slice CA s.children.length c1) (a2:=.slice MA s.marriages.length c2) (a3:=.slice DA s.dead.length c3) (a4:=.slice WA wd.length c4) (a5:=.slice RA rd.length c5) (a6:=.slice (some ⟨ga,go,none⟩) xs.length c2') dL.o (show w.heap.size<=w.heap.size+2 by omega);exact⟨ga,go,c2',by first|rfl|rw[dw.o],T5.o.ne7 dD,nW⟩

/- Walks of the reference's with, renew. -/
import Derived.Test.YtckkbkdcdkhglaaGreatDoorXA
import Derived.Test.YtckkbkdcdkhglaaGreatDoorDQ
set_option linter.unusedSimpArgs false
set_option linter.unusedVariables false
set_option maxRecDepth 100000
set_option maxHeartbeats 4000000
namespace Go.Proofs.YtckkbkdcdkhglaaGreatDoor
open Go.RowKit Go.Shelf
attribute [local go_sem] World.cell?_alloc_mark zag za5 zaq za8 zaw zax zay zaz za0 za1 za2
attribute [local go_sem] zap zad
theorem zc8 {n:Nat} {q:Rat} (h0:0<n) (h1:n<=1000000000) (h:IsN n q) (h2:0<=q) (h3:q<=1):zaK q:=zcb h2 h3 (by
 have:=zkn h0 h;unfold bigQ;simp
 omega)
theorem wrap_m {k:Nat} (h:k<=1000):wrap64 ((k:Int)-1)=(k:Int)-1:=by
 unfold wrap64;omega
def zfX (wd:List Deed) (n:ByteArray):List RPart:=((wd.reverse.find? fun d=>zae d.frm n).map (·.to)).getD []
theorem zja {s:St} {wd rd:List Deed} (h:StLink s wd rd) (n:ByteArray):zbu s n=zao (zfX wd n):=by
 unfold zbu zfX;rw[h.wills,<-List.map_reverse,List.find?_map];have e:((fun w:ByteArray×Parts=>zae w.1 n)∘fun d:Deed=>(d.frm,zao d.to))=fun d:Deed=>zae d.frm n:=rfl
 rw[e];cases wd.reverse.find? fun d=>zae d.frm n<;>rfl
theorem zpd {wd:List Deed} {n:ByteArray} {k:Nat} (h:k<wd.length):zfX (wd.take (k+1)) n=if zae wd[k].frm n then wd[k].to else zfX (wd.take k) n:=by
 unfold zfX;rw[List.take_add_one,List.getElem?_eq_getElem h];simp only[Option.toList_some,List.reverse_append,List.reverse_singleton,List.singleton_append,List.find?_cons];cases zae wd[k].frm n<;>rfl
theorem own_key {law:Law} {out:Parts} {rest:Rat} (sp:ByteArray) (hl:za6 16 law.num law.den=true) (g1:GoodParts out) (g2: ∀p∈out,IsN 720720 p.2) (g3:IsN 720720 rest) (g4:0<=rest) (g5:rest<=1):
 0<=rest*Rat.divInt law.num law.den/\rest*Rat.divInt law.num law.den<=rest/\GoodParts (za3 out sp (rest*Rat.divInt law.num law.den))/\zaE (za3 out sp (rest*Rat.divInt law.num law.den))=false/\
  zaK (rest*Rat.divInt law.num law.den)/\zaK (rest-rest*Rat.divInt law.num law.den):=by
 obtain⟨_,_,l1,l2⟩:=zbl hl;have hd:za6 16 law.num law.den=true:=hl;have h1:0<=rest*Rat.divInt law.num law.den:=Rat.mul_nonneg g4 l1;have h2:rest*Rat.divInt law.num law.den<=rest:=by
  have:=Rat.mul_le_mul_of_nonneg_left l2 g4;grind
 have iQ: ∃d:Nat,0<d/\d<=16/\IsN d (Rat.divInt law.num law.den):=by
  exact Mab
 obtain⟨d,d0,d1,CB⟩:=iQ;have hN:=zkl g3 CB;exact⟨h1,h2,zbw h1 g1,zc5 (n:=720720*d) Mcl Mcl (zcF hN fun p hp=>zle (g2 p hp)),zc8 (n:=720720*d) Mcl Mcl hN h1 McO,zc8 (n:=720720*d) Mcl Mcl (zgS (zle g3) hN) McO McO⟩
structure WillSt (out:Parts) (rest:Rat) (l:Parts) (L:List ByteArray):Prop where
 good:GoodParts out
 isN: ∀p∈out,IsN 720720 p.2
 rN:IsN 720720 rest
 names:zcm out L
 sum:sumQ out+rest=1
 left:sumQ l<=rest
 pos: ∀p∈l,0<p.2
 lN: ∀p∈l,IsN 720720 p.2
theorem WillSt.bounds {out:Parts} {rest:Rat} {l:Parts} {L:List ByteArray} (h:WillSt out rest l L):0<=rest/\rest<=1/\0<=sumQ out/\sumQ out<=1/\zaK rest/\zaE out=false:=by
 have h1:0<=sumQ l:=zbr fun p hp=>by have:=h.pos p hp;grind
 have h2:0<=sumQ out:=zbr fun p hp=>by have:=h.good.pos p hp;grind
 have h3:=h.left;have h4:=h.sum;have h5:0<=rest:=McO;have h6:rest<=1:=McO;exact⟨h5,h6,h2,by grind,zc8 Mcn Mcn h.rN h5 h6,zc5 Mcn Mcn h.isN⟩
theorem WillSt.hd {out:Parts} {rest:Rat} {l:Parts} {L:List ByteArray} (h:WillSt out rest l L):Hd out L:=⟨h.good,h.bounds.2.2.2.2.2,h.names⟩
theorem WillSt.give {out:Parts} {rest:Rat} {n:ByteArray} {q:Rat} {l:Parts} {L:List ByteArray} (h:WillSt out rest ((n,q)::l) L) (hn:n∈L):WillSt (za3 out n q) (rest-q) l L:=by
 have hq:=h.pos (n,q) Mco;have hN:=h.lN (n,q) Mco;have hs:=h.left;rw[sumQ]at hs;simp only at hq hN hs;exact⟨zbw McO h.good,zcF hN h.isN,zgS h.rN hN,ziY h.names hn,by rw[zbX];have:=h.sum;grind,by grind,fun p hp=>h.pos p MdT,fun p hp=>h.lN p MdT⟩
theorem WillSt.skip {out:Parts} {rest:Rat} {x:ByteArray×Rat} {l:Parts} {L:List ByteArray} (h:WillSt out rest (x::l) L):WillSt out rest l L:=by
 have hq:=h.pos x Mco;have hs:=h.left;rw[sumQ]at hs;exact⟨h.good,h.isN,h.rN,h.names,h.sum,by grind,fun p hp=>h.pos p MdT,fun p hp=>h.lN p MdT⟩
def zgI (w:World) (R:Option Parts) (e:Ending) (w':World):Prop:=
 ∃(A:Option Addr) (c:Nat) (xs:Parts) (b:Bool),e= .returned (.tuple #[.slice A xs.length c, .bool b])/\Sl w' 3 zaa A xs/\Below w.heap.size w w'/\xs.length<=100000/\((R=some xs/\b=false)\/(R=none/\b=true))
theorem zjb (laws:List Law) (s:St) (wd rd:List Deed) (LA CA MA DA WA RA GA:Option Addr) (c0 c1 c2 c3 c4 c5 c6:Nat) (n:ByteArray) (day:Int) (w:World) (h:StIn w laws s wd rd LA CA MA DA WA RA GA c0 c1 c2 c3 c4 c5 c6) (hk:StLink s wd rd) (hf:StFew s wd rd) (bh:zaA laws=0) (hW:WillOk (zbu s n)) (pk: ∀a,¬Desc s a a) (cx:(zbu s n).length<=8):
 Calls Tryz.prog 18 #[.agg #[.slice LA laws.length c0, .slice CA s.children.length c1, .slice MA s.marriages.length c2, .slice DA s.dead.length c3, .slice WA wd.length c4, .slice RA rd.length c5, .slice GA s.graves.length c6], .string n, .int .i64 day] w (zgI w (zbZ s (zaV laws day) n)):=by
 have xk:laws.length<=10:=by
  unfold zaA at bh;split at bh
  ·cases bh
  ·rename_i h1;simpa using h1
 have qt:=zHi (fun W (hB:Below w.heap.size w W)=>zoS laws LA c0 day W xk (h.laws.keep hB));have bn:=zeo bh day;obtain⟨R,hR⟩: ∃R,R=zbZ s (zaV laws day) n:=⟨_,rfl⟩
 rw[<-hR];unfold Law.v at qt;generalize zaV laws day=law at*;obtain⟨L,hL⟩: ∃L:List ByteArray,L=(zfX wd n).map (·.name)++s.children.map (·.2)++[zaL s n,⟨#[]⟩]:=⟨_,rfl⟩
 have EZ: ∀p∈zfX wd n,p.name∈L:=fun p hp=>by rw[hL];exact List.mem_append_left _ (List.mem_append_left _ (List.mem_map_of_mem hp))
 have EW: ∀c∈s.children,c.2∈L:=fun c hc=>by rw[hL];exact List.mem_append_left _ (List.mem_append_right _ (List.mem_map_of_mem hc))
 have EY:zaL s n∈L:=by rw[hL];exact List.mem_append_right _ Mco
 have vM:(⟨#[]⟩:ByteArray)∈L:=by rw[hL];exact List.mem_append_right _ Mco
 have xw:(zfX wd n).length<=8:=by
  have:=cx;rw[zja hk]at this;simpa[zao]using this
 have tx:L.length<=90000:=by
  rw[hL];have:=hf.kids;simp;omega
 have xu: ∀p∈zfX wd n,za6 16 p.num p.den=true:=by
  unfold zfX;intro p hp;cases oy:wd.reverse.find? fun d=>zae d.frm n with
  |none=>rw[oy]at hp;simp at hp
  |some d=>
   rw[oy]at hp;exact hk.shares d (by have:=List.mem_of_find?_eq_some oy;simpa using this) p hp
 have cY:=zHi (fun W (hB:Below w.heap.size w W)=>zhk laws s wd rd LA CA MA DA WA RA GA c0 c1 c2 c3 c4 c5 c6 law n hk hf (zaW s) n W (h.keep hB) (zkD pk n));have qD:=zHi (fun share A c out W (hB:Below w.heap.size w W)=>ziZ laws s wd rd LA CA MA DA WA RA GA c0 c1 c2 c3 c4 c5 c6 law n L hk hf EW tx (zaW s) n share A c out W (h.keep hB) (zkD pk n));have fH:=zHi (fun x W (hB:Below w.heap.size w W)=>sAble x n W (h.keep hB) hk hf);have fK:=zHi (fun W (hB:Below w.heap.size w W)=>sSpouse n W (h.keep hB) hf);have qK:=zHi (fun W (hB:Below w.heap.size w W)=>h.wills.keep zcf hB);have fq:=zgF s law.stems n (zaW s) n;rw[zja hk]at hW;have Bq:Hid (WillSt [] 1 (zao (zfX wd n)) L):=zHi ⟨zd6,by simp,zgT _,fun p hp=>by(cases hp),by simp[sumQ];grind,hW.le,hW.pos,hW.isN⟩;unfold zbZ at hR;rw[zja hk]at hR;obtain⟨Z,hZ⟩: ∃Z,Z=zcq s n (zao (zfX wd n)) [] 1:=⟨_,rfl⟩
 rw[<-hZ]at hR;have HZ:=zHi hZ;have HR:=zHi hR;have AP:=zHi xu;have cZ:=zHi EZ;have dW:=zHi bn;have eG:=zHi (show LA=LA/\zaL s n∈L/\(⟨#[]⟩:ByteArray)∈L/\L.length<=90000 from⟨rfl,EY,vM,tx⟩);have vo:=zHi xw;have lJ:=zHi fq;have kH:=zHi hf.wills;unfold Law.v at cY qD;unfold za9 at qD;unfold zgI;clear bh hW pk cx xk bn hR hL EZ EW EY vM xw tx xu fq hZ h hf hk;generalize zd2 s law.stems n (zaW s) n=ls at*;generalize zb2 s law.stems n (zaW s) n=T at*;generalize oG:zfX wd n=lw at*;have AO:=zHi oG.symm;clear oG;go_enter Tryz.func18,Tryz.ntmps18
 go_upto_block 0 with(first
  |(go_at_call 35;go_must(refine(qt.o _ Bw).mono ?_);rintro e wq ⟨rfl,z1,rfl⟩)
  |(go_at_call 36;go_must(refine(zhS _).mono ?_);rintro e wq ⟨rfl,z2,rfl⟩))
 obtain⟨LB,tw⟩: ∃LB,LB=w.heap.size+1+z1.os.size:=⟨_,rfl⟩
 obtain⟨QB,rh⟩: ∃QB,QB=LB+1+z2.os.size:=⟨_,rfl⟩
 obtain⟨W2,bM⟩: ∃W2,W2=((((w.alloc (.cells #[.slice LA laws.length c0, .slice CA s.children.length c1, .slice MA s.marriages.length c2, .slice DA s.dead.length c3, .slice WA wd.length c4, .slice RA rd.length c5, .slice GA s.graves.length c6] 40)).ext z1).alloc (.cells #[.int .i64 law.frm, .bool law.stems, .int .i64 law.num, .int .i64 law.den] 95)).ext z2).alloc (.cells #[.int .i64 1, .int .i64 1] 58):=⟨_,rfl⟩
 have g0:W2.heap[w.heap.size]?=some (.cells #[.slice LA laws.length c0, .slice CA s.children.length c1, .slice MA s.marriages.length c2, .slice DA s.dead.length c3, .slice WA wd.length c4, .slice RA rd.length c5, .slice GA s.graves.length c6] 40):=by rw[bM];exact zak (zb9 (zak (zb9 (zar _ _ _ rfl))))
 have g1:W2.heap[LB]?=some (.cells #[.int .i64 law.frm, .bool law.stems, .int .i64 law.num, .int .i64 law.den] 95):=by rw[bM];exact zak (zb9 (zar _ _ _ (by rw[tw];simp[zag])))
 have g2:W2.heap[QB]?=some (.cells #[.int .i64 ((1:Rat)).num, .int .i64 ((1:Rat)).den] 58):=by rw[bM];exact zar _ _ _ (by rw[rh,tw];simp[zag])
 have bL:Below w.heap.size w W2:=by rw[bM];exact Bw
 rw[<-bM,<-tw,<-rh];have gN:w.heap.size<LB:=Mcl;have df:LB<QB:=Mcl;have gR:=zab g2;have aS:=zHi bL;have gT:=zHi g2
 have ax:=zHi (fun W (hB:Below QB W2 W)=>(show(W.cell? ⟨w.heap.size,0,none⟩=some (.slice LA laws.length c0)/\W.cell? ⟨w.heap.size,1,none⟩=some (.slice CA s.children.length c1)/\W.cell? ⟨w.heap.size,2,none⟩=some (.slice MA s.marriages.length c2)/\W.cell? ⟨w.heap.size,3,none⟩=some (.slice DA s.dead.length c3)/\W.cell? ⟨w.heap.size,4,none⟩=some (.slice WA wd.length c4)/\W.cell? ⟨w.heap.size,5,none⟩=some (.slice RA rd.length c5)/\W.cell? ⟨w.heap.size,6,none⟩=some (.slice GA s.graves.length c6))/\(W.cell? ⟨LB,0,none⟩=some (.int .i64 law.frm)/\W.cell? ⟨LB,1,none⟩=some (.bool law.stems)/\W.cell? ⟨LB,2,none⟩=some (.int .i64 law.num)/\W.cell? ⟨LB,3,none⟩=some (.int .i64 law.den)) from by
  have x0:=(hB.block _ Mcl).trans g0;have x1:=(hB.block _ df).trans g1
  refine⟨zaG x0,?_,?_,?_,?_⟩<;>(simp only[World.cell?,x1];rfl)))
 clear bM tw rh g0 g1 g2 bL qt;obtain⟨⟨d0,d1,d2,d3,d4,d5,d6⟩,e0,e1,e2,e3⟩:=ax.o W2 (Below.refl _ _);have kp:=kH.o;go_cut [10,11,12,13]from 25 to 71 (fun v10 _ _ _ wc=> ∃(YA:Option Addr) (yc:Nat) (ys:Parts) (q:Rat),v10= .slice YA ys.length yc/\Hid (Z=(ys,q))/\Hid (WillSt ys q [] L)/\Sl wc 3 zaa YA ys/\wc.heap[QB]?=some (.cells #[.int .i64 (q).num, .int .i64 (q).den] 58)/\Below QB W2 wc)
 case first=>
  go_wp2_with fail
  go_loopw [10,11,12,13] (fun v10 v11 _ _ wr=> ∃(j:Nat) (i:Int),j<=wd.length/\v10= .slice none 0 0/\v11= .int .i64 i/\i=(j:Int)-1/\Hid (lw=zfX (wd.take j) n)/\W2=wr) (fun _ v11 _ _ _=>(intOf v11+1).toNat)
  case atStart=>exact⟨wd.length,(wd.length:Int)-1,Nat.le_refl _,rfl,by first|go_num|rw[wrap_m kp],rfl,zHi (by rw[List.take_length];exact AO.o),rfl⟩
  case round=>
   obtain⟨j,i,hj,rfl,rfl,hi,HJ,rfl⟩:=hrel;cases j with
   |zero=>
    have tO:i= -1:=Mcl;subst tO;have sj:lw=[]:=by rw[HJ.o,List.take_zero];rfl
    have BA:Hid (Z=([],1)):=by show _=_;rw[HZ.o,sj];rfl
    have Iu:Hid (WillSt [] 1 [] L):=by have:=Bq;rw[sj]at this;exact this
    clear sj hi;go_wp2_with fail
    go_meet
    exact⟨none,0,[],1,rfl,BA,Iu,Sl.nil,gT.o,Below.refl _ _⟩
   |succ m=>
    have tO:i=(m:Int):=Mcl;subst tO;obtain⟨b,off,cs,hA,hb,⟨B,c,hc,rfl,hP⟩,ah⟩:=(qK.o w (Below.refl _ _)).at (k:=m) hj;have am:=HJ.o;rw[zpd hj]at am;generalize wd[m]=x at*;subst hA;have bj:b<W2.heap.size:=Nat.lt_of_lt_of_le hb aS.o.size;have i3:W2.cell? ⟨b,off+m*7+3,none⟩=some (.string x.frm):=(zah aS.o hb).trans (ah 3 _ rfl);have i4:w.cell? ⟨b,off+m*7+4,none⟩=some (.slice B x.to.length c):=ah 4 _ rfl;have fQ:(m:Int)<(wd.length:Int):=Mcl;have nI:(0:Int)<=(m:Int):=Mcl;have I1:=zHi hj;have HP:=zHi hP;obtain⟨kd,dy,pl,fr,ts,cl,yr⟩:=x;simp only at i3 i4 hc am HP;clear ah hi hj hP;cases hs:zae fr n
    ·have br:(fr.toList==n.toList)=false:=hs;have aB:Hid (lw=zfX (wd.take m) n):=by show _=_;rw[am,hs];rfl
     clear am hs;go_wp2_with fail
     go_round
     case rel=>exact⟨m,(m:Int)-1,by have:=I1.o;omega,rfl,by go_num,rfl,aB,by first|exact True.intro|rfl⟩
     case measure=>simp only[intOf];omega
    ·have br:(fr.toList==n.toList)=true:=hs;have CY:ts=lw:=by rw[am,hs];rfl
     clear am hs;subst CY;have hts:ts.length<=8:=vo.o;go_upto_region 9 with fail
     go_loopw [10,12,13] (fun v10 v12 _ wr=> ∃(k:Nat) (ys:Parts) (q:Rat),k<=ts.length/\v12= .int .i64 k/\Hid (Z=zcq s n (zao (ts.drop k)) ys q)/\Hid (WillSt ys q (zao (ts.drop k)) L)/\OwnS wr QB 63 3 zaa v10 ys/\wr.heap[QB]?=some (.cells #[.int .i64 (q).num, .int .i64 (q).den] 58)/\Below QB W2 wr) (fun _ v12 _ _=>ts.length-(intOf v12).toNat)
     case atStart=>exact⟨0,[],1,Nat.zero_le _,rfl,HZ,Bq,OwnS.nil,gT.o,Below.refl _ _⟩
     case round=>
      obtain⟨k,ys,q,hk,rfl,HX,Ej,ae,hQ,hB⟩:=hrel;obtain⟨YA,yc,rfl,rz,ui⟩:=ae.sl zan;have fE:Below w.heap.size w wr:=aS.o.trans (hB.mono Mcl);have aK:=fE.size;have G9:=zab hQ;obtain⟨⟨d0,d1,d2,d3,d4,d5,d6⟩,e0,e1,e2,e3⟩:=ax.o wr hB;have j4:wr.cell? ⟨b,off+m*7+4,none⟩=some (.slice B ts.length c):=(zah fE hb).trans i4;have aW:=zHi fE;have HB:=zHi hB;have eH:=zHi ae;by_cases aa:k<ts.length
      ·obtain⟨pb,po,lZ,hpb,oL⟩:=(HP.o.keep fE).at aa;have hx:=HX.o;have kD:=Ej.o;have gF:zao (ts.drop k)=(ts[k].name,ts[k].rat)::zao (ts.drop (k+1)):=by rw[List.drop_eq_getElem_cons aa];rfl
       rw[gF,zcq]at hx;rw[gF]at kD;have kx:=AP.o _ (List.getElem_mem aa);have oJ:=cZ.o _ (List.getElem_mem aa);have aq:=zHi aa;generalize ts[k]=x at*;obtain⟨nm,nu,de⟩:=x;simp only at kx oJ hx kD;subst lZ;have p0:wr.cell? ⟨pb,po+k*3,none⟩=some (.string nm):=oL 0 _ rfl;have p1:wr.cell? ⟨pb,po+k*3+1,none⟩=some (.int .i64 nu):=oL 1 _ rfl;have p2:wr.cell? ⟨pb,po+k*3+2,none⟩=some (.int .i64 de):=oL 2 _ rfl;have ar:(k:Int)<(ts.length:Int):=Mcl;have aT:(0:Int)<=(k:Int):=Mcl;have mR:(⟨nm,nu,de⟩:RPart).rat=Rat.divInt nu de:=rfl;rw[mR]at hx kD;obtain⟨r1,r2,r3,r4⟩:=zbl kx;have Ae:=zc8 Mcn Mcn (zel kx) r3 r4;obtain⟨b1,b2,b3,b4,b5,b6⟩:=kD.bounds;generalize Rat.divInt nu de=r at*;have eO:=zgH kD.good kD.names;have eF:=zHi (fun W (hW:Below wr.heap.size wr W)=>zcR ys nm r YA yc W (by have:=eG.o.2.2.2;omega) (kD.hd.parts b4) Ae (rz.keep hW));have eU:=zHi (fun W=>zhL q r W b5 Ae);unfold za9 at eF eU;rw[r1,r2]at eF eU;have kF:=zHi (fun W (hW:Below wr.heap.size wr W)=>fH.o nm W (aW.o.trans (hW.mono aK)));have au:=zHi hx;have ob:=zHi kD;have AX:=zHi oJ;have hqB:QB<wr.heap.size:=G9;have HQ:=zHi hQ;clear oL hx kD gF kx oJ mR r1 r2 r3 r4 Ae b1 b2 b3 b4 b5 b6 eO ae rz hB fE aa hQ;go_upto_region 12 with fail
       obtain⟨WP,zF⟩: ∃WP,WP=wr.alloc (.cells #[.string nm, .int .i64 nu, .int .i64 de] 63):=⟨_,rfl⟩
       have gP:WP.heap[wr.heap.size]?=some (.cells #[.string nm, .int .i64 nu, .int .i64 de] 63):=by rw[zF];exact zar _ _ _ rfl
       have vB:Below wr.heap.size wr WP:=by rw[zF];exact Bw
       rw[<-zF];have sK:=zHi vB;have eD:=vB.size;have kZ:=zab gP;obtain⟨s0,s1,s2⟩:WP.cell? ⟨wr.heap.size,0,none⟩=some (.string nm)/\WP.cell? ⟨wr.heap.size,1,none⟩=some (.int .i64 nu)/\WP.cell? ⟨wr.heap.size,2,none⟩=some (.int .i64 de):=by
        simp only[World.cell?,gP];exact⟨rfl,rfl,rfl⟩
       obtain⟨⟨x0,x1,x2,x3,x4,x5,x6⟩,_⟩:=ax.o WP (HB.o.trans (vB.mono Mcl));have hqW:QB<WP.heap.size:=Mcl;have GQ:=zHi ((vB.block _ G9).trans HQ.o);have GP:=zHi gP;clear zF gP vB d0 d1 d2 d3 d4 d5 d6 e0 e1 e2 e3 j4 p0 p1 p2;cases cI:zdU s nm n
       ·rw[cI]at kF au;have eY:Hid (Z=zcq s n (zao (ts.drop (k+1))) ys q):=MdC;clear cI;go_wp2_with (go_at_call 37;go_must(refine(kF.o _ (by have:=sK.o;exact Bw)).mono ?_);rintro e wq ⟨rfl,z,rfl⟩)
        go_round
        case rel=>exact⟨k+1,ys,q,aq.o,by go_num,eY,zHi ob.o.skip,(eH.o.keep sK.o).keep (n:=WP.heap.size) (zam WP z),zb9 GQ.o,zbc (HB.o.trans (sK.o.mono Mcl)) z⟩
        case measure=>have:=aq.o;simp only[intOf];omega
       ·rw[cI]at kF au;have eY:Hid (Z=zcq s n (zao (ts.drop (k+1))) (za3 ys nm r) (q-r)):=MdC;have Br:=zHi (ob.o.give AX.o);clear cI
        go_upto_region 14 with(first
         |(go_at_call 37;go_must(refine(kF.o _ (by have:=sK.o;exact Bw)).mono ?_);rintro e wq ⟨rfl,z,rfl⟩)
         |(go_at_call 38;go_must(refine(eF.o _ (by have:=sK.o;exact Bw)).mono ?_);rintro e w5 ⟨v5,rfl,o5,b5⟩))
        obtain⟨YB,yd,rfl,_,_⟩:=o5.sl zan;have Gp:=b5.size;have ti:=(b5.block QB Mcu).trans (zb9 (z:=z) GQ.o);have BD:=(b5.block wr.heap.size Mcu).trans (zb9 (z:=z) GP.o);have aH:=zHi (HB.o.trans ((zbc sK.o z |>.trans (b5.mono Mcu)).mono Mcl));have kM:=zHi (o5.base_le (show QB<=(WP.ext z).heap.size by simp[zag];omega));have h5l:=zab BD;have h5m:=zab ti;obtain⟨y0,y1⟩:=zba ti;have f0:=frz ti;obtain⟨-,s1,s2⟩:=cF3 BD;clear o5 b5 BD Gp;go_wp2_with (go_at_call 39;go_must(refine(eU.o _).mono ?_);rintro e wq ⟨rfl,z5,rfl⟩)
        go_round
        case rel=>exact⟨k+1,za3 ys nm r,q-r,aq.o,by go_num,eY,Br,((kM.o.kept (zau _ _ _ _) ti Mcn).kept (zau _ _ _ _) (Joins.block_setCell (i:=0) ti _) Mcn).keep (zam _ z5),zb9 (zen ti),zbc (zaO (zaO aH.o (Nat.le_refl _) _) (Nat.le_refl _) _) z5⟩
        case measure=>have:=aq.o;simp only[intOf];omega
      ·have ar: ¬(k:Int)<(ts.length:Int):=Mcl;have hx:=HX.o;have kD:=Ej.o;rw[List.drop_of_length_le Mcl]at hx kD;have au:Hid (Z=(ys,q)):=Md0;have ob:=zHi kD;have qO:=zHi rz;have HQ:=zHi hQ;clear hx kD ae rz hQ hB fE;go_wp2_with fail
       go_meet
       exact⟨YA,yc,ys,q,rfl,au,ob,qO.o,HQ.o,HB.o⟩
 case rest=>
  obtain⟨YA,yc,ys,q,rfl,IA,lW,hY,hQ,hB⟩:=hcut;clear d0 d1 d2 d3 d4 d5 d6 e0 e1 e2 e3;have hr:=HR.o;rw[IA.o]at hr;simp only at hr;obtain⟨b1,b2,b3,b4,b5,b6⟩:=lW.o.bounds;have yB:=zgH lW.o.good lW.o.names;have sI:ys.length<=90000:=by have:=eG.o.2.2.2;omega
  have fE:Below w.heap.size w wc:=aS.o.trans (hB.mono Mcl);obtain⟨q0,q1⟩:=zba hQ;have Df:=zab hQ;have Fj:=zHi hY;have nt:=zHi sI;have aW:=zHi fE;by_cases hqz:q=0
  ·have Dg:(q.num==0)=true:=by rw[hqz];rfl
   have cm:Hid (R=some ys):=by show _=_;rw[hr,if_pos (by simpa using hqz)]
   clear hr hqz b1 b2 b3 b4 b5 b6 yB sI hB hY fE;go_wp2_with fail
   go_ret2
   exact⟨YA,yc,ys,false,rfl,Fj.o,aW.o,by have:=nt.o;omega, .inl ⟨cm.o,rfl⟩⟩
  ·have Dg:(q.num==0)=false:=by
    have:q.num≠0:=fun e=>hqz (Rat.num_eq_zero.1 e)
    simpa using this
   rw[if_neg (by simpa using hqz)]at hr;obtain⟨sp,ct⟩: ∃sp,sp=if zdU s (zaL s n) n then zaL s n else⟨#[]⟩:=⟨_,rfl⟩
   rw[<-ct]at hr;have yj:sp∈L:=by
    rw[ct];split
    ·exact eG.o.2.1
    ·exact eG.o.2.2.1
   have qR:=zHi hB;have aG:=zHi (show 0<=q/\q<=1/\zaK q from⟨b1,b2,b5⟩);have bx:=zHi hr;have Bi:=zHi yj;have Bh:=zHi ct;have bY:=zHi (fun W (hW:Below wc.heap.size wc W)=>fK.o W (fE.trans (hW.mono fE.size)));have kF:=zHi (fun x W (hW:Below wc.heap.size wc W)=>fH.o x W (fE.trans (hW.mono fE.size)));obtain⟨⟨d0,d1,d2,d3,d4,d5,d6⟩,e0,e1,e2,e3⟩:=ax.o wc hB;have KQ:w.heap.size<wc.heap.size:=Mcl;have KR:LB<wc.heap.size:=Mcl;have HQ:=zHi hQ;clear hr hqz b1 b2 b3 b4 b5 b6 yB sI hB hY fE ct yj hQ;obtain⟨WC,tE⟩: ∃WC,WC=wc:=⟨_,rfl⟩
   subst tE;go_upto_region 18 with(go_at_call 40;go_must(refine(bY.o _ Bw).mono ?_);rintro e wq ⟨rfl,z3,rfl⟩)
   have kA:=Bh.o;have DI:=zHi (fun W hW=>kF.o (zaL s n) W hW);generalize zaL s n=sq at*;go_upto_if 83 with(go_at_call 37;go_must(refine(DI.o _ Bw).mono ?_);rintro e wq ⟨rfl,z4,rfl⟩)
   go_cut [14]from 79 to 84 (fun v wc=>v= .string sp/\(WC.ext z3).ext z4=wc)
   case first=>
    cases cI:zdU s sq n
    ·rw[cI]at kA;simp only[Bool.false_eq_true,if_false]at kA;exact Mbx
    ·rw[cI]at kA;simp only[if_true]at kA;exact Mbx
   case rest=>
    obtain⟨rfl,rfl⟩:=hcut;obtain⟨WD,Cf⟩: ∃WD,WD=(WC.ext z3).ext z4:=⟨_,rfl⟩
    have dp:Below WC.heap.size WC WD:=by rw[Cf];exact Bw
    rw[<-Cf];clear Cf d0 d1 d2 d3 d4 d5 d6 e0 e1 e2 e3 q0 q1 kA DI bY kF;have Ju:=dp.size;have gQ:=(dp.block QB Df).trans HQ.o;have cy:=qR.o.trans (dp.mono Mcl);have bj:=aW.o.trans (dp.mono aW.o.size);obtain⟨⟨d0,d1,d2,d3,d4,d5,d6⟩,e0,e1,e2,e3⟩:=ax.o WD cy;obtain⟨q0,q1⟩:=zba gQ;have FY:=zab gQ;have lK:=zHi (fun W (hW:Below WD.heap.size WD W)=>cY.o W (bj.trans (hW.mono bj.size)));have En:=zHi (Fj.o.keep dp);have dh:=zHi cy;have qK:=zHi bj;have kN:=zHi (lW.o.hd.parts lW.o.bounds.2.2.2.1);have GQ:=zHi gQ;clear dp gQ cy bj;by_cases tT:ls.length=0
    ·have eO:((ls.length:Int)==0)=true:=by rw[tT];rfl
     have cm:Hid (R=some (za3 ys sp q)):=by
      show _=_;have hT:T=[]:=List.eq_nil_of_length_eq_zero (by rw[lJ.o];exact tT);rw[bx.o,hT];rfl
     have eF:=zHi (fun W (hW:Below WD.heap.size WD W)=>zcR ys sp q YA yc W (by have:=nt.o;omega) kN.o aG.o.2.2 (En.o.keep hW));have qm:=zHi (zcy sp q ys);generalize za3 ys sp q=gv at*;unfold za9 at eF;clear tT;go_upto_region 21 with(go_at_call 41;go_must(refine(lK.o _ Bw).mono ?_);rintro e w6 ⟨v6,rfl,o6,b6⟩;obtain⟨KA,kc,rfl,_,_⟩:=o6.sl zaB;clear o6)
     have qP:=b6.size;have sx:=(b6.block QB FY).trans GQ.o;obtain⟨x0,x1⟩:=zba sx;have aC:=zHi b6;clear d0 d1 d2 d3 d4 d5 d6 e0 e1 e2 e3 q0 q1 sx b6;go_wp2_with (go_at_call 38;go_must(refine(eF.o _ aC.o).mono ?_);rintro e w7 ⟨v7,rfl,o7,b7⟩;obtain⟨GV,gc,rfl,aM,_⟩:=o7.sl zan;have dG:=zHi aM;have bR:=zHi (aC.o.trans (b7.mono qP));clear o7 b7 aM)
     go_ret2
     exact⟨GV,gc,gv,false,rfl,dG.o,qK.o.trans (bR.o.mono qK.o.size),by have:=nt.o;have:=qm.o;omega, .inl ⟨cm.o,rfl⟩⟩
    ·have eO:((ls.length:Int)==0)=false:=by
      have:(ls.length:Int)≠0:=by omega
      simpa using this
     have hT: ¬T.isEmpty=true:=by
      intro e;rw[List.isEmpty_iff]at e;have:=lJ.o;rw[e]at this;exact tT this.symm
     obtain⟨own,out2,ae,cr,xT⟩: ∃(own:Rat) (out2:Parts),own=(if noB sp=true then 0 else q*Rat.divInt law.num law.den)/\out2=(if noB sp=true then ys else za3 ys sp own)/\R=if(q-own==0)=true then some out2 else zeI (q-own) T out2:=
      ⟨_,_,rfl,rfl,by
        rw[bx.o,if_neg hT];unfold zeI
        rw[<-zh1]⟩
     obtain⟨k1,k2,k3,k4,k5,k6⟩:=own_key sp dW.o lW.o.good lW.o.isN lW.o.rN aG.o.1 aG.o.2.1
     have AG:Hid (Hd out2 L/\0<=q-own/\q-own<=1/\zaK (q-own)/\sumQ out2+(q-own)=1/\out2.length<=90001):=zHi (by
      have dP:=lW.o.sum;cases hn:noB sp
      ·rw[hn]at ae cr;simp only[Bool.false_eq_true,if_false]at ae cr;rw[cr,ae];refine⟨⟨k3,k4,ziY lW.o.names Bi.o⟩,by grind,by have:=aG.o.2.1;grind,k6,by rw[zbX];grind,?_⟩;have:=zcy sp (q*Rat.divInt law.num law.den) ys;have:=nt.o;omega
      ·rw[hn]at ae cr;simp only[if_true]at ae cr;rw[cr,ae];have e:q-0=q:=McO;rw[e]
       exact⟨lW.o.hd,aG.o.1,aG.o.2.1,aG.o.2.2,dP,by have:=nt.o;omega⟩)
     have lR:=zHi xT;have eH:=zHi ae;have E7:=zHi cr;have uJ:=zHi (show 0<ls.length/\zaK (q*Rat.divInt law.num law.den) from⟨by omega,k5⟩);clear tT hT ae cr xT k1 k2 k3 k4 k5 k6;go_upto_region 22 with(go_at_call 41;go_must(refine(lK.o _ Bw).mono ?_);rintro e w6 ⟨v6,rfl,o6,b6⟩;obtain⟨KA,kc,rfl,_,_⟩:=o6.sl zaB;clear o6)
     have qP:=b6.size;have sx:=(b6.block QB FY).trans GQ.o;have rJ:=dh.o.trans (b6.mono Mcl);have Fk:=En.o.keep b6;clear d0 d1 d2 d3 d4 d5 d6 e0 e1 e2 e3 q0 q1;have aC:=zHi rJ;have E9:=zHi sx;have Em:=zHi Fk;have IF:=zab sx;obtain⟨⟨d0,d1,d2,d3,d4,d5,d6⟩,e0,e1,e2,e3⟩:=ax.o w6 rJ;obtain⟨q0,q1⟩:=zba sx;have h6l:LB<w6.heap.size:=Mcl;clear b6 sx rJ Fk;go_upto_if 96 with fail
     go_cut [10,15]from 95 to 107 (fun v10 _ wc=> ∃(ZA:Option Addr) (zc:Nat),v10= .slice ZA out2.length zc/\Sl wc 3 zaa ZA out2/\wc.heap[QB]?=some (.cells #[.int .i64 (q-own).num, .int .i64 (q-own).den] 58)/\Below QB W2 wc)
     case first=>
      cases hn:noB sp
      ·have w2: ¬sp.toList=[]:=by simpa using(show sp.toList.isEmpty=false from hn)
       have y2:sp.toList.isEmpty=false:=hn;have y3:(!sp.toList.isEmpty)=true:=by rw[y2];rfl
       rw[y3];have ae:=eH.o;have cr:=E7.o;rw[hn]at ae cr;simp only[Bool.false_eq_true,if_false]at ae cr;obtain⟨r1,r2,r3,r4⟩:=zbl dW.o;have nH:=uJ.o.2;rw[<-ae]at nH;have jb:=zHi (fun W=>zg6 q (Rat.divInt law.num law.den) W aG.o.2.2 (zc8 Mcn Mcn (zel dW.o) r3 r4));have eU:=zHi (fun W=>zhL q own W aG.o.2.2 nH);have eF:=zHi (fun W (hW:Below w6.heap.size w6 W)=>zcR ys sp own YA yc W (by have:=nt.o;omega) kN.o nH (Em.o.keep hW));rw[<-ae]at jb;rw[<-cr]at eF;unfold za9 at jb eU eF;rw[r1,r2]at jb;clear hn ae cr r1 r2 r3 r4 nH;go_upto_region 24 with(go_at_call 42;go_must(refine(jb.o _).mono ?_);rintro e wq ⟨rfl,z6,rfl⟩)
       obtain⟨OB,jL⟩: ∃OB,OB=w6.heap.size+z6.os.size:=⟨_,rfl⟩
       obtain⟨WO,zE⟩: ∃WO,WO=(w6.ext z6).alloc (.cells #[.int .i64 (own).num, .int .i64 (own).den] 58):=⟨_,rfl⟩
       have gO:WO.heap[OB]?=some (.cells #[.int .i64 (own).num, .int .i64 (own).den] 58):=by rw[zE];exact zar _ _ _ (by rw[jL];simp[zag])
       have Cq:Below w6.heap.size w6 WO:=by rw[zE];exact zac (zam w6 z6) _
       rw[<-zE,<-jL];clear zE jL d0 d1 d2 d3 d4 d5 d6 e0 e1 e2 e3 q0 q1;obtain⟨o0,o1⟩:=zba gO;have J5:=Cq.size;have vR:=zab gO;have Ap:=zHi Cq;have GO:=zHi gO;clear gO Cq;go_upto_region 25 with(go_at_call 38;go_must(refine(eF.o _ (by have:=Ap.o;exact Bw)).mono ?_);rintro e w7 ⟨v7,rfl,o7,b7⟩)
       obtain⟨GV,gc,rfl,_,_⟩:=o7.sl zan;have Et:=b7.size;have tj:=(b7.block QB Mcl).trans ((Ap.o.block QB IF).trans E9.o);have BF:=(b7.block OB vR).trans GO.o;have bR:=zHi (aC.o.trans ((Ap.o.trans (b7.mono J5)).mono Mcl));have uS:=zHi (o7.base_le (show QB<=WO.heap.size by omega));have h7l:=zab BF;have h7m:=zab tj;obtain⟨y0,y1⟩:=zba tj;obtain⟨y2,y3⟩:=zba BF;have f0:=frz tj;clear o7 b7 BF o0 o1;go_wp2_with (go_at_call 39;go_must(refine(eU.o _).mono ?_);rintro e wq ⟨rfl,z5,rfl⟩)
       go_meet
       exact⟨GV,gc,rfl,(ziT zan (((uS.o.kept (zau _ _ _ _) tj Mcn).kept (zau _ _ _ _) (Joins.block_setCell (i:=0) tj _) Mcn).keep (zam _ z5))).1,zb9 (zen tj),zbc (zaO (zaO bR.o (Nat.le_refl _) _) (Nat.le_refl _) _) z5⟩
      ·have w2:sp.toList=[]:=by simpa using(show sp.toList.isEmpty=true from hn)
       have y2:sp.toList.isEmpty=true:=hn;have y3:(!sp.toList.isEmpty)=false:=by rw[y2];rfl
       rw[y3];have ae:=eH.o;have cr:=E7.o;rw[hn]at ae cr;simp only[if_true]at ae cr;have Av:Hid (q-own=q/\out2=ys):=zHi ⟨by rw[ae];grind,cr⟩;clear hn ae cr;go_wp2_with fail
       go_meet
       exact⟨YA,yc,by rw[Av.o.2],by rw[Av.o.2];exact Em.o,by rw[Av.o.1];exact E9.o,aC.o⟩
     case rest=>
      obtain⟨ZA,zc,rfl,Ci,hQ,hB⟩:=hcut;clear d0 d1 d2 d3 d4 d5 d6 e0 e1 e2 e3 q0 q1;obtain⟨kk1,kk2,kk3,kk4,kk5,kk6⟩:=AG.o;have Kx:=zab hQ;have bj:=aS.o.trans (hB.mono Mcl);have BB:=zHi Ci;have qa:=zHi bj;have KS:w.heap.size<wc.heap.size:=Mcl;have KT:LB<wc.heap.size:=Mcl;obtain⟨⟨d0,d1,d2,d3,d4,d5,d6⟩,e0,e1,e2,e3⟩:=ax.o wc hB;obtain⟨q0,q1⟩:=zba hQ;have I6:=zHi kk6;by_cases hz:q-own=0
      ·have mW: ¬(0:Int)<(q-own).num:=by rw[hz];decide
       have cm:Hid (R=some out2):=by show _=_;rw[lR.o,if_pos Mds]
       have dj:=zHi (fun W (hW:Below wc.heap.size wc W)=>zdG out2 ZA zc W Mcl (BB.o.keep hW));rw[kk1.small]at dj;clear hz kk1 kk2 kk3 kk4 kk5 kk6 hB hQ Ci bj;go_wp2_with (go_at_call 44;go_must(refine(dj.o _ Bw).mono ?_);rintro e wq ⟨rfl,rfl⟩)
       go_ret2
       exact⟨ZA,zc,out2,false,rfl,BB.o,qa.o,by have:=I6.o;omega, .inl ⟨cm.o,rfl⟩⟩
      ·have Gx:0<q-own:=McO;have mW:(0:Int)<(q-own).num:=zk9.1 Gx;have Dm:R=zeI (q-own) T out2:=by rw[lR.o,if_neg Mds]
       have bY:=zHi (fun W (hW:Below wc.heap.size wc W)=>qD.o (q-own) ZA zc out2 W (bj.trans (hW.mono bj.size)) (BB.o.keep hW) kk1 kk2 kk4 McO uJ.o.1)
       have yQ:Hid (∀xs,R=some xs->zaE xs=false):=zHi (fun xs hx=>by
        rw[Dm]at hx;unfold zeI at hx;split at hx
        ·cases hx
        ·exact(ze2 (Rat.mul_nonneg kk2 (zhO (by rw[lJ.o];exact uJ.o.1)).2.2.1) kk1.good kk1.small hx).2)
       rw[<-Dm]at bY;clear hz Gx Dm kk1 kk2 kk3 kk4 kk5 kk6 hB hQ Ci bj;go_upto_region 28 with(go_at_call 43;go_must(refine(bY.o _ Bw).mono ?_);rintro e w8 ⟨XA,xc,xs,rfl,x1,x2,x3,x4⟩)
       have dj:=zHi (fun W (hW:Below w8.heap.size w8 W)=>zdG xs XA xc W Mcl (x1.keep hW));have Ek:=zHi x1;have au:=zHi (qa.o.trans (x2.mono qa.o.size));have eY:=zHi x3;have ka:=zHi x4;clear x1 x2 x3 x4 d0 d1 d2 d3 d4 d5 d6 e0 e1 e2 e3 q0 q1;cases hlg:zaE xs
       ·rw[hlg]at dj;go_wp2_with (go_at_call 44;go_must(refine(dj.o _ (Below.refl _ _)).mono ?_);rintro e wq ⟨rfl,rfl⟩)
        go_ret2
        rcases ka.o with h|⟨h1,h2⟩
        ·exact⟨XA,xc,xs,false,rfl,Ek.o,au.o,eY.o, .inl ⟨h,rfl⟩⟩
        ·rw[hlg]at h2;cases h2
       ·rw[hlg]at dj;go_wp2_with (go_at_call 44;go_must(refine(dj.o _ (Below.refl _ _)).mono ?_);rintro e wq ⟨rfl,rfl⟩)
        go_ret2
        rcases ka.o with h|⟨h1,h2⟩
        ·have:=yQ.o xs h;rw[hlg]at this;cases this
        ·exact⟨XA,xc,xs,true,rfl,Ek.o,au.o,eY.o, .inr ⟨h1,rfl⟩⟩
theorem slw_list {α β:Type} {W:World} {size:Nat} {R:World->α->List Value->Prop} {f:β->List Value} {pr:β->α} {G:β->Prop} (hR: ∀x cs,R W x cs-> ∃y,pr y=x/\G y/\f y=cs) {A:Option Addr} {xs:List α} (h:SlW W size R A xs):
 ∃ys:List β,ys.map pr=xs/\(∀y∈ys,G y)/\Sl W size f A ys:=by
 by_cases h0:xs=[]
 ·subst h0;exact⟨[],rfl,by simp,fun h=>absurd h Mco⟩
 ·have hl:0<xs.length:=List.length_pos_iff.2 h0;obtain⟨b,off,hA,hb,hc⟩:=h hl;have aY: ∀n,n<=xs.length-> ∃ys:List β,ys.map pr=xs.take n/\(∀y∈ys,G y)/\ ∀k y,ys[k]?=some y-> ∀j u,(f y)[j]?=some u->W.cell? ⟨b,off+k*size+j,none⟩=some u:=by
   intro n;induction n with
   |zero=>intro _;exact⟨[],by simp,by simp,by simp⟩
   |succ n ih=>
    intro hn;obtain⟨ys,h1,h2,h3⟩:=ih Mcl;obtain⟨cs,hr,ah⟩:=hc n _ (List.getElem?_eq_getElem (show n<xs.length by omega));obtain⟨y,e1,e2,e3⟩:=hR _ _ hr;have ag:ys.length=n:=by
     have:=congrArg List.length h1;simp at this;omega
    refine⟨ys++[y],?_,?_,?_⟩
    ·rw[List.map_append,h1,List.take_add_one,List.getElem?_eq_getElem (show n<xs.length by omega)];simp[e1]
    ·intro z hz;rcases List.mem_append.1 hz with hz|hz
     ·exact h2 z hz
     ·rw[List.mem_singleton.1 hz];exact e2
    ·intro k z hk;by_cases jv:k<n
     ·rw[List.getElem?_append_left Mcl]at hk;exact h3 k z hk
     ·have fX:k=n:=by
       exact MbH
      subst fX;rw[List.getElem?_append_right Mcl,ag]at hk;simp at hk;subst hk;intro j u hu;exact ah j u (by rw[<-e3];exact hu)
  obtain⟨ys,h1,h2,h3⟩:=aY xs.length (Nat.le_refl _);rw[List.take_length]at h1;exact⟨ys,h1,h2,fun _=>⟨b,off,hA,hb,h3⟩⟩
theorem slw_back {α β:Type} {W:World} {size:Nat} {R:World->α->List Value->Prop} {f:β->List Value} {pr:β->α} {G:β->Prop} (hG: ∀y,G y->R W (pr y) (f y)) {A:Option Addr} {xs:List α} {ys:List β} (h:Sl W size f A ys) (hm:ys.map pr=xs) (hg: ∀y∈ys,G y):SlW W size R A xs:=fun hl=>by
 subst hm;obtain⟨b,off,hA,hb,hc⟩:=h (by simpa using hl);refine⟨b,off,hA,hb,fun k x hk=> ?_⟩;rw[List.getElem?_map]at hk;obtain⟨y,hy,rfl⟩:=Option.map_eq_some_iff.1 hk;exact⟨f y,hG y (hg y (List.mem_of_getElem? hy)),fun j u hu=>hc k y hy j u hu⟩
structure GX where
 g:Grave
 H:Option Addr
 hc:Nat
 D:Option Addr
 dc:Nat
def GX.cells (x:GX):List Value:=[.string x.g.place, .int .i64 x.g.cls, .int .i64 x.g.fin, .slice x.H x.g.holders.length x.hc, .slice x.D x.g.died.length x.dc]
theorem zcS (x:GX):x.cells.length=5:=rfl
theorem zkb (x:GX): ∀u∈x.cells,u.oneCell'=true:=by simp[GX.cells,Value.oneCell']
def GX.ok (W:World) (x:GX):Prop:=Sl W 3 zaa x.H x.g.holders/\Sl W 1 sC x.D x.g.died
theorem GX.ok.keep {W W':World} {x:GX} {n:Nat} (h:x.ok W) (hB:Below n W W') (hn:W.heap.size<=n:=by first|exact Nat.le_refl _|omega):x.ok W':=⟨h.1.keep hB hn,h.2.keep hB hn⟩
theorem zns {W:World} {A:Option Addr} {gs:List Grave} (h:SlW W 5 zhZ A gs): ∃xs:List GX,xs.map (·.g)=gs/\(∀x∈xs,x.ok W)/\Sl W 5 GX.cells A xs:=
 slw_list (fun x cs hr=>by
  obtain⟨H,hc,D,dc,rfl,h1,h2⟩:=hr
  exact⟨⟨x,H,hc,D,dc⟩,rfl,⟨h1,h2⟩,rfl⟩) h
theorem slw_gx {W:World} {A:Option Addr} {gs:List Grave} {xs:List GX} (h:Sl W 5 GX.cells A xs) (hm:xs.map (·.g)=gs) (hg: ∀x∈xs,x.ok W):SlW W 5 zhZ A gs:=
 slw_back (fun y hy=>⟨y.H,y.hc,y.D,y.dc,rfl,hy.1,hy.2⟩) h hm hg
theorem zhl:ElTy Tryz.prog 38 46 5 80:=zd5 (z:= .agg #[.string ⟨#[]⟩, .int .i64 0, .int .i64 0, .slice none 0 0, .slice none 0 0]) Mcm Mcm rfl Mcn
structure RowC (W:World) (e:TypeId) (g o size:Nat) (css:List (List Value)):Prop where
 len: ∀c∈css,c.length=size
 row: ∃cur,W.heap[g]?=some (.cells cur e (0,0))/\o+css.length*size<=cur.size/\ ∀k c,css[k]?=some c-> ∀j u,c[j]?=some u->cur[o+k*size+j]?=some u
section
variable {W W':World} {e:TypeId} {g o size:Nat} {css:List (List Value)}
theorem RowC.at (h:RowC W e g o size css) {k:Nat} {c:List Value} (hk:css[k]?=some c) {j:Nat} {u:Value} (hj:c[j]?=some u):W.cell? ⟨g,o+k*size+j,none⟩=some u:=by
 obtain⟨cur,h1,_,h3⟩:=h.row;simp only[World.cell?,h1];exact h3 k c hk j u hj
theorem RowC.lt (h:RowC W e g o size css):g<W.heap.size:=by
 obtain⟨cur,h1,_⟩:=h.row;exact zab h1
theorem RowC.frz (h:RowC W e g o size css): ∀j,W.frozen? ⟨g,j,none⟩=false:=by
 obtain⟨cur,h1,_⟩:=h.row;exact Go.Proofs.YtckkbkdcdkhglaaGreatDoor.frz h1
theorem RowC.block (h:RowC W e g o size css) (hb:W'.heap[g]?=W.heap[g]?):RowC W' e g o size css:=by
 obtain⟨cur,h1,h2⟩:=h.row;exact⟨h.len,cur,hb.trans h1,h2⟩
theorem RowC.keep {n:Nat} (h:RowC W e g o size css) (hB:Below n W W') (hn:W.heap.size<=n:=by first|exact Nat.le_refl _|omega):RowC W' e g o size css:=h.block (hB.block g (Nat.lt_of_lt_of_le h.lt hn))
theorem RowC.sl {α:Type} {f:α->List Value} {xs:List α} (h:RowC W e g o size css) (hc:css=xs.map f):Sl W size f (some ⟨g,o,none⟩) xs:=fun _=>
 ⟨g,o,rfl,h.lt,fun k x hk j u hu=>h.at (k:=k) (by rw[hc,List.getElem?_map,hk];rfl) hu⟩
theorem OwnS.row {α:Type} {base n cap:Nat} {f:α->List Value} {xs:List α} (ag: ∀x,(f x).length=size) (h:OwnS W base e size f (.slice (some ⟨g,o,none⟩) n cap) xs):RowC W e g o size (xs.map f):=by
 rcases h with⟨h,_⟩|⟨g',o',c',cur,h,hb,hg,hc,hm,hs,hx⟩
 ·cases h
 ·simp only[Value.slice.injEq,Option.some.injEq,Addr.mk.injEq,and_true]at h;obtain⟨⟨rfl,rfl⟩,rfl,rfl⟩:=h;refine⟨fun c hc=> ?_,cur,hg,?_,fun k c hk j u hu=> ?_⟩
  ·obtain⟨x,_,rfl⟩:=List.mem_map.1 hc;exact ag x
  ·rw[List.length_map];exact Nat.le_trans (Nat.add_le_add_left (Nat.mul_le_mul_right _ hc) _) hs
  ·rw[List.getElem?_map]at hk;obtain⟨x,eR,rfl⟩:=Option.map_eq_some_iff.1 hk;have:=hx (k*size+j) u (zeR f size ag xs k x eR j u hu);rw[Nat.add_assoc];exact this
theorem RowC.set (h:RowC W e g o size css) {i j:Nat} {c:List Value} {u:Value} (hi:css[i]?=some c) (hj:j<size):RowC (W.setCell ⟨g,o+i*size+j,none⟩ u) e g o size (css.set i (c.set j u)):=by
 obtain⟨cur,h1,h2,h3⟩:=h.row;have bo:=h.len c (List.mem_of_getElem? hi);have eb:i<css.length:=(List.getElem?_eq_some_iff.1 hi).1;have aN:o+i*size+j<cur.size:=by
  have:(i+1)*size<=css.length*size:=Nat.mul_le_mul_right _ eb;rw[Nat.add_mul]at this;omega
 have hb:=Joins.block_setCell (i:=o+i*size+j) h1 u;refine⟨fun d hd=> ?_,_,hb,?_,fun k d hk m v hm=> ?_⟩
 ·rcases List.mem_or_eq_of_mem_set hd with hd|rfl
  ·exact h.len d hd
  ·rw[List.length_set];exact bo
 ·rw[List.length_set];simpa using h2
 ·rw[List.getElem?_set]at hk;by_cases ar:i=k
  ·subst ar;rw[if_pos rfl,if_pos eb]at hk;simp only[Option.some.injEq]at hk;subst hk;rw[List.getElem?_set]at hm;by_cases hjm:j=m
   ·subst hjm;rw[if_pos rfl,if_pos Mcl]at hm;simp only[Option.some.injEq]at hm;subst hm;simp[aN]
   ·rw[if_neg hjm]at hm;have:=h3 i c hi m v hm;rw[Array.getElem?_setIfInBounds_ne Mcl];exact this
  ·rw[if_neg ar]at hk;have ft:m<size:=by
    have:=(List.getElem?_eq_some_iff.1 hm).1;rw[h.len d (List.mem_of_getElem? hk)]at this;exact this
   have ai:o+i*size+j≠o+k*size+m:=by
    intro he;have rS:i*size+j=k*size+m:=Mcl;rcases Nat.lt_or_gt_of_ne ar with aa|aa
    ·have:(i+1)*size<=k*size:=Nat.mul_le_mul_right _ aa;rw[Nat.add_mul]at this;omega
    ·have:(k+1)*size<=i*size:=Nat.mul_le_mul_right _ aa;rw[Nat.add_mul]at this;omega
   rw[Array.getElem?_setIfInBounds_ne ai];exact h3 k d hk m v hm
end
def StAt (w:World) (laws:List Law) (s:St) (a0 a1 a2 a3 a4 a5 a6:Value):Prop:=
 ∃(wd rd:List Deed) (LA CA MA DA WA RA GA:Option Addr) (c0 c1 c2 c3 c4 c5 c6:Nat),a0= .slice LA laws.length c0/\a1= .slice CA s.children.length c1/\a2= .slice MA s.marriages.length c2/\a3= .slice DA s.dead.length c3/\a4= .slice WA wd.length c4/\a5= .slice RA rd.length c5/\a6= .slice GA s.graves.length c6/\
  StIn w laws s wd rd LA CA MA DA WA RA GA c0 c1 c2 c3 c4 c5 c6/\StLink s wd rd
def zcC:Value->Bool
 | .slice ..=>true
 |_=>false
theorem zeJ {a:Value} (h:zcC a=true): ∃A n c,a= .slice A n c:=by
 cases a<;>first|exact⟨_,_,_,rfl⟩|cases h
theorem zcd {a0 a1 a2 a3 a4 a5 a6:Value} (h:([a0,a1,a2,a3,a4,a5,a6].all zcC)=true):(∃A n c,a0= .slice A n c)/\(∃A n c,a1= .slice A n c)/\(∃A n c,a2= .slice A n c)/\(∃A n c,a3= .slice A n c)/\(∃A n c,a4= .slice A n c)/\(∃A n c,a5= .slice A n c)/\(∃A n c,a6= .slice A n c):=by
 simp only[List.all_cons,Bool.and_eq_true]at h;obtain⟨h0,h1,h2,h3,h4,h5,h6,_⟩:=h;exact⟨zeJ h0,zeJ h1,zeJ h2,zeJ h3,zeJ h4,zeJ h5,zeJ h6⟩
def zfH (w:World) (laws:List Law) (R:St×Int) (e:Ending) (w':World):Prop:=
 ∃a0 a1 a2 a3 a4 a5 a6,e= .returned (.tuple #[.agg #[a0,a1,a2,a3,a4,a5,a6], .int .i64 R.2])/\([a0,a1,a2,a3,a4,a5,a6].all zcC)=true/\Below w.heap.size w w'/\(R.2=0->StAt w' laws R.1 a0 a1 a2 a3 a4 a5 a6)
theorem zpe {fn:Func} {p q:Tmp} {a:TypeId} (h:fn.results= #[.cell p a, .tmp q]) (tmps:Array Value) (P:Program) (w:World):
 (results fn tmps).run P w=((asAddr (tmps.getD p undef)).run P w).andThen fun x w₁=>((loadVar a x).run P w₁).andThen fun v w₂=> .ok (.tuple #[v,tmps.getD q undef]) w₂:=by
 simp only[results,h];simp[Sem.run_bind,Result.andThen]
section
variable {w:World} {B:Nat} {x0 x1 x2 x3 x4 x5 x6 y:Value}
theorem zbA {fn:Func} {p q:Tmp} (h:fn.results= #[.cell p 40, .tmp q]) (tmps:Array Value) (hp:tmps.getD p undef= .pointer (some ⟨B,0,none⟩)) (hq:tmps.getD q undef=y)
 (hx:w.heap[B]?=some (.cells #[x0,x1,x2,x3,x4,x5,x6] 40)):(results fn tmps).run Tryz.prog w= .ok (.tuple #[.agg #[x0,x1,x2,x3,x4,x5,x6],y]) w:=by
 obtain⟨h0,h1,h2,h3,h4,h5,h6⟩:=zaG hx;clear hx;rw[zpe h,hp,hq];go_simp
theorem zkc {fn:Func} {p:Tmp} (h:fn.results= #[.cell p 40]) (tmps:Array Value) (hp:tmps.getD p undef= .pointer (some ⟨B,0,none⟩))
 (hx:w.heap[B]?=some (.cells #[x0,x1,x2,x3,x4,x5,x6] 40)):(results fn tmps).run Tryz.prog w= .ok (.agg #[x0,x1,x2,x3,x4,x5,x6]) w:=by
 obtain⟨h0,h1,h2,h3,h4,h5,h6⟩:=zaG hx;exact Ma6
end
theorem RowC.ne {W:World} {e:TypeId} {g o size b j:Nat} {u:Value} {css:List (List Value)} (h:RowC W e g o size css) (ai:g≠b):RowC (W.setCell ⟨b,j,none⟩ u) e g o size css:=by
 obtain⟨cur,h1,h2⟩:=h.row;exact⟨h.len,cur,J_ne ai h1,h2⟩
theorem zc9 {n b:Nat} {w W:World} {a0 a1 a2 a3 a4 a5 a6:Value} (h:Below n w W) (hb:n<=b):Below n w (((((((W.setCell ⟨b,0,none⟩ a0).setCell ⟨b,1,none⟩ a1).setCell ⟨b,2,none⟩ a2).setCell ⟨b,3,none⟩ a3).setCell ⟨b,4,none⟩ a4).setCell ⟨b,5,none⟩ a5).setCell ⟨b,6,none⟩ a6):=
 zaO (zaO (zaO (zaO (zaO (zaO (zaO h hb _) hb _) hb _) hb _) hb _) hb _) hb _
theorem RowC.ne7 {W:World} {e:TypeId} {g o size b:Nat} {a0 a1 a2 a3 a4 a5 a6:Value} {css:List (List Value)} (h:RowC W e g o size css) (ai:g≠b):RowC (((((((W.setCell ⟨b,0,none⟩ a0).setCell ⟨b,1,none⟩ a1).setCell ⟨b,2,none⟩ a2).setCell ⟨b,3,none⟩ a3).setCell ⟨b,4,none⟩ a4).setCell ⟨b,5,none⟩ a5).setCell ⟨b,6,none⟩ a6) e g o size css:=
 ((((((h.ne ai).ne ai).ne ai).ne ai).ne ai).ne ai).ne ai
theorem zkd (W:World) (base:Nat) (h:base<=W.heap.size):OwnS (W.alloc (.cells #[] 46)) base 46 5 GX.cells (.slice (some ⟨W.heap.size,0,none⟩) 0 0) []:=
 OwnS.of_own zcS (World.ownsRow_made W #[] 0 h (Nat.zero_le _) Mco)
def zgJ (w:World) (laws:List Law) (s:St) (wd rd:List Deed) (LA CA MA DA WA RA GA:Option Addr) (c0 c1 c2 c3 c4 c5 c6:Nat) (gxs:List GX) (i:Nat) (x:GX) (e:Ending) (w':World):Prop:=
 ∃(ga go c:Nat),e= .returned (.agg #[.slice LA laws.length c0, .slice CA s.children.length c1, .slice MA s.marriages.length c2, .slice DA s.dead.length c3, .slice WA wd.length c4, .slice RA rd.length c5, .slice (some ⟨ga,go,none⟩) s.graves.length c])/\RowC w' 46 ga go 5 ((gxs.set i x).map GX.cells)/\Below w.heap.size w w'
theorem zjc (laws:List Law) (s:St) (wd rd:List Deed) (LA CA MA DA WA RA GA:Option Addr) (c0 c1 c2 c3 c4 c5 c6:Nat) (xs:List GX) (i:Nat) (x:GX) (w:World) (hm:xs.map (·.g)=s.graves) (bw:Sl w 5 GX.cells GA xs) (hf:StFew s wd rd) (hi:i<s.graves.length):
 Calls Tryz.prog 167 #[.agg #[.slice LA laws.length c0, .slice CA s.children.length c1, .slice MA s.marriages.length c2, .slice DA s.dead.length c3, .slice WA wd.length c4, .slice RA rd.length c5, .slice GA s.graves.length c6], .int .i64 i, .agg x.cells.toArray] w (zgJ w laws s wd rd LA CA MA DA WA RA GA c0 c1 c2 c3 c4 c5 c6 xs i x):=by
 have bK:xs.length=s.graves.length:=by rw[<-hm,List.length_map]
 have JJ:=hf.graves;have bZ:=zHi bw;unfold zgJ GX.cells;rw[<-bK]at hi JJ⊢;have fU:=zHi bK;clear hm bw hf bK;go_enter Tryz.func167,Tryz.ntmps167
 go_upto_region 1 with fail
 obtain⟨W0,ao⟩: ∃W0,W0=((w.alloc (.cells #[.slice LA laws.length c0, .slice CA s.children.length c1, .slice MA s.marriages.length c2, .slice DA s.dead.length c3, .slice WA wd.length c4, .slice RA rd.length c5, .slice GA xs.length c6] 40)).alloc (.cells #[.string x.g.place, .int .i64 x.g.cls, .int .i64 x.g.fin, .slice x.H x.g.holders.length x.hc, .slice x.D x.g.died.length x.dc] 46)).alloc (.cells #[.slice none 0 0, .slice none 0 0, .slice none 0 0, .slice none 0 0, .slice none 0 0, .slice none 0 0, .slice none 0 0] 40):=⟨_,rfl⟩
 have g0:W0.heap[w.heap.size]?=some (.cells #[.slice LA laws.length c0, .slice CA s.children.length c1, .slice MA s.marriages.length c2, .slice DA s.dead.length c3, .slice WA wd.length c4, .slice RA rd.length c5, .slice GA xs.length c6] 40):=Mdo;have g1:W0.heap[w.heap.size+1]?=some (.cells #[.string x.g.place, .int .i64 x.g.cls, .int .i64 x.g.fin, .slice x.H x.g.holders.length x.hc, .slice x.D x.g.died.length x.dc] 46):=by rw[ao];exact zak (zar _ _ _ Mco)
 have g2:W0.heap[w.heap.size+2]?=some (.cells #[.slice none 0 0, .slice none 0 0, .slice none 0 0, .slice none 0 0, .slice none 0 0, .slice none 0 0, .slice none 0 0] 40):=by rw[ao];exact zar _ _ _ Mco
 have aI:Below w.heap.size w W0:=McY;rw[<-ao];clear ao;obtain⟨s0,s1,s2,s3,s4,s5,s6⟩:=zaG g0;have l2:=zab g2;have l0:w.heap.size<W0.heap.size:=Mcl;have ak:=zHi aI;have lY:=aI.size;clear aI
 go_upto_region 2 with(at_builtin
                       go_loud(refine zav (v:= .slice (some ⟨W0.heap.size,0,none⟩) 0 0) (n:=0) (m:=xs.length) rfl _ _ rfl zhl zcS zkb rfl (xs:=[]) (ys:=xs) (zkd W0 W0.heap.size (Nat.le_refl _)) rfl rfl rfl (bZ.o.keep (ak.o.trans (Below.mono (B:=W0.heap.size) Bw lY))) McT Mcl Mco ?_)
                       intro v2 w2 h1 h2 h3;rw[List.nil_append]at h1;have e0:w2.heap[w.heap.size]?=_:=(h2.block w.heap.size Mcq Mdy).trans (zak g0);have e1:w2.heap[w.heap.size+1]?=_:=(h2.block (w.heap.size+1) Mcq Mdy).trans (zak g1);have e2:w2.heap[w.heap.size+2]?=_:=(h2.block (w.heap.size+2) Mcq Mdy).trans (zak g2);have bF:Below W0.heap.size W0 w2:=Below.grown (zac (Below.refl _ _) _) h2 Mco McZ;have fF:=h1.ge;obtain⟨V2,c2',rfl,_,_⟩:=h1.sl zcS;obtain⟨ga,go,rfl⟩: ∃ga go,V2=some ⟨ga,go,none⟩:=by
                        rcases h1 with⟨he,h0⟩|⟨g',o',_,_,he,_⟩
                        ·rw[h0]at hi;exact absurd hi Mco
                        ·simp only[Value.slice.injEq]at he;exact⟨g',o',he.1⟩
                       have zS:=(fF ga rfl).1;have bi:=OwnS.row zcS h1;have f6:=frz e0 6;obtain⟨y0,y1,y2,y3,y4,y5,y6⟩:=zaG e0
                       clear h1 h2 h3 fF)
 obtain⟨W3,aX⟩: ∃W3,W3=w2.setCell ⟨w.heap.size,6,none⟩ (.slice (some ⟨ga,go,none⟩) xs.length c2'):=⟨_,rfl⟩
 have b0:W3.heap[w.heap.size]?=some (.cells #[.slice LA laws.length c0, .slice CA s.children.length c1, .slice MA s.marriages.length c2, .slice DA s.dead.length c3, .slice WA wd.length c4, .slice RA rd.length c5, .slice (some ⟨ga,go,none⟩) xs.length c2'] 40):=by
  rw[aX];have:=Joins.block_setCell (i:=6) e0 (.slice (some ⟨ga,go,none⟩) xs.length c2');simpa using this
 have b1:W3.heap[w.heap.size+1]?=some (.cells #[.string x.g.place, .int .i64 x.g.cls, .int .i64 x.g.fin, .slice x.H x.g.holders.length x.hc, .slice x.D x.g.died.length x.dc] 46):=by rw[aX];exact J_ne Mcl e1
 have b2:W3.heap[w.heap.size+2]?=some (.cells #[.slice none 0 0, .slice none 0 0, .slice none 0 0, .slice none 0 0, .slice none 0 0, .slice none 0 0, .slice none 0 0] 40):=by rw[aX];exact J_ne Mcl e2
 have r3:RowC W3 46 ga go 5 (xs.map GX.cells):=by rw[aX];exact bi.ne Mcl
 have eZ:Below w.heap.size w W3:=by rw[aX];exact zaO (ak.o.trans (bF.mono lY)) Mco _
 rw[<-aX];clear aX bi e0 e1 e2 bF f6 y0 y1 y2 y3 y4 y5 y6 s0 s1 s2 s3 s4 s5 s6 g0 g1 g2;obtain⟨s0,s1,s2,s3,s4,s5,s6⟩:=zaG b0;obtain⟨v0,v1,v2,v3,v4⟩:=zec b1;have aA:(xs.map GX.cells)[i]?=some (xs[i]).cells:=by rw[List.getElem?_map,List.getElem?_eq_getElem hi];rfl
 have gX: ∀j u,(xs[i]).cells[j]?=some u->W3.cell? ⟨ga,go+i*5+j,none⟩=some u:=fun j u hu=>r3.at aA hu
 have rf:=r3.frz;have q0:=gX 0 _ rfl;have q1:=gX 1 _ rfl;have q2:=gX 2 _ rfl;have q3:=gX 3 _ rfl;have q4:=gX 4 _ rfl;simp only[Nat.add_zero]at q0;have t0:RowC (W3.setCell ⟨ga,go+i*5,none⟩ (.string x.g.place)) 46 ga go 5 _:=r3.set (j:=0) (u:= .string x.g.place) aA Mcn;have sg:i<(xs.map GX.cells).length:=by rw[List.length_map];exact hi
 have t1:=t0.set (i:=i) (j:=1) (u:= .int .i64 x.g.cls) (c:=(xs[i]).cells.set 0 (.string x.g.place)) (by rw[List.getElem?_set_self sg]) Mcn;have t2:=t1.set (i:=i) (j:=2) (u:= .int .i64 x.g.fin) (c:=((xs[i]).cells.set 0 (.string x.g.place)).set 1 (.int .i64 x.g.cls)) (by rw[List.getElem?_set_self (by rw[List.length_set];exact sg)]) Mcn;have t3:=t2.set (i:=i) (j:=3) (u:= .slice x.H x.g.holders.length x.hc) (c:=(((xs[i]).cells.set 0 (.string x.g.place)).set 1 (.int .i64 x.g.cls)).set 2 (.int .i64 x.g.fin)) (by rw[List.getElem?_set_self (by rw[List.length_set,List.length_set];exact sg)]) Mcn;have t4:=t3.set (i:=i) (j:=4) (u:= .slice x.D x.g.died.length x.dc) (c:=((((xs[i]).cells.set 0 (.string x.g.place)).set 1 (.int .i64 x.g.cls)).set 2 (.int .i64 x.g.fin)).set 3 (.slice x.H x.g.holders.length x.hc)) (by rw[List.getElem?_set_self (by rw[List.length_set,List.length_set,List.length_set];exact sg)]) Mcn;have tP:(i:Int)<(xs.length:Int):=Mcl;have eN:(0:Int)<=(i:Int):=Mcl;have T4:=zHi t4;have R3:=zHi r3;have aJ:=zHi eZ;have B0:=zHi b0;have B2:=zHi b2;have aM:w.heap.size≠ga:=Mcl;have rZ:ga≠w.heap.size:=Mcl;have dt:ga≠w.heap.size+2:=Mcl;have mE:w.heap.size+2≠ga:=Mcl;clear t0 t1 t2 t3 t4 r3 eZ b0 b1 b2 gX sg;go_upto_region 3 with fail
 obtain⟨W4,iu⟩: ∃W4,W4=((((W3.setCell ⟨ga,go+i*5,none⟩ (.string x.g.place)).setCell ⟨ga,go+i*5+1,none⟩ (.int .i64 x.g.cls)).setCell ⟨ga,go+i*5+2,none⟩ (.int .i64 x.g.fin)).setCell ⟨ga,go+i*5+3,none⟩ (.slice x.H x.g.holders.length x.hc)).setCell ⟨ga,go+i*5+4,none⟩ (.slice x.D x.g.died.length x.dc):=⟨_,rfl⟩
 have t4:=T4.o;rw[<-iu]at t4⊢;have b0:W4.heap[w.heap.size]?=some (.cells #[.slice LA laws.length c0, .slice CA s.children.length c1, .slice MA s.marriages.length c2, .slice DA s.dead.length c3, .slice WA wd.length c4, .slice RA rd.length c5, .slice (some ⟨ga,go,none⟩) xs.length c2'] 40):=by rw[iu];exact J_ne aM (J_ne aM (J_ne aM (J_ne aM (J_ne aM B0.o))))
 have b2:W4.heap[w.heap.size+2]?=some (.cells #[.slice none 0 0, .slice none 0 0, .slice none 0 0, .slice none 0 0, .slice none 0 0, .slice none 0 0, .slice none 0 0] 40):=by rw[iu];exact J_ne mE (J_ne mE (J_ne mE (J_ne mE (J_ne mE B2.o))))
 have Ev:Below w.heap.size w W4:=by rw[iu];exact zaO (zaO (zaO (zaO (zaO aJ.o Mdk _) Mdk _) Mdk _) Mdk _) Mdk _
 have bm:(xs.set i x).map GX.cells=(((((xs.map GX.cells).set i ((xs[i]).cells.set 0 (.string x.g.place))).set i (((xs[i]).cells.set 0 (.string x.g.place)).set 1 (.int .i64 x.g.cls))).set i ((((xs[i]).cells.set 0 (.string x.g.place)).set 1 (.int .i64 x.g.cls)).set 2 (.int .i64 x.g.fin))).set i (((((xs[i]).cells.set 0 (.string x.g.place)).set 1 (.int .i64 x.g.cls)).set 2 (.int .i64 x.g.fin)).set 3 (.slice x.H x.g.holders.length x.hc))).set i ((((((xs[i]).cells.set 0 (.string x.g.place)).set 1 (.int .i64 x.g.cls)).set 2 (.int .i64 x.g.fin)).set 3 (.slice x.H x.g.holders.length x.hc)).set 4 (.slice x.D x.g.died.length x.dc)):=by
  simp only[List.set_set,List.map_set];rfl
 rw[<-bm]at t4;have T5:=zHi t4;have eE:=zHi Ev;clear t4 bm T4 R3 aJ B0 B2 iu Ev s0 s1 s2 s3 s4 s5 s6 v0 v1 v2 v3 v4 q0 q1 q2 q3 q4 rf aA;obtain⟨s0,s1,s2,s3,s4,s5,s6⟩:=zaG b0;obtain⟨r0,r1,r2,r3,r4,r5,r6⟩:=zaG b2;have rf:=frz b2;go_wp2_with fail
 refine bodyPost_ret (v:= .agg #[.slice LA laws.length c0, .slice CA s.children.length c1, .slice MA s.marriages.length c2, .slice DA s.dead.length c3, .slice WA wd.length c4, .slice RA rd.length c5, .slice (some ⟨ga,go,none⟩) xs.length c2']) ?_ rfl ?_
 ·exact zkc rfl _ rfl (zc0 b2)
 ·have nw:=zc9 (a0:= .slice LA laws.length c0) (a1:= .slice CA s.children.length c1) (a2:= .slice MA s.marriages.length c2) (a3:= .slice DA s.dead.length c3) (a4:= .slice WA wd.length c4) (a5:= .slice RA rd.length c5) (a6:= .slice (some ⟨ga,go,none⟩) xs.length c2') eE.o (show w.heap.size<=w.heap.size+2 by omega);exact⟨ga,go,c2',by first|rfl|rw[fU.o],T5.o.ne7 dt,nw⟩
end Go.Proofs.YtckkbkdcdkhglaaGreatDoor

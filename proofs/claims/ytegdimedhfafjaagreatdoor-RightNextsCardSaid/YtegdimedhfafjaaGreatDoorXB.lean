import Derived.Test.YtegdimedhfafjaaGreatDoorXA
import Derived.Test.YtegdimedhfafjaaGreatDoorDQ
set_option linter.all false
set_option maxRecDepth 100000
set_option maxHeartbeats 4000000
namespace Go.Proofs.YtegdimedhfafjaaGreatDoor
open Go.RowKit Go.Shelf
attribute [local go_sem] World.cell?_alloc_mark zaf za5 zao za8 zav zaw zax zay zaz za0 za1
attribute [local go_sem] zaq zad
theorem zc4{n:Nat}{q:Rat}(h0:0<n)(h1:n<=1000000000)(h:IsN n q)(h2:0<=q)(h3:q<=1):zaJ q:=zcb h2 h3 (by
 have:=zkk h0 h;unfold bigQ;simp
 omega)
theorem wrap_m{k:Nat}(h:k<=1000):wrap64 ((k:Int)-1)=(k:Int)-1:=by
 unfold wrap64;omega
def zge(wd:List Deed)(n:ByteArray):List RPart:=((wd.reverse.find? fun d=>zae d.frm n).map (·.to)).getD []
theorem ziW{s:St}{wd rd:List Deed}(h:StLink s wd rd)(n:ByteArray):zbw s n=zam (zge wd n):=by
 unfold zbw zge;rw[h.wills,<-List.map_reverse,List.find?_map];have e:((fun w:ByteArray×Parts=>zae w.1 n)∘fun d:Deed=>(d.frm,zam d.to))=fun d:Deed=>zae d.frm n:=rfl
 rw[e];cases wd.reverse.find? fun d=>zae d.frm n<;>rfl
theorem zpo{wd:List Deed}{n:ByteArray}{k:Nat}(h:k<wd.length):zge (wd.take (k+1)) n=if zae wd[k].frm n then wd[k].to else zge (wd.take k) n:=by
 unfold zge;rw[List.take_add_one,List.getElem?_eq_getElem h];simp only[Option.toList_some,List.reverse_append,List.reverse_singleton,List.singleton_append,List.find?_cons];cases zae wd[k].frm n<;>rfl
theorem own_key{law:Law}{out:Parts}{rest:Rat}(sp:ByteArray)(hl:za9 16 law.num law.den=true)(g1:GoodParts out)(g2:∀p∈out,IsN 720720 p.2)(g3:IsN 720720 rest)(g4:0<=rest)(g5:rest<=1):
 0<=rest*Rat.divInt law.num law.den/\rest*Rat.divInt law.num law.den<=rest/\GoodParts (za4 out sp (rest*Rat.divInt law.num law.den))/\zaF (za4 out sp (rest*Rat.divInt law.num law.den))=false/\
  zaJ (rest*Rat.divInt law.num law.den)/\zaJ (rest-rest*Rat.divInt law.num law.den):=by
 obtain⟨_,_,l1,l2⟩:=zbk hl;have hd:za9 16 law.num law.den=true:=hl;have h1:0<=rest*Rat.divInt law.num law.den:=Rat.mul_nonneg g4 l1;have h2:rest*Rat.divInt law.num law.den<=rest:=by
  have:=Rat.mul_le_mul_of_nonneg_left l2 g4;grind
 have kT:∃d:Nat,0<d/\d<=16/\IsN d (Rat.divInt law.num law.den):=by
  exact MO
 obtain⟨d,d0,d1,Df⟩:=kT;have hN:=zki g3 Df;exact⟨h1,h2,zbx h1 g1,zc1 (n:=720720*d) Mcm Mcm (zc9 hN fun p hp=>zld (g2 p hp)),zc4 (n:=720720*d) Mcm Mcm hN h1 McG,zc4 (n:=720720*d) Mcm Mcm (zgX (zld g3) hN) McG McG⟩
structure WillSt (out:Parts) (rest:Rat) (l:Parts) (L:List ByteArray):Prop where
 good:GoodParts out
 isN:∀p∈out,IsN 720720 p.2
 rN:IsN 720720 rest
 names:zci out L
 sum:sumQ out+rest=1
 left:sumQ l<=rest
 pos:∀p∈l,0<p.2
 lN:∀p∈l,IsN 720720 p.2
theorem WillSt.bounds{out:Parts}{rest:Rat}{l:Parts}{L:List ByteArray}(h:WillSt out rest l L):0<=rest/\rest<=1/\0<=sumQ out/\sumQ out<=1/\zaJ rest/\zaF out=false:=by
 have h1:0<=sumQ l:=zbs fun p hp=>by have:=h.pos p hp;grind
 have h2:0<=sumQ out:=zbs fun p hp=>by have:=h.good.pos p hp;grind
 have h3:=h.left;have h4:=h.sum;have h5:0<=rest:=McG;have h6:rest<=1:=McG;exact⟨h5,h6,h2,by grind,zc4 Mco Mco h.rN h5 h6,zc1 Mco Mco h.isN⟩
theorem WillSt.hd{out:Parts}{rest:Rat}{l:Parts}{L:List ByteArray}(h:WillSt out rest l L):Hd out L:=⟨h.good,h.bounds.2.2.2.2.2,h.names⟩
theorem WillSt.give{out:Parts}{rest:Rat}{n:ByteArray}{q:Rat}{l:Parts}{L:List ByteArray}(h:WillSt out rest ((n,q)::l) L)(hn:n∈L):WillSt (za4 out n q) (rest-q) l L:=by
 have hq:=h.pos (n,q) Mcp;have hN:=h.lN (n,q) Mcp;have hs:=h.left;rw[sumQ]at hs;simp only at hq hN hs;exact⟨zbx McG h.good,zc9 hN h.isN,zgX h.rN hN,ziU h.names hn,by rw[zbY];have:=h.sum;grind,by grind,fun p hp=>h.pos p McX,fun p hp=>h.lN p McX⟩
theorem WillSt.skip{out:Parts}{rest:Rat}{x:ByteArray×Rat}{l:Parts}{L:List ByteArray}(h:WillSt out rest (x::l) L):WillSt out rest l L:=by
 have hq:=h.pos x Mcp;have hs:=h.left;rw[sumQ]at hs;exact⟨h.good,h.isN,h.rN,h.names,h.sum,by grind,fun p hp=>h.pos p McX,fun p hp=>h.lN p McX⟩
def zkO(w:World)(R:Option Parts)(e:Ending)(w':World):Prop:=
 ∃(A:Option Addr) (c:Nat) (xs:Parts) (b:Bool),e=.returned (.tuple #[.slice A xs.length c,.bool b])/\Sl w' 3 zaa A xs/\Below w.heap.size w w'/\xs.length<=100000/\((R=some xs/\b=false)\/(R=none/\b=true))
theorem zn0(laws:List Law)(s:St)(wd rd:List Deed)(LA CA MA DA WA RA GA:Option Addr)(c0 c1 c2 c3 c4 c5 c6:Nat)(n:ByteArray)(day:Int)(w:World)(h:StIn w laws s wd rd LA CA MA DA WA RA GA c0 c1 c2 c3 c4 c5 c6)(hk:StLink s wd rd)(hf:StFew s wd rd)(aY:zaA laws=0)(hW:WillOk (zbw s n))(pM:∀a,¬Desc s a a)(bW:(zbw s n).length<=8):
 Calls Tryz.prog 153 #[.agg #[.slice LA laws.length c0,.slice CA s.children.length c1,.slice MA s.marriages.length c2,.slice DA s.dead.length c3,.slice WA wd.length c4,.slice RA rd.length c5,.slice GA s.graves.length c6],.string n,.int .i64 day] w (zkO w (zcE s (zbb laws day) n)):=by
 have xA:laws.length<=10:=by
  unfold zaA at aY;split at aY
  ·cases aY
  ·rename_i h1;simpa using h1
 have qM:=zHi (fun W (hB:Below w.heap.size w W)=>zpg laws LA c0 day W xA (h.laws.keep hB));have bO:=zfb aY day;obtain⟨R,hR⟩:∃R,R=zcE s (zbb laws day) n:=⟨_,rfl⟩
 rw[<-hR];unfold Law.v at qM;generalize zbb laws day=law at*;obtain⟨L,hL⟩:∃L:List ByteArray,L=(zge wd n).map (·.name)++s.children.map (·.2)++[zaK s n,⟨#[]⟩]:=⟨_,rfl⟩
 have Fx:∀p∈zge wd n,p.name∈L:=fun p hp=>by rw[hL];exact List.mem_append_left _ (List.mem_append_left _ (List.mem_map_of_mem hp))
 have Fu:∀c∈s.children,c.2∈L:=fun c hc=>by rw[hL];exact List.mem_append_left _ (List.mem_append_right _ (List.mem_map_of_mem hc))
 have Fw:zaK s n∈L:=by rw[hL];exact List.mem_append_right _ Mcp
 have vZ:(⟨#[]⟩:ByteArray)∈L:=by rw[hL];exact List.mem_append_right _ Mcp
 have xL:(zge wd n).length<=8:=by
  have:=bW;rw[ziW hk]at this;simpa[zam]using this
 have tP:L.length<=90000:=by
  rw[hL];have:=hf.kids;simp;omega
 have xJ:∀p∈zge wd n,za9 16 p.num p.den=true:=by
  unfold zge;intro p hp;cases oD:wd.reverse.find? fun d=>zae d.frm n with
  |none=>rw[oD]at hp;simp at hp
  |some d=>
   rw[oD]at hp;exact hk.shares d (by have:=List.mem_of_find?_eq_some oD;simpa using this) p hp
 obtain⟨cU,qV,fw,im,rh⟩:=yH5 (fun W (hB:Below w.heap.size w W)=>zhm laws s wd rd LA CA MA DA WA RA GA c0 c1 c2 c3 c4 c5 c6 law n hk hf (zaX s) n W (h.keep hB) (zk4 pM n)) (fun share A c out W (hB:Below w.heap.size w W)=>ziV laws s wd rd LA CA MA DA WA RA GA c0 c1 c2 c3 c4 c5 c6 law n L hk hf Fu tP (zaX s) n share A c out W (h.keep hB) (zk4 pM n)) (fun x W (hB:Below w.heap.size w W)=>sAble x n W (h.keep hB) hk hf) (fun W (hB:Below w.heap.size w W)=>sSpouse n W (h.keep hB) hf) (fun W (hB:Below w.heap.size w W)=>h.wills.keep zb5 hB);have fG:=zgJ s law.stems n (zaX s) n;rw[ziW hk]at hW;have BY:Hid (WillSt [] 1 (zam (zge wd n)) L):=zHi ⟨zd6,by simp,zgY _,fun p hp=>by(cases hp),by simp[sumQ];grind,hW.le,hW.pos,hW.isN⟩;unfold zcE at hR;rw[ziW hk]at hR;obtain⟨Z,hZ⟩:∃Z,Z=zco s n (zam (zge wd n)) [] 1:=⟨_,rfl⟩
 rw[<-hZ]at hR;obtain⟨HZ,HR,Bp,dE,ji,ez,od,lH⟩:=yH8 hZ hR xJ Fx bO (show LA=LA/\zaK s n∈L/\(⟨#[]⟩:ByteArray)∈L/\L.length<=90000 from⟨rfl,Fw,vZ,tP⟩) xL fG;have pk:=zHi hf.wills;unfold Law.v at cU qV;unfold zaC at qV;unfold zkO;clear aY hW pM bW xA bO hR hL Fx Fu Fw vZ xL tP xJ fG hZ h hf hk;generalize zd1 s law.stems n (zaX s) n=ls at*;generalize zb7 s law.stems n (zaX s) n=T at*;generalize oO:zge wd n=lw at*;have Bo:=zHi oO.symm;clear oO;go_enter Tryz.func153,Tryz.ntmps153
 go_upto_block 0 with(first
  |(go_at_call 169;go_must(refine(qM.o _ Bw).mono ?_);rintro e wq ⟨rfl,z1,rfl⟩)
  |(go_at_call 103;go_must(refine(zhQ _).mono ?_);rintro e wq ⟨rfl,z2,rfl⟩))
 obtain⟨LB,lY⟩:∃LB,LB=w.heap.size+1+z1.os.size:=⟨_,rfl⟩
 obtain⟨QB,rH⟩:∃QB,QB=LB+1+z2.os.size:=⟨_,rfl⟩
 obtain⟨W2,cE⟩:∃W2,W2=((((w.alloc (.cells #[.slice LA laws.length c0,.slice CA s.children.length c1,.slice MA s.marriages.length c2,.slice DA s.dead.length c3,.slice WA wd.length c4,.slice RA rd.length c5,.slice GA s.graves.length c6] 41)).ext z1).alloc (.cells #[.int .i64 law.frm,.bool law.stems,.int .i64 law.num,.int .i64 law.den] 72)).ext z2).alloc (.cells #[.int .i64 1,.int .i64 1] 56):=⟨_,rfl⟩
 have g0:W2.heap[w.heap.size]?=some (.cells #[.slice LA laws.length c0,.slice CA s.children.length c1,.slice MA s.marriages.length c2,.slice DA s.dead.length c3,.slice WA wd.length c4,.slice RA rd.length c5,.slice GA s.graves.length c6] 41):=by rw[cE];exact zak (zbv (zak (zbv (zas _ _ _ rfl))))
 have g1:W2.heap[LB]?=some (.cells #[.int .i64 law.frm,.bool law.stems,.int .i64 law.num,.int .i64 law.den] 72):=by rw[cE];exact zak (zbv (zas _ _ _ (by rw[lY];simp[zaf])))
 have g2:W2.heap[QB]?=some (.cells #[.int .i64 ((1:Rat)).num,.int .i64 ((1:Rat)).den] 56):=by rw[cE];exact zas _ _ _ (by rw[rH,lY];simp[zaf])
 have bx:Below w.heap.size w W2:=by rw[cE];exact Bw
 rw[<-cE,<-lY,<-rH];have gR:w.heap.size<LB:=Mcm;have cY:LB<QB:=Mcm;have gT:=zab g2;obtain⟨aA,fL⟩:=yH2 bx g2
 have aw:=zHi (fun W (hB:Below QB W2 W)=>(show(W.cell? ⟨w.heap.size,0,none⟩=some (.slice LA laws.length c0)/\W.cell? ⟨w.heap.size,1,none⟩=some (.slice CA s.children.length c1)/\W.cell? ⟨w.heap.size,2,none⟩=some (.slice MA s.marriages.length c2)/\W.cell? ⟨w.heap.size,3,none⟩=some (.slice DA s.dead.length c3)/\W.cell? ⟨w.heap.size,4,none⟩=some (.slice WA wd.length c4)/\W.cell? ⟨w.heap.size,5,none⟩=some (.slice RA rd.length c5)/\W.cell? ⟨w.heap.size,6,none⟩=some (.slice GA s.graves.length c6))/\(W.cell? ⟨LB,0,none⟩=some (.int .i64 law.frm)/\W.cell? ⟨LB,1,none⟩=some (.bool law.stems)/\W.cell? ⟨LB,2,none⟩=some (.int .i64 law.num)/\W.cell? ⟨LB,3,none⟩=some (.int .i64 law.den)) from by
  have x0:=(hB.block _ Mcm).trans g0;have x1:=(hB.block _ cY).trans g1
  refine⟨zaG x0,?_,?_,?_,?_⟩<;>(simp only[World.cell?,x1];rfl)))
 clear cE lY rH g0 g1 g2 bx qM;obtain⟨⟨d0,d1,d2,d3,d4,d5,d6⟩,e0,e1,e2,e3⟩:=aw.o W2 (Below.refl _ _);have sr:=pk.o;go_cut [10,11,12,13]from 25 to 71 (fun v10 _ _ _ wc=>∃(YA:Option Addr) (yc:Nat) (ys:Parts) (q:Rat),v10=.slice YA ys.length yc/\Hid (Z=(ys,q))/\Hid (WillSt ys q [] L)/\Sl wc 3 zaa YA ys/\wc.heap[QB]?=some (.cells #[.int .i64 (q).num,.int .i64 (q).den] 56)/\Below QB W2 wc)
 case first=>
  go_wp2_with fail
  go_loopw [10,11,12,13] (fun v10 v11 _ _ wr=>∃(j:Nat) (i:Int),j<=wd.length/\v10=.slice none 0 0/\v11=.int .i64 i/\i=(j:Int)-1/\Hid (lw=zge (wd.take j) n)/\W2=wr) (fun _ v11 _ _ _=>(intOf v11+1).toNat)
  case atStart=>exact⟨wd.length,(wd.length:Int)-1,Nat.le_refl _,rfl,by first|go_num|rw[wrap_m sr],rfl,zHi (by rw[List.take_length];exact Bo.o),rfl⟩
  case round=>
   obtain⟨j,i,hj,rfl,rfl,hi,HJ,rfl⟩:=hrel;cases j with
   |zero=>
    have uc:i= -1:=Mcm;subst uc;have sG:lw=[]:=by rw[HJ.o,List.take_zero];rfl
    have C4:Hid (Z=([],1)):=by show _=_;rw[HZ.o,sG];rfl
    have J9:Hid (WillSt [] 1 [] L):=by have:=BY;rw[sG]at this;exact this
    clear sG hi;go_wp2_with fail
    go_meet
    exact⟨none,0,[],1,rfl,C4,J9,Sl.nil,fL.o,Below.refl _ _⟩
   |succ m=>
    have uc:i=(m:Int):=Mcm;subst uc;obtain⟨b,off,cs,hA,hb,⟨B,c,hc,rfl,hP⟩,ah⟩:=(rh.o w (Below.refl _ _)).at (k:=m) hj;have aj:=HJ.o;rw[zpo hj]at aj;generalize wd[m]=x at*;subst hA;have aS:b<W2.heap.size:=Nat.lt_of_lt_of_le hb aA.o.size;have i3:W2.cell? ⟨b,off+m*7+3,none⟩=some (.string x.frm):=(zah aA.o hb).trans (ah 3 _ rfl);have i4:w.cell? ⟨b,off+m*7+4,none⟩=some (.slice B x.to.length c):=ah 4 _ rfl;have fH:(m:Int)<(wd.length:Int):=Mcm;have nJ:(0:Int)<=(m:Int):=Mcm;obtain⟨IB,HP⟩:=yH2 hj hP;obtain⟨kd,dy,pl,fr,ts,cl,yr⟩:=x;simp only at i3 i4 hc aj HP;clear ah hi hj hP;cases hs:zae fr n
    ·have bo:(fr.toList==n.toList)=false:=hs;have aH:Hid (lw=zge (wd.take m) n):=by show _=_;rw[aj,hs];rfl
     clear aj hs;go_wp2_with fail
     go_round
     case rel=>exact⟨m,(m:Int)-1,by have:=IB.o;omega,rfl,by go_num,rfl,aH,by first|exact True.intro|rfl⟩
     case measure=>simp only[intOf];omega
    ·have bo:(fr.toList==n.toList)=true:=hs;have DI:ts=lw:=by rw[aj,hs];rfl
     clear aj hs;subst DI;have hts:ts.length<=8:=od.o;go_upto_region 9 with fail
     go_loopw [10,12,13] (fun v10 v12 _ wr=>∃(k:Nat) (ys:Parts) (q:Rat),k<=ts.length/\v12=.int .i64 k/\Hid (Z=zco s n (zam (ts.drop k)) ys q)/\Hid (WillSt ys q (zam (ts.drop k)) L)/\OwnS wr QB 62 3 zaa v10 ys/\wr.heap[QB]?=some (.cells #[.int .i64 (q).num,.int .i64 (q).den] 56)/\Below QB W2 wr) (fun _ v12 _ _=>ts.length-(intOf v12).toNat)
     case atStart=>exact⟨0,[],1,Nat.zero_le _,rfl,HZ,BY,OwnS.nil,fL.o,Below.refl _ _⟩
     case round=>
      obtain⟨k,ys,q,hk,rfl,HX,F1,ae,hQ,hB⟩:=hrel;obtain⟨YA,yc,rfl,rS,ux⟩:=ae.sl zan;have fe:Below w.heap.size w wr:=aA.o.trans (hB.mono Mcm);have aE:=fe.size;have GU:=zab hQ;obtain⟨⟨d0,d1,d2,d3,d4,d5,d6⟩,e0,e1,e2,e3⟩:=aw.o wr hB;have j4:wr.cell? ⟨b,off+m*7+4,none⟩=some (.slice B ts.length c):=(zah fe hb).trans i4;obtain⟨aW,HB,dH⟩:=yH3 fe hB ae;by_cases aa:k<ts.length
      ·obtain⟨pb,po,lU,hpb,oU⟩:=(HP.o.keep fe).at aa;have hx:=HX.o;have kC:=F1.o;have gH:zam (ts.drop k)=(ts[k].name,ts[k].rat)::zam (ts.drop (k+1)):=by rw[List.drop_eq_getElem_cons aa];rfl
       rw[gH,zco]at hx;rw[gH]at kC;have ky:=Bp.o _ (List.getElem_mem aa);have oS:=dE.o _ (List.getElem_mem aa);have am:=zHi aa;generalize ts[k]=x at*;obtain⟨nm,nu,de⟩:=x;simp only at ky oS hx kC;subst lU;have p0:wr.cell? ⟨pb,po+k*3,none⟩=some (.string nm):=oU 0 _ rfl;have p1:wr.cell? ⟨pb,po+k*3+1,none⟩=some (.int .i64 nu):=oU 1 _ rfl;have p2:wr.cell? ⟨pb,po+k*3+2,none⟩=some (.int .i64 de):=oU 2 _ rfl;have au:(k:Int)<(ts.length:Int):=Mcm;have aP:(0:Int)<=(k:Int):=Mcm;have mP:(⟨nm,nu,de⟩:RPart).rat=Rat.divInt nu de:=rfl;rw[mP]at hx kC;obtain⟨r1,r2,r3,r4⟩:=zbk ky;have AB:=zc4 Mco Mco (zep ky) r3 r4;obtain⟨b1,b2,b3,b4,b5,b6⟩:=kC.bounds;generalize Rat.divInt nu de=r at*;have eE:=zgL kC.good kC.names;obtain⟨ew,eJ⟩:=yH2 (fun W (hW:Below wr.heap.size wr W)=>zcN ys nm r YA yc W (by have:=ez.o.2.2.2;omega) (kC.hd.parts b4) AB (rS.keep hW)) (fun W=>zhE q r W b5 AB);unfold zaC at ew eJ;rw[r1,r2]at ew eJ;obtain⟨kD,av,oe,BC⟩:=yH4 (fun W (hW:Below wr.heap.size wr W)=>fw.o nm W (aW.o.trans (hW.mono aE))) hx kC oS;have hqB:QB<wr.heap.size:=GU;have HQ:=zHi hQ;clear oU hx kC gH ky oS mP r1 r2 r3 r4 AB b1 b2 b3 b4 b5 b6 eE ae rS hB fe aa hQ;go_upto_region 12 with fail
       obtain⟨WP,Ad⟩:∃WP,WP=wr.alloc (.cells #[.string nm,.int .i64 nu,.int .i64 de] 62):=⟨_,rfl⟩
       have gP:WP.heap[wr.heap.size]?=some (.cells #[.string nm,.int .i64 nu,.int .i64 de] 62):=by rw[Ad];exact zas _ _ _ rfl
       have vM:Below wr.heap.size wr WP:=by rw[Ad];exact Bw
       rw[<-Ad];have tj:=zHi vM;have ej:=vM.size;have qe:=zab gP;obtain⟨s0,s1,s2⟩:WP.cell? ⟨wr.heap.size,0,none⟩=some (.string nm)/\WP.cell? ⟨wr.heap.size,1,none⟩=some (.int .i64 nu)/\WP.cell? ⟨wr.heap.size,2,none⟩=some (.int .i64 de):=by
        simp only[World.cell?,gP];exact⟨rfl,rfl,rfl⟩
       obtain⟨⟨x0,x1,x2,x3,x4,x5,x6⟩,_⟩:=aw.o WP (HB.o.trans (vM.mono Mcm));have hqW:QB<WP.heap.size:=Mcm;obtain⟨GQ,GP⟩:=yH2 ((vM.block _ GU).trans HQ.o) gP;clear Ad gP vM d0 d1 d2 d3 d4 d5 d6 e0 e1 e2 e3 j4 p0 p1 p2;cases cF:zdX s nm n
       ·rw[cF]at kD av;have eM:Hid (Z=zco s n (zam (ts.drop (k+1))) ys q):=MdJ;clear cF;go_wp2_with (go_at_call 170;go_must(refine(kD.o _ (by have:=tj.o;exact Bw)).mono ?_);rintro e wq ⟨rfl,z,rfl⟩)
        go_round
        case rel=>exact⟨k+1,ys,q,am.o,by go_num,eM,zHi oe.o.skip,(dH.o.keep tj.o).keep (n:=WP.heap.size) (zap WP z),zbv GQ.o,zbm (HB.o.trans (tj.o.mono Mcm)) z⟩
        case measure=>have:=am.o;simp only[intOf];omega
       ·rw[cF]at kD av;have eM:Hid (Z=zco s n (zam (ts.drop (k+1))) (za4 ys nm r) (q-r)):=MdJ;have BZ:=zHi (oe.o.give BC.o);clear cF
        go_upto_region 14 with(first
         |(go_at_call 170;go_must(refine(kD.o _ (by have:=tj.o;exact Bw)).mono ?_);rintro e wq ⟨rfl,z,rfl⟩)
         |(go_at_call 141;go_must(refine(ew.o _ (by have:=tj.o;exact Bw)).mono ?_);rintro e w5 ⟨v5,rfl,o5,b5⟩))
        obtain⟨YB,yd,rfl,_,_⟩:=o5.sl zan;have AE:=b5.size;have tJ:=(b5.block QB Mcv).trans (zbv (z:=z) GQ.o);have C6:=(b5.block wr.heap.size Mcv).trans (zbv (z:=z) GP.o);have bl:=zHi (HB.o.trans ((zbm tj.o z |>.trans (b5.mono Mcv)).mono Mcm));have jg:=zHi (o5.base_le (show QB<=(WP.ext z).heap.size by simp[zaf];omega));have h5l:=zab C6;have h5m:=zab tJ;obtain⟨y0,y1⟩:=zbl tJ;have f0:=frz tJ;obtain⟨-,s1,s2⟩:=cF3 C6;clear o5 b5 C6 AE;go_wp2_with (go_at_call 145;go_must(refine(eJ.o _).mono ?_);rintro e wq ⟨rfl,z5,rfl⟩)
        go_round
        case rel=>exact⟨k+1,za4 ys nm r,q-r,am.o,by go_num,eM,BZ,((jg.o.kept (zar _ _ _ _) tJ Mco).kept (zar _ _ _ _) (Joins.block_setCell (i:=0) tJ _) Mco).keep (zap _ z5),zbv (zeo tJ),zbm (zaL (zaL bl.o (Nat.le_refl _) _) (Nat.le_refl _) _) z5⟩
        case measure=>have:=am.o;simp only[intOf];omega
      ·have au:¬(k:Int)<(ts.length:Int):=Mcm;have hx:=HX.o;have kC:=F1.o;rw[List.drop_of_length_le Mcm]at hx kC;have av:Hid (Z=(ys,q)):=Md7;obtain⟨oe,rm,HQ⟩:=yH3 kC rS hQ;clear hx kC ae rS hQ hB fe;go_wp2_with fail
       go_meet
       exact⟨YA,yc,ys,q,rfl,av,oe,rm.o,HQ.o,HB.o⟩
 case rest=>
  obtain⟨YA,yc,ys,q,rfl,Jj,lR,hY,hQ,hB⟩:=hcut;clear d0 d1 d2 d3 d4 d5 d6 e0 e1 e2 e3;have hr:=HR.o;rw[Jj.o]at hr;simp only at hr;obtain⟨b1,b2,b3,b4,b5,b6⟩:=lR.o.bounds;have pe:=zgL lR.o.good lR.o.names;have tg:ys.length<=90000:=by have:=ez.o.2.2.2;omega
  have fe:Below w.heap.size w wc:=aA.o.trans (hB.mono Mcm);obtain⟨q0,q1⟩:=zbl hQ;have DR:=zab hQ;obtain⟨FT,ki,aW⟩:=yH3 hY tg fe;by_cases hqz:q=0
  ·have DS:(q.num==0)=true:=by rw[hqz];rfl
   have bw:Hid (R=some ys):=by show _=_;rw[hr,if_pos (by simpa using hqz)]
   clear hr hqz b1 b2 b3 b4 b5 b6 pe tg hB hY fe;go_wp2_with fail
   go_ret2
   exact⟨YA,yc,ys,false,rfl,FT.o,aW.o,by have:=ki.o;omega,.inl ⟨bw.o,rfl⟩⟩
  ·have DS:(q.num==0)=false:=by
    have:q.num≠0:=fun e=>hqz (Rat.num_eq_zero.1 e)
    simpa using this
   rw[if_neg (by simpa using hqz)]at hr;obtain⟨sp,cj⟩:∃sp,sp=if zdX s (zaK s n) n then zaK s n else⟨#[]⟩:=⟨_,rfl⟩
   rw[<-cj]at hr;have yE:sp∈L:=by
    rw[cj];split
    ·exact ez.o.2.1
    ·exact ez.o.2.2.1
   obtain⟨ru,aB,bD,BR,BQ,bT,kD⟩:=yH7 hB (show 0<=q/\q<=1/\zaJ q from⟨b1,b2,b5⟩) hr yE cj (fun W (hW:Below wc.heap.size wc W)=>im.o W (fe.trans (hW.mono fe.size))) (fun x W (hW:Below wc.heap.size wc W)=>fw.o x W (fe.trans (hW.mono fe.size)));obtain⟨⟨d0,d1,d2,d3,d4,d5,d6⟩,e0,e1,e2,e3⟩:=aw.o wc hB;have LI:w.heap.size<wc.heap.size:=Mcm;have LJ:LB<wc.heap.size:=Mcm;have HQ:=zHi hQ;clear hr hqz b1 b2 b3 b4 b5 b6 pe tg hB hY fe cj yE hQ;obtain⟨WC,tU⟩:∃WC,WC=wc:=⟨_,rfl⟩
   subst tU;go_upto_region 18 with(go_at_call 152;go_must(refine(bT.o _ Bw).mono ?_);rintro e wq ⟨rfl,z3,rfl⟩)
   have kA:=BQ.o;have El:=zHi (fun W hW=>kD.o (zaK s n) W hW);generalize zaK s n=sq at*;go_upto_if 83 with(go_at_call 170;go_must(refine(El.o _ Bw).mono ?_);rintro e wq ⟨rfl,z4,rfl⟩)
   go_cut [14]from 79 to 84 (fun v wc=>v=.string sp/\(WC.ext z3).ext z4=wc)
   case first=>
    cases cF:zdX s sq n
    ·rw[cF]at kA;simp only[Bool.false_eq_true,if_false]at kA;exact Mbx
    ·rw[cF]at kA;simp only[if_true]at kA;exact Mbx
   case rest=>
    obtain⟨rfl,rfl⟩:=hcut;obtain⟨WD,CM⟩:∃WD,WD=(WC.ext z3).ext z4:=⟨_,rfl⟩
    have da:Below WC.heap.size WC WD:=by rw[CM];exact Bw
    rw[<-CM];clear CM d0 d1 d2 d3 d4 d5 d6 e0 e1 e2 e3 q0 q1 kA El bT kD;have Km:=da.size;have gQ:=(da.block QB DR).trans HQ.o;have ct:=ru.o.trans (da.mono Mcm);have aS:=aW.o.trans (da.mono aW.o.size);obtain⟨⟨d0,d1,d2,d3,d4,d5,d6⟩,e0,e1,e2,e3⟩:=aw.o WD ct;obtain⟨q0,q1⟩:=zbl gQ;have GN:=zab gQ;obtain⟨lI,F4,d8,rh,kM,GQ⟩:=yH6 (fun W (hW:Below WD.heap.size WD W)=>cU.o W (aS.trans (hW.mono aS.size))) (FT.o.keep da) ct aS (lR.o.hd.parts lR.o.bounds.2.2.2.1) gQ;clear da gQ ct aS;by_cases hlz:ls.length=0
    ·have eE:((ls.length:Int)==0)=true:=by rw[hlz];rfl
     have bw:Hid (R=some (za4 ys sp q)):=by
      show _=_;have hT:T=[]:=List.eq_nil_of_length_eq_zero (by rw[lH.o];exact hlz);rw[bD.o,hT];rfl
     obtain⟨ew,qF⟩:=yH2 (fun W (hW:Below WD.heap.size WD W)=>zcN ys sp q YA yc W (by have:=ki.o;omega) kM.o aB.o.2.2 (F4.o.keep hW)) (zcw sp q ys);generalize za4 ys sp q=gv at*;unfold zaC at ew;clear hlz;go_upto_region 21 with(go_at_call 171;go_must(refine(lI.o _ Bw).mono ?_);rintro e w6 ⟨v6,rfl,o6,b6⟩;obtain⟨KA,kc,rfl,_,_⟩:=o6.sl zaD;clear o6)
     have ol:=b6.size;have sP:=(b6.block QB GN).trans GQ.o;obtain⟨x0,x1⟩:=zbl sP;have cI:=zHi b6;clear d0 d1 d2 d3 d4 d5 d6 e0 e1 e2 e3 q0 q1 sP b6;go_wp2_with (go_at_call 141;go_must(refine(ew.o _ cI.o).mono ?_);rintro e w7 ⟨v7,rfl,o7,b7⟩;obtain⟨GV,gc,rfl,aK,_⟩:=o7.sl zan;obtain⟨dB,bC⟩:=yH2 aK (cI.o.trans (b7.mono ol));clear o7 b7 aK)
     go_ret2
     exact⟨GV,gc,gv,false,rfl,dB.o,rh.o.trans (bC.o.mono rh.o.size),by have:=ki.o;have:=qF.o;omega,.inl ⟨bw.o,rfl⟩⟩
    ·have eE:((ls.length:Int)==0)=false:=by
      have:(ls.length:Int)≠0:=by omega
      simpa using this
     have hT:¬T.isEmpty=true:=by
      intro e;rw[List.isEmpty_iff]at e;have:=lH.o;rw[e]at this;exact hlz this.symm
     obtain⟨own,out2,ae,cg,yk⟩:∃(own:Rat) (out2:Parts),own=(if noB sp=true then 0 else q*Rat.divInt law.num law.den)/\out2=(if noB sp=true then ys else za4 ys sp own)/\R=if(q-own==0)=true then some out2 else zeL (q-own) T out2:=
      ⟨_,_,rfl,rfl,by
        rw[bD.o,if_neg hT];unfold zeL
        rw[<-zh3]⟩
     obtain⟨k1,k2,k3,k4,k5,k6⟩:=own_key sp ji.o lR.o.good lR.o.isN lR.o.rN aB.o.1 aB.o.2.1
     have Bi:Hid (Hd out2 L/\0<=q-own/\q-own<=1/\zaJ (q-own)/\sumQ out2+(q-own)=1/\out2.length<=90001):=zHi (by
      have dQ:=lR.o.sum;cases hn:noB sp
      ·rw[hn]at ae cg;simp only[Bool.false_eq_true,if_false]at ae cg;rw[cg,ae];refine⟨⟨k3,k4,ziU lR.o.names BR.o⟩,by grind,by have:=aB.o.2.1;grind,k6,by rw[zbY];grind,?_⟩;have:=zcw sp (q*Rat.divInt law.num law.den) ys;have:=ki.o;omega
      ·rw[hn]at ae cg;simp only[if_true]at ae cg;rw[cg,ae];have e:q-0=q:=McG;rw[e]
       exact⟨lR.o.hd,aB.o.1,aB.o.2.1,aB.o.2.2,dQ,by have:=ki.o;omega⟩)
     obtain⟨lQ,dH,EM,uY⟩:=yH4 yk ae cg (show 0<ls.length/\zaJ (q*Rat.divInt law.num law.den) from⟨by omega,k5⟩);clear hlz hT ae cg yk k1 k2 k3 k4 k5 k6;go_upto_region 22 with(go_at_call 171;go_must(refine(lI.o _ Bw).mono ?_);rintro e w6 ⟨v6,rfl,o6,b6⟩;obtain⟨KA,kc,rfl,_,_⟩:=o6.sl zaD;clear o6)
     have ol:=b6.size;have sP:=(b6.block QB GN).trans GQ.o;have sb:=d8.o.trans (b6.mono Mcm);have FU:=F4.o.keep b6;clear d0 d1 d2 d3 d4 d5 d6 e0 e1 e2 e3 q0 q1;obtain⟨cI,EP,F3⟩:=yH3 sb sP FU;have Jo:=zab sP;obtain⟨⟨d0,d1,d2,d3,d4,d5,d6⟩,e0,e1,e2,e3⟩:=aw.o w6 sb;obtain⟨q0,q1⟩:=zbl sP;have h6l:LB<w6.heap.size:=Mcm;clear b6 sP sb FU;go_upto_if 96 with fail
     go_cut [10,15]from 95 to 107 (fun v10 _ wc=>∃(ZA:Option Addr) (zc:Nat),v10=.slice ZA out2.length zc/\Sl wc 3 zaa ZA out2/\wc.heap[QB]?=some (.cells #[.int .i64 (q-own).num,.int .i64 (q-own).den] 56)/\Below QB W2 wc)
     case first=>
      cases hn:noB sp
      ·have w2:¬sp.toList=[]:=by simpa using(show sp.toList.isEmpty=false from hn)
       have y2:sp.toList.isEmpty=false:=hn;have y3:(!sp.toList.isEmpty)=true:=by rw[y2];rfl
       rw[y3];have ae:=dH.o;have cg:=EM.o;rw[hn]at ae cg;simp only[Bool.false_eq_true,if_false]at ae cg;obtain⟨r1,r2,r3,r4⟩:=zbk ji.o;have nI:=uY.o.2;rw[<-ae]at nI;obtain⟨je,eJ,ew⟩:=yH3 (fun W=>zgC q (Rat.divInt law.num law.den) W aB.o.2.2 (zc4 Mco Mco (zep ji.o) r3 r4)) (fun W=>zhE q own W aB.o.2.2 nI) (fun W (hW:Below w6.heap.size w6 W)=>zcN ys sp own YA yc W (by have:=ki.o;omega) kM.o nI (F3.o.keep hW));rw[<-ae]at je;rw[<-cg]at ew;unfold zaC at je eJ ew;rw[r1,r2]at je;clear hn ae cg r1 r2 r3 r4 nI;go_upto_region 24 with(go_at_call 144;go_must(refine(je.o _).mono ?_);rintro e wq ⟨rfl,z6,rfl⟩)
       obtain⟨OB,gW⟩:∃OB,OB=w6.heap.size+z6.os.size:=⟨_,rfl⟩
       obtain⟨WO,Ac⟩:∃WO,WO=(w6.ext z6).alloc (.cells #[.int .i64 (own).num,.int .i64 (own).den] 56):=⟨_,rfl⟩
       have gO:WO.heap[OB]?=some (.cells #[.int .i64 (own).num,.int .i64 (own).den] 56):=by rw[Ac];exact zas _ _ _ (by rw[gW];simp[zaf])
       have CY:Below w6.heap.size w6 WO:=by rw[Ac];exact zac (zap w6 z6) _
       rw[<-Ac,<-gW];clear Ac gW d0 d1 d2 d3 d4 d5 d6 e0 e1 e2 e3 q0 q1;obtain⟨o0,o1⟩:=zbl gO;have JQ:=CY.size;have wj:=zab gO;obtain⟨AQ,GO⟩:=yH2 CY gO;clear gO CY;go_upto_region 25 with(go_at_call 141;go_must(refine(ew.o _ (by have:=AQ.o;exact Bw)).mono ?_);rintro e w7 ⟨v7,rfl,o7,b7⟩)
       obtain⟨GV,gc,rfl,_,_⟩:=o7.sl zan;have vJ:=b7.size;have tK:=(b7.block QB Mcm).trans ((AQ.o.block QB Jo).trans EP.o);have C9:=(b7.block OB wj).trans GO.o;have bC:=zHi (cI.o.trans ((AQ.o.trans (b7.mono JQ)).mono Mcm));have o8:=zHi (o7.base_le (show QB<=WO.heap.size by omega));have h7l:=zab C9;have h7m:=zab tK;obtain⟨y0,y1⟩:=zbl tK;obtain⟨y2,y3⟩:=zbl C9;have f0:=frz tK;clear o7 b7 C9 o0 o1;go_wp2_with (go_at_call 145;go_must(refine(eJ.o _).mono ?_);rintro e wq ⟨rfl,z5,rfl⟩)
       go_meet
       exact⟨GV,gc,rfl,(ziQ zan (((o8.o.kept (zar _ _ _ _) tK Mco).kept (zar _ _ _ _) (Joins.block_setCell (i:=0) tK _) Mco).keep (zap _ z5))).1,zbv (zeo tK),zbm (zaL (zaL bC.o (Nat.le_refl _) _) (Nat.le_refl _) _) z5⟩
      ·have w2:sp.toList=[]:=by simpa using(show sp.toList.isEmpty=true from hn)
       have y2:sp.toList.isEmpty=true:=hn;have y3:(!sp.toList.isEmpty)=false:=by rw[y2];rfl
       rw[y3];have ae:=dH.o;have cg:=EM.o;rw[hn]at ae cg;simp only[if_true]at ae cg;have B7:Hid (q-own=q/\out2=ys):=zHi ⟨by rw[ae];grind,cg⟩;clear hn ae cg;go_wp2_with fail
       go_meet
       exact⟨YA,yc,by rw[B7.o.2],by rw[B7.o.2];exact F3.o,by rw[B7.o.1];exact EP.o,cI.o⟩
     case rest=>
      obtain⟨ZA,zc,rfl,CQ,hQ,hB⟩:=hcut;clear d0 d1 d2 d3 d4 d5 d6 e0 e1 e2 e3 q0 q1;obtain⟨kk1,kk2,kk3,kk4,kk5,kk6⟩:=Bi.o;have Lo:=zab hQ;have aS:=aA.o.trans (hB.mono Mcm);obtain⟨C5,qs⟩:=yH2 CQ aS;have LL:w.heap.size<wc.heap.size:=Mcm;have LM:LB<wc.heap.size:=Mcm;obtain⟨⟨d0,d1,d2,d3,d4,d5,d6⟩,e0,e1,e2,e3⟩:=aw.o wc hB;obtain⟨q0,q1⟩:=zbl hQ;have IF:=zHi kk6;by_cases hz:q-own=0
      ·have mX:¬(0:Int)<(q-own).num:=by rw[hz];decide
       have bw:Hid (R=some out2):=by show _=_;rw[lQ.o,if_pos Mdy]
       have cr:=zHi (fun W (hW:Below wc.heap.size wc W)=>zdH out2 ZA zc W Mcm (C5.o.keep hW));rw[kk1.small]at cr;clear hz kk1 kk2 kk3 kk4 kk5 kk6 hB hQ CQ aS;go_wp2_with (go_at_call 146;go_must(refine(cr.o _ Bw).mono ?_);rintro e wq ⟨rfl,rfl⟩)
       go_ret2
       exact⟨ZA,zc,out2,false,rfl,C5.o,qs.o,by have:=IF.o;omega,.inl ⟨bw.o,rfl⟩⟩
      ·have Ht:0<q-own:=McG;have mX:(0:Int)<(q-own).num:=zk9.1 Ht;have E3:R=zeL (q-own) T out2:=by rw[lQ.o,if_neg Mdy]
       have bT:=zHi (fun W (hW:Below wc.heap.size wc W)=>qV.o (q-own) ZA zc out2 W (aS.trans (hW.mono aS.size)) (C5.o.keep hW) kk1 kk2 kk4 McG uY.o.1)
       have zi:Hid (∀xs,R=some xs->zaF xs=false):=zHi (fun xs hx=>by
        rw[E3]at hx;unfold zeL at hx;split at hx
        ·cases hx
        ·exact(ze5 (Rat.mul_nonneg kk2 (zhN (by rw[lH.o];exact uY.o.1)).2.2.1) kk1.good kk1.small hx).2)
       rw[<-E3]at bT;clear hz Ht E3 kk1 kk2 kk3 kk4 kk5 kk6 hB hQ CQ aS;go_upto_region 28 with(go_at_call 172;go_must(refine(bT.o _ Bw).mono ?_);rintro e w8 ⟨XA,xc,xs,rfl,x1,x2,x3,x4⟩)
       obtain⟨cr,F2,av,eM,kh⟩:=yH5 (fun W (hW:Below w8.heap.size w8 W)=>zdH xs XA xc W Mcm (x1.keep hW)) x1 (qs.o.trans (x2.mono qs.o.size)) x3 x4;clear x1 x2 x3 x4 d0 d1 d2 d3 d4 d5 d6 e0 e1 e2 e3 q0 q1;cases hlg:zaF xs
       ·rw[hlg]at cr;go_wp2_with (go_at_call 146;go_must(refine(cr.o _ (Below.refl _ _)).mono ?_);rintro e wq ⟨rfl,rfl⟩)
        go_ret2
        rcases kh.o with h|⟨h1,h2⟩
        ·exact⟨XA,xc,xs,false,rfl,F2.o,av.o,eM.o,.inl ⟨h,rfl⟩⟩
        ·rw[hlg]at h2;cases h2
       ·rw[hlg]at cr;go_wp2_with (go_at_call 146;go_must(refine(cr.o _ (Below.refl _ _)).mono ?_);rintro e wq ⟨rfl,rfl⟩)
        go_ret2
        rcases kh.o with h|⟨h1,h2⟩
        ·have:=zi.o xs h;rw[hlg]at this;cases this
        ·exact⟨XA,xc,xs,true,rfl,F2.o,av.o,eM.o,.inr ⟨h1,rfl⟩⟩

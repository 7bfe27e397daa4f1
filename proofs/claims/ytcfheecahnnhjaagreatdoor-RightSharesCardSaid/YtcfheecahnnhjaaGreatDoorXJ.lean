import Derived.Test.YtcfheecahnnhjaaGreatDoorXA
import Derived.Test.YtcfheecahnnhjaaGreatDoorDK
import Derived.Test.YtcfheecahnnhjaaGreatDoorAZ
set_option linter.all false
set_option maxRecDepth 100000
set_option maxHeartbeats 4000000
namespace Go.Proofs.YtcfheecahnnhjaaGreatDoor
open Go.RowKit Go.Shelf
attribute [local go_sem] World.cell?_alloc_mark zag za4 zar zaB zaw zax zay zaz za0 za1 za2
attribute [local go_sem] zas zad
theorem zcB{n:Nat}{q:Rat}(h0:0<n)(h1:n<=1000000000)(h:IsN n q)(h2:0<=q)(h3:q<=1):zaJ q:=zcd h2 h3 (by
 have:=zkp h0 h;unfold bigQ;simp
 omega)
theorem wrap_m{k:Nat}(h:k<=1000):wrap64 ((k:Int)-1)=(k:Int)-1:=by
 unfold wrap64;omega
def zgb(wd:List Deed)(n:ByteArray):List RPart:=((wd.reverse.find? fun d=>zae d.frm n).map (·.to)).getD []
theorem zjg{s:St}{wd rd:List Deed}(h:StLink s wd rd)(n:ByteArray):zbx s n=zan (zgb wd n):=by
 unfold zbx zgb;rw[h.wills,<-List.map_reverse,List.find?_map];have e:((fun w:ByteArray×Parts=>zae w.1 n)∘fun d:Deed=>(d.frm,zan d.to))=fun d:Deed=>zae d.frm n:=rfl
 rw[e];cases wd.reverse.find? fun d=>zae d.frm n<;>rfl
theorem zpu{wd:List Deed}{n:ByteArray}{k:Nat}(h:k<wd.length):zgb (wd.take (k+1)) n=if zae wd[k].frm n then wd[k].to else zgb (wd.take k) n:=by
 unfold zgb;rw[List.take_add_one,List.getElem?_eq_getElem h];simp only[Option.toList_some,List.reverse_append,List.reverse_singleton,List.singleton_append,List.find?_cons];cases zae wd[k].frm n<;>rfl
theorem own_key{law:Law}{out:Parts}{rest:Rat}(sp:ByteArray)(hl:za8 16 law.num law.den=true)(g1:GoodParts out)(g2:∀p∈out,IsN 720720 p.2)(g3:IsN 720720 rest)(g4:0<=rest)(g5:rest<=1):
 0<=rest*Rat.divInt law.num law.den/\rest*Rat.divInt law.num law.den<=rest/\GoodParts (za3 out sp (rest*Rat.divInt law.num law.den))/\zaF (za3 out sp (rest*Rat.divInt law.num law.den))=false/\
  zaJ (rest*Rat.divInt law.num law.den)/\zaJ (rest-rest*Rat.divInt law.num law.den):=by
 obtain⟨_,_,l1,l2⟩:=zbp hl;have hd:za8 16 law.num law.den=true:=hl;have h1:0<=rest*Rat.divInt law.num law.den:=Rat.mul_nonneg g4 l1;have h2:rest*Rat.divInt law.num law.den<=rest:=by
  have:=Rat.mul_le_mul_of_nonneg_left l2 g4;grind
 have nI:∃d:Nat,0<d/\d<=16/\IsN d (Rat.divInt law.num law.den):=by
  exact M4
 obtain⟨d,d0,d1,Db⟩:=nI;have hN:=zkn g3 Db;exact⟨h1,h2,zb0 h1 g1,zc9 (n:=720720*d) Mcu Mcu (zcK hN fun p hp=>zlg (g2 p hp)),zcB (n:=720720*d) Mcu Mcu hN h1 McX,zcB (n:=720720*d) Mcu Mcu (zgW (zlg g3) hN) McX McX⟩
structure WillSt (out:Parts) (rest:Rat) (l:Parts) (L:List ByteArray):Prop where
 good:GoodParts out
 isN:∀p∈out,IsN 720720 p.2
 rN:IsN 720720 rest
 names:zco out L
 sum:sumQ out+rest=1
 left:sumQ l<=rest
 pos:∀p∈l,0<p.2
 lN:∀p∈l,IsN 720720 p.2
theorem WillSt.bounds{out:Parts}{rest:Rat}{l:Parts}{L:List ByteArray}(h:WillSt out rest l L):0<=rest/\rest<=1/\0<=sumQ out/\sumQ out<=1/\zaJ rest/\zaF out=false:=by
 have h1:0<=sumQ l:=zbt fun p hp=>by have:=h.pos p hp;grind
 have h2:0<=sumQ out:=zbt fun p hp=>by have:=h.good.pos p hp;grind
 have h3:=h.left;have h4:=h.sum;have h5:0<=rest:=McX;have h6:rest<=1:=McX;exact⟨h5,h6,h2,by grind,zcB Mcw Mcw h.rN h5 h6,zc9 Mcw Mcw h.isN⟩
theorem WillSt.hd{out:Parts}{rest:Rat}{l:Parts}{L:List ByteArray}(h:WillSt out rest l L):Hd out L:=⟨h.good,h.bounds.2.2.2.2.2,h.names⟩
theorem WillSt.give{out:Parts}{rest:Rat}{n:ByteArray}{q:Rat}{l:Parts}{L:List ByteArray}(h:WillSt out rest ((n,q)::l) L)(hn:n∈L):WillSt (za3 out n q) (rest-q) l L:=by
 have hq:=h.pos (n,q) Mcx;have hN:=h.lN (n,q) Mcx;have hs:=h.left;rw[sumQ]at hs;simp only at hq hN hs;exact⟨zb0 McX h.good,zcK hN h.isN,zgW h.rN hN,zje h.names hn,by rw[zbY];have:=h.sum;grind,by grind,fun p hp=>h.pos p Md0,fun p hp=>h.lN p Md0⟩
theorem WillSt.skip{out:Parts}{rest:Rat}{x:ByteArray×Rat}{l:Parts}{L:List ByteArray}(h:WillSt out rest (x::l) L):WillSt out rest l L:=by
 have hq:=h.pos x Mcx;have hs:=h.left;rw[sumQ]at hs;exact⟨h.good,h.isN,h.rN,h.names,h.sum,by grind,fun p hp=>h.pos p Md0,fun p hp=>h.lN p Md0⟩
def zkU(w:World)(R:Option Parts)(e:Ending)(w':World):Prop:=
 ∃(A:Option Addr) (c:Nat) (xs:Parts) (b:Bool),e=.returned (.tuple #[.slice A xs.length c,.bool b])/\Sl w' 3 zaa A xs/\Below w.heap.size w w'/\xs.length<=100000/\((R=some xs/\b=false)\/(R=none/\b=true))
theorem zny(laws:List Law)(s:St)(wd rd:List Deed)(LA CA MA DA WA RA GA:Option Addr)(c0 c1 c2 c3 c4 c5 c6:Nat)(n:ByteArray)(day:Int)(w:World)(h:StIn w laws s wd rd LA CA MA DA WA RA GA c0 c1 c2 c3 c4 c5 c6)(hk:StLink s wd rd)(hf:StFew s wd rd)(bp:zaC laws=0)(hW:WillOk (zbx s n))(kY:∀a,¬Desc s a a)(cG:(zbx s n).length<=8):
 Calls Tryz.prog 167 #[.agg #[.slice LA laws.length c0,.slice CA s.children.length c1,.slice MA s.marriages.length c2,.slice DA s.dead.length c3,.slice WA wd.length c4,.slice RA rd.length c5,.slice GA s.graves.length c6],.string n,.int .i64 day] w (zkU w (zcP s (zbc laws day) n)):=by
 have xP:laws.length<=10:=by
  unfold zaC at bp;split at bp
  ·cases bp
  ·rename_i h1;simpa using h1
 have qJ:=zHi (fun W (hB:Below w.heap.size w W)=>zpn laws LA c0 day W xP (h.laws.keep hB));have bQ:=zfe bp day;obtain⟨R,hR⟩:∃R,R=zcP s (zbc laws day) n:=⟨_,rfl⟩
 rw[<-hR];unfold Law.v at qJ;generalize zbc laws day=law at*;obtain⟨L,hL⟩:∃L:List ByteArray,L=(zgb wd n).map (·.name)++s.children.map (·.2)++[zaK s n,⟨#[]⟩]:=⟨_,rfl⟩
 have Fw:∀p∈zgb wd n,p.name∈L:=fun p hp=>by rw[hL];exact List.mem_append_left _ (List.mem_append_left _ (List.mem_map_of_mem hp))
 have Ft:∀c∈s.children,c.2∈L:=fun c hc=>by rw[hL];exact List.mem_append_left _ (List.mem_append_right _ (List.mem_map_of_mem hc))
 have Fv:zaK s n∈L:=by rw[hL];exact List.mem_append_right _ Mcx
 have wB:(⟨#[]⟩:ByteArray)∈L:=by rw[hL];exact List.mem_append_right _ Mcx
 have xZ:(zgb wd n).length<=8:=by
  have:=cG;rw[zjg hk]at this;simpa[zan]using this
 have u4:L.length<=90000:=by
  rw[hL];have:=hf.kids;simp;omega
 have xX:∀p∈zgb wd n,za8 16 p.num p.den=true:=by
  unfold zgb;intro p hp;cases oF:wd.reverse.find? fun d=>zae d.frm n with
  |none=>rw[oF]at hp;simp at hp
  |some d=>
   rw[oF]at hp;exact hk.shares d (by have:=List.mem_of_find?_eq_some oF;simpa using this) p hp
 obtain⟨df,qV,fx,iY,rg⟩:=yH5 (fun W (hB:Below w.heap.size w W)=>zhm laws s wd rd LA CA MA DA WA RA GA c0 c1 c2 c3 c4 c5 c6 law n hk hf (zaX s) n W (h.keep hB) (zk7 kY n)) (fun share A c out W (hB:Below w.heap.size w W)=>zjf laws s wd rd LA CA MA DA WA RA GA c0 c1 c2 c3 c4 c5 c6 law n L hk hf Ft u4 (zaX s) n share A c out W (h.keep hB) (zk7 kY n)) (fun x W (hB:Below w.heap.size w W)=>sAble x n W (h.keep hB) hk hf) (fun W (hB:Below w.heap.size w W)=>sSpouse n W (h.keep hB) hf) (fun W (hB:Below w.heap.size w W)=>h.wills.keep zch hB);have fH:=zgF s law.stems n (zaX s) n;rw[zjg hk]at hW;have BV:Hid (WillSt [] 1 (zan (zgb wd n)) L):=zHi ⟨zdD,by simp,zgX _,fun p hp=>by(cases hp),by simp[sumQ];grind,hW.le,hW.pos,hW.isN⟩;unfold zcP at hR;rw[zjg hk]at hR;obtain⟨Z,hZ⟩:∃Z,Z=zcu s n (zan (zgb wd n)) [] 1:=⟨_,rfl⟩
 rw[<-hZ]at hR;obtain⟨HZ,HR,Bp,eB,dh,dM,vW,lP⟩:=yH8 hZ hR xX Fw bQ (show LA=LA/\zaK s n∈L/\(⟨#[]⟩:ByteArray)∈L/\L.length<=90000 from⟨rfl,Fv,wB,u4⟩) xZ fH;have qA:=zHi hf.wills;unfold Law.v at df qV;unfold zaA at qV;unfold zkU;clear bp hW kY cG xP bQ hR hL Fw Ft Fv wB xZ u4 xX fH hZ h hf hk;generalize zd8 s law.stems n (zaX s) n=ls at*;generalize zb7 s law.stems n (zaX s) n=T at*;generalize oO:zgb wd n=lw at*;have Bo:=zHi oO.symm;clear oO;go_enter Tryz.func167,Tryz.ntmps167
 go_upto_block 0 with(first
  |(go_at_call 183;go_must(refine(qJ.o _ Bw).mono ?_);rintro e wq ⟨rfl,z1,rfl⟩)
  |(go_at_call 127;go_must(refine(zhS _).mono ?_);rintro e wq ⟨rfl,z2,rfl⟩))
 obtain⟨LB,tZ⟩:∃LB,LB=w.heap.size+1+z1.os.size:=⟨_,rfl⟩
 obtain⟨QB,rF⟩:∃QB,QB=LB+1+z2.os.size:=⟨_,rfl⟩
 obtain⟨W2,cI⟩:∃W2,W2=((((w.alloc (.cells #[.slice LA laws.length c0,.slice CA s.children.length c1,.slice MA s.marriages.length c2,.slice DA s.dead.length c3,.slice WA wd.length c4,.slice RA rd.length c5,.slice GA s.graves.length c6] 44)).ext z1).alloc (.cells #[.int .i64 law.frm,.bool law.stems,.int .i64 law.num,.int .i64 law.den] 100)).ext z2).alloc (.cells #[.int .i64 1,.int .i64 1] 31):=⟨_,rfl⟩
 have g0:W2.heap[w.heap.size]?=some (.cells #[.slice LA laws.length c0,.slice CA s.children.length c1,.slice MA s.marriages.length c2,.slice DA s.dead.length c3,.slice WA wd.length c4,.slice RA rd.length c5,.slice GA s.graves.length c6] 44):=by rw[cI];exact zal (zb5 (zal (zb5 (zaq _ _ _ rfl))))
 have g1:W2.heap[LB]?=some (.cells #[.int .i64 law.frm,.bool law.stems,.int .i64 law.num,.int .i64 law.den] 100):=by rw[cI];exact zal (zb5 (zaq _ _ _ (by rw[tZ];simp[zag])))
 have g2:W2.heap[QB]?=some (.cells #[.int .i64 ((1:Rat)).num,.int .i64 ((1:Rat)).den] 31):=by rw[cI];exact zaq _ _ _ (by rw[rF,tZ];simp[zag])
 have bE:Below w.heap.size w W2:=by rw[cI];exact Bw
 rw[<-cI,<-tZ,<-rF];have dL:w.heap.size<LB:=Mcu;have cM:LB<QB:=Mcu;have fw:=zab g2;obtain⟨aD,gT⟩:=yH2 bE g2
 have aw:=zHi (fun W (hB:Below QB W2 W)=>(show(W.cell? ⟨w.heap.size,0,none⟩=some (.slice LA laws.length c0)/\W.cell? ⟨w.heap.size,1,none⟩=some (.slice CA s.children.length c1)/\W.cell? ⟨w.heap.size,2,none⟩=some (.slice MA s.marriages.length c2)/\W.cell? ⟨w.heap.size,3,none⟩=some (.slice DA s.dead.length c3)/\W.cell? ⟨w.heap.size,4,none⟩=some (.slice WA wd.length c4)/\W.cell? ⟨w.heap.size,5,none⟩=some (.slice RA rd.length c5)/\W.cell? ⟨w.heap.size,6,none⟩=some (.slice GA s.graves.length c6))/\(W.cell? ⟨LB,0,none⟩=some (.int .i64 law.frm)/\W.cell? ⟨LB,1,none⟩=some (.bool law.stems)/\W.cell? ⟨LB,2,none⟩=some (.int .i64 law.num)/\W.cell? ⟨LB,3,none⟩=some (.int .i64 law.den)) from by
  have x0:=(hB.block _ Mcu).trans g0;have x1:=(hB.block _ cM).trans g1
  refine⟨zaH x0,?_,?_,?_,?_⟩<;>(simp only[World.cell?,x1];rfl)))
 clear cI tZ rF g0 g1 g2 bE qJ;obtain⟨⟨d0,d1,d2,d3,d4,d5,d6⟩,e0,e1,e2,e3⟩:=aw.o W2 (Below.refl _ _);have sr:=qA.o;go_cut [10,11,12,13]from 25 to 71 (fun v10 _ _ _ wc=>∃(YA:Option Addr) (yc:Nat) (ys:Parts) (q:Rat),v10=.slice YA ys.length yc/\Hid (Z=(ys,q))/\Hid (WillSt ys q [] L)/\Sl wc 3 zaa YA ys/\wc.heap[QB]?=some (.cells #[.int .i64 (q).num,.int .i64 (q).den] 31)/\Below QB W2 wc)
 case first=>
  go_wp2_with fail
  go_loopw [10,11,12,13] (fun v10 v11 _ _ wr=>∃(j:Nat) (i:Int),j<=wd.length/\v10=.slice none 0 0/\v11=.int .i64 i/\i=(j:Int)-1/\Hid (lw=zgb (wd.take j) n)/\W2=wr) (fun _ v11 _ _ _=>(intOf v11+1).toNat)
  case atStart=>exact⟨wd.length,(wd.length:Int)-1,Nat.le_refl _,rfl,by first|go_num|rw[wrap_m sr],rfl,zHi (by rw[List.take_length];exact Bo.o),rfl⟩
  case round=>
   obtain⟨j,i,hj,rfl,rfl,hi,HJ,rfl⟩:=hrel;cases j with
   |zero=>
    have uo:i= -1:=Mcu;subst uo;have sJ:lw=[]:=by rw[HJ.o,List.take_zero];rfl
    have C2:Hid (Z=([],1)):=by show _=_;rw[HZ.o,sJ];rfl
    have J9:Hid (WillSt [] 1 [] L):=by have:=BV;rw[sJ]at this;exact this
    clear sJ hi;go_wp2_with fail
    go_meet
    exact⟨none,0,[],1,rfl,C2,J9,Sl.nil,gT.o,Below.refl _ _⟩
   |succ m=>
    have uo:i=(m:Int):=Mcu;subst uo;obtain⟨b,off,cs,hA,hb,⟨B,c,hc,rfl,hP⟩,ah⟩:=(rg.o w (Below.refl _ _)).at (k:=m) hj;have ao:=HJ.o;rw[zpu hj]at ao;generalize wd[m]=x at*;subst hA;have bl:b<W2.heap.size:=Nat.lt_of_lt_of_le hb aD.o.size;have i3:W2.cell? ⟨b,off+m*7+3,none⟩=some (.string x.frm):=(zah aD.o hb).trans (ah 3 _ rfl);have i4:w.cell? ⟨b,off+m*7+4,none⟩=some (.slice B x.to.length c):=ah 4 _ rfl;have fI:(m:Int)<(wd.length:Int):=Mcu;have nN:(0:Int)<=(m:Int):=Mcu;obtain⟨ID,HP⟩:=yH2 hj hP;obtain⟨kd,dy,pl,fr,ts,cl,yr⟩:=x;simp only at i3 i4 hc ao HP;clear ah hi hj hP;cases hs:zae fr n
    ·have aY:(fr.toList==n.toList)=false:=hs;have aK:Hid (lw=zgb (wd.take m) n):=by show _=_;rw[ao,hs];rfl
     clear ao hs;go_wp2_with fail
     go_round
     case rel=>exact⟨m,(m:Int)-1,by have:=ID.o;omega,rfl,by go_num,rfl,aK,by first|exact True.intro|rfl⟩
     case measure=>simp only[intOf];omega
    ·have aY:(fr.toList==n.toList)=true:=hs;have DF:ts=lw:=by rw[ao,hs];rfl
     clear ao hs;subst DF;have hts:ts.length<=8:=vW.o;go_upto_region 9 with fail
     go_loopw [10,12,13] (fun v10 v12 _ wr=>∃(k:Nat) (ys:Parts) (q:Rat),k<=ts.length/\v12=.int .i64 k/\Hid (Z=zcu s n (zan (ts.drop k)) ys q)/\Hid (WillSt ys q (zan (ts.drop k)) L)/\OwnS wr QB 64 3 zaa v10 ys/\wr.heap[QB]?=some (.cells #[.int .i64 (q).num,.int .i64 (q).den] 31)/\Below QB W2 wr) (fun _ v12 _ _=>ts.length-(intOf v12).toNat)
     case atStart=>exact⟨0,[],1,Nat.zero_le _,rfl,HZ,BV,OwnS.nil,gT.o,Below.refl _ _⟩
     case round=>
      obtain⟨k,ys,q,hk,rfl,HX,EZ,aa,hQ,hB⟩:=hrel;obtain⟨YA,yc,rfl,rQ,uH⟩:=aa.sl zam;have fm:Below w.heap.size w wr:=aD.o.trans (hB.mono Mcu);have aI:=fm.size;have GJ:=zab hQ;obtain⟨⟨d0,d1,d2,d3,d4,d5,d6⟩,e0,e1,e2,e3⟩:=aw.o wr hB;have j4:wr.cell? ⟨b,off+m*7+4,none⟩=some (.slice B ts.length c):=(zah fm hb).trans i4;obtain⟨b8,HB,dN⟩:=yH3 fm hB aa;by_cases ae:k<ts.length
      ·obtain⟨pb,po,m9,hpb,oU⟩:=(HP.o.keep fm).at ae;have hx:=HX.o;have kE:=EZ.o;have gJ:zan (ts.drop k)=(ts[k].name,ts[k].rat)::zan (ts.drop (k+1)):=by rw[List.drop_eq_getElem_cons ae];rfl
       rw[gJ,zcu]at hx;rw[gJ]at kE;have ky:=Bp.o _ (List.getElem_mem ae);have oS:=eB.o _ (List.getElem_mem ae);have am:=zHi ae;generalize ts[k]=x at*;obtain⟨nm,nu,de⟩:=x;simp only at ky oS hx kE;subst m9;have p0:wr.cell? ⟨pb,po+k*3,none⟩=some (.string nm):=oU 0 _ rfl;have p1:wr.cell? ⟨pb,po+k*3+1,none⟩=some (.int .i64 nu):=oU 1 _ rfl;have p2:wr.cell? ⟨pb,po+k*3+2,none⟩=some (.int .i64 de):=oU 2 _ rfl;have ar:(k:Int)<(ts.length:Int):=Mcu;have aT:(0:Int)<=(k:Int):=Mcu;have mV:(⟨nm,nu,de⟩:RPart).rat=Rat.divInt nu de:=rfl;rw[mV]at hx kE;obtain⟨r1,r2,r3,r4⟩:=zbp ky;have AK:=zcB Mcw Mcw (zet ky) r3 r4;obtain⟨b1,b2,b3,b4,b5,b6⟩:=kE.bounds;generalize Rat.divInt nu de=r at*;have eG:=zgH kE.good kE.names;obtain⟨ez,eM⟩:=yH2 (fun W (hW:Below wr.heap.size wr W)=>zcZ ys nm r YA yc W (by have:=dM.o.2.2.2;omega) (kE.hd.parts b4) AK (rQ.keep hW)) (fun W=>zhG q r W b5 AK);unfold zaA at ez eM;rw[r1,r2]at ez eM;obtain⟨kF,av,ol,Bz⟩:=yH4 (fun W (hW:Below wr.heap.size wr W)=>fx.o nm W (b8.o.trans (hW.mono aI))) hx kE oS;have hqB:QB<wr.heap.size:=GJ;have HQ:=zHi hQ;clear oU hx kE gJ ky oS mV r1 r2 r3 r4 AK b1 b2 b3 b4 b5 b6 eG aa rQ hB fm ae hQ;go_upto_region 12 with fail
       obtain⟨WP,Aq⟩:∃WP,WP=wr.alloc (.cells #[.string nm,.int .i64 nu,.int .i64 de] 64):=⟨_,rfl⟩
       have gP:WP.heap[wr.heap.size]?=some (.cells #[.string nm,.int .i64 nu,.int .i64 de] 64):=by rw[Aq];exact zaq _ _ _ rfl
       have wf:Below wr.heap.size wr WP:=by rw[Aq];exact Bw
       rw[<-Aq];have tu:=zHi wf;have cS:=wf.size;have fK:=zab gP;obtain⟨s0,s1,s2⟩:WP.cell? ⟨wr.heap.size,0,none⟩=some (.string nm)/\WP.cell? ⟨wr.heap.size,1,none⟩=some (.int .i64 nu)/\WP.cell? ⟨wr.heap.size,2,none⟩=some (.int .i64 de):=by
        simp only[World.cell?,gP];exact⟨rfl,rfl,rfl⟩
       obtain⟨⟨x0,x1,x2,x3,x4,x5,x6⟩,_⟩:=aw.o WP (HB.o.trans (wf.mono Mcu));have hqW:QB<WP.heap.size:=Mcu;obtain⟨GQ,GP⟩:=yH2 ((wf.block _ GJ).trans HQ.o) gP;clear Aq gP wf d0 d1 d2 d3 d4 d5 d6 e0 e1 e2 e3 j4 p0 p1 p2;cases cJ:zed s nm n
       ·rw[cJ]at kF av;have eQ:Hid (Z=zcu s n (zan (ts.drop (k+1))) ys q):=MdJ;clear cJ;go_wp2_with (go_at_call 184;go_must(refine(kF.o _ (by have:=tu.o;exact Bw)).mono ?_);rintro e wq ⟨rfl,z,rfl⟩)
        go_round
        case rel=>exact⟨k+1,ys,q,am.o,by go_num,eQ,zHi ol.o.skip,(dN.o.keep tu.o).keep (n:=WP.heap.size) (zao WP z),zb5 GQ.o,zbg (HB.o.trans (tu.o.mono Mcu)) z⟩
        case measure=>have:=am.o;simp only[intOf];omega
       ·rw[cJ]at kF av;have eQ:Hid (Z=zcu s n (zan (ts.drop (k+1))) (za3 ys nm r) (q-r)):=MdJ;have BW:=zHi (ol.o.give Bz.o);clear cJ
        go_upto_region 14 with(first
         |(go_at_call 184;go_must(refine(kF.o _ (by have:=tu.o;exact Bw)).mono ?_);rintro e wq ⟨rfl,z,rfl⟩)
         |(go_at_call 156;go_must(refine(ez.o _ (by have:=tu.o;exact Bw)).mono ?_);rintro e w5 ⟨v5,rfl,o5,b5⟩))
        obtain⟨YB,yd,rfl,_,_⟩:=o5.sl zam;have zk:=b5.size;have tR:=(b5.block QB McD).trans (zb5 (z:=z) GQ.o);have C5:=(b5.block wr.heap.size McD).trans (zb5 (z:=z) GP.o);have bo:=zHi (HB.o.trans ((zbg tu.o z |>.trans (b5.mono McD)).mono Mcu));have kO:=zHi (o5.base_le (show QB<=(WP.ext z).heap.size by simp[zag];omega));have h5l:=zab C5;have h5m:=zab tR;obtain⟨y0,y1⟩:=zby tR;have f0:=frz tR;obtain⟨-,s1,s2⟩:=cF3 C5;clear o5 b5 C5 zk;go_wp2_with (go_at_call 159;go_must(refine(eM.o _).mono ?_);rintro e wq ⟨rfl,z5,rfl⟩)
        go_round
        case rel=>exact⟨k+1,za3 ys nm r,q-r,am.o,by go_num,eQ,BW,((kO.o.kept (zav _ _ _ _) tR Mcw).kept (zav _ _ _ _) (Joins.block_setCell (i:=0) tR _) Mcw).keep (zao _ z5),zb5 (zdy tR),zbg (zaM (zaM bo.o (Nat.le_refl _) _) (Nat.le_refl _) _) z5⟩
        case measure=>have:=am.o;simp only[intOf];omega
      ·have ar:¬(k:Int)<(ts.length:Int):=Mcu;have hx:=HX.o;have kE:=EZ.o;rw[List.drop_of_length_le Mcu]at hx kE;have av:Hid (Z=(ys,q)):=Md6;obtain⟨ol,oo,HQ⟩:=yH3 kE rQ hQ;clear hx kE aa rQ hQ hB fm;go_wp2_with fail
       go_meet
       exact⟨YA,yc,ys,q,rfl,av,ol,oo.o,HQ.o,HB.o⟩
 case rest=>
  obtain⟨YA,yc,ys,q,rfl,Jg,lY,hY,hQ,hB⟩:=hcut;clear d0 d1 d2 d3 d4 d5 d6 e0 e1 e2 e3;have hr:=HR.o;rw[Jg.o]at hr;simp only at hr;obtain⟨b1,b2,b3,b4,b5,b6⟩:=lY.o.bounds;have tp:=zgH lY.o.good lY.o.names;have tq:ys.length<=90000:=by have:=dM.o.2.2.2;omega
  have fm:Below w.heap.size w wc:=aD.o.trans (hB.mono Mcu);obtain⟨q0,q1⟩:=zby hQ;have DN:=zab hQ;obtain⟨FQ,kU,b8⟩:=yH3 hY tq fm;by_cases hqz:q=0
  ·have DP:(q.num==0)=true:=by rw[hqz];rfl
   have cn:Hid (R=some ys):=by show _=_;rw[hr,if_pos (by simpa using hqz)]
   clear hr hqz b1 b2 b3 b4 b5 b6 tp tq hB hY fm;go_wp2_with fail
   go_ret2
   exact⟨YA,yc,ys,false,rfl,FQ.o,b8.o,by have:=kU.o;omega,.inl ⟨cn.o,rfl⟩⟩
  ·have DP:(q.num==0)=false:=by
    have:q.num≠0:=fun e=>hqz (Rat.num_eq_zero.1 e)
    simpa using this
   rw[if_neg (by simpa using hqz)]at hr;obtain⟨sp,cv⟩:∃sp,sp=if zed s (zaK s n) n then zaK s n else⟨#[]⟩:=⟨_,rfl⟩
   rw[<-cv]at hr;have za:sp∈L:=by
    rw[cv];split
    ·exact dM.o.2.1
    ·exact dM.o.2.2.1
   obtain⟨jG,aC,bI,BO,BN,bZ,kF⟩:=yH7 hB (show 0<=q/\q<=1/\zaJ q from⟨b1,b2,b5⟩) hr za cv (fun W (hW:Below wc.heap.size wc W)=>iY.o W (fm.trans (hW.mono fm.size))) (fun x W (hW:Below wc.heap.size wc W)=>fx.o x W (fm.trans (hW.mono fm.size)));obtain⟨⟨d0,d1,d2,d3,d4,d5,d6⟩,e0,e1,e2,e3⟩:=aw.o wc hB;have Lz:w.heap.size<wc.heap.size:=Mcu;have LC:LB<wc.heap.size:=Mcu;have HQ:=zHi hQ;clear hr hqz b1 b2 b3 b4 b5 b6 tp tq hB hY fm cv za hQ;obtain⟨WC,ud⟩:∃WC,WC=wc:=⟨_,rfl⟩
   subst ud;go_upto_region 18 with(go_at_call 166;go_must(refine(bZ.o _ Bw).mono ?_);rintro e wq ⟨rfl,z3,rfl⟩)
   have kB:=BN.o;have Ei:=zHi (fun W hW=>kF.o (zaK s n) W hW);generalize zaK s n=sq at*;go_upto_if 83 with(go_at_call 184;go_must(refine(Ei.o _ Bw).mono ?_);rintro e wq ⟨rfl,z4,rfl⟩)
   go_cut [14]from 79 to 84 (fun v wc=>v=.string sp/\(WC.ext z3).ext z4=wc)
   case first=>
    cases cJ:zed s sq n
    ·rw[cJ]at kB;simp only[Bool.false_eq_true,if_false]at kB;exact MbG
    ·rw[cJ]at kB;simp only[if_true]at kB;exact MbG
   case rest=>
    obtain⟨rfl,rfl⟩:=hcut;obtain⟨WD,CK⟩:∃WD,WD=(WC.ext z3).ext z4:=⟨_,rfl⟩
    have dt:Below WC.heap.size WC WD:=by rw[CK];exact Bw
    rw[<-CK];clear CK d0 d1 d2 d3 d4 d5 d6 e0 e1 e2 e3 q0 q1 kB Ei bZ kF;have Ki:=dt.size;have gQ:=(dt.block QB DN).trans HQ.o;have cB:=jG.o.trans (dt.mono Mcu);have bl:=b8.o.trans (dt.mono b8.o.size);obtain⟨⟨d0,d1,d2,d3,d4,d5,d6⟩,e0,e1,e2,e3⟩:=aw.o WD cB;obtain⟨q0,q1⟩:=zby gQ;have GI:=zab gQ;obtain⟨jU,F3,dp,rg,kQ,GQ⟩:=yH6 (fun W (hW:Below WD.heap.size WD W)=>df.o W (bl.trans (hW.mono bl.size))) (FQ.o.keep dt) cB bl (lY.o.hd.parts lY.o.bounds.2.2.2.1) gQ;clear dt gQ cB bl;by_cases hlz:ls.length=0
    ·have eG:((ls.length:Int)==0)=true:=by rw[hlz];rfl
     have cn:Hid (R=some (za3 ys sp q)):=by
      show _=_;have hT:T=[]:=List.eq_nil_of_length_eq_zero (by rw[lP.o];exact hlz);rw[bI.o,hT];rfl
     obtain⟨ez,qC⟩:=yH2 (fun W (hW:Below WD.heap.size WD W)=>zcZ ys sp q YA yc W (by have:=kU.o;omega) kQ.o aC.o.2.2 (F3.o.keep hW)) (zc1 sp q ys);generalize za3 ys sp q=gv at*;unfold zaA at ez;clear hlz;go_upto_region 21 with(go_at_call 185;go_must(refine(jU.o _ Bw).mono ?_);rintro e w6 ⟨v6,rfl,o6,b6⟩;obtain⟨KA,kc,rfl,_,_⟩:=o6.sl za9;clear o6)
     have rl:=b6.size;have sU:=(b6.block QB GI).trans GQ.o;obtain⟨x0,x1⟩:=zby sU;have bW:=zHi b6;clear d0 d1 d2 d3 d4 d5 d6 e0 e1 e2 e3 q0 q1 sU b6;go_wp2_with (go_at_call 156;go_must(refine(ez.o _ bW.o).mono ?_);rintro e w7 ⟨v7,rfl,o7,b7⟩;obtain⟨GV,gc,rfl,aL,_⟩:=o7.sl zam;obtain⟨dI,bS⟩:=yH2 aL (bW.o.trans (b7.mono rl));clear o7 b7 aL)
     go_ret2
     exact⟨GV,gc,gv,false,rfl,dI.o,rg.o.trans (bS.o.mono rg.o.size),by have:=kU.o;have:=qC.o;omega,.inl ⟨cn.o,rfl⟩⟩
    ·have eG:((ls.length:Int)==0)=false:=by
      have:(ls.length:Int)≠0:=by omega
      simpa using this
     have hT:¬T.isEmpty=true:=by
      intro e;rw[List.isEmpty_iff]at e;have:=lP.o;rw[e]at this;exact hlz this.symm
     obtain⟨own,out2,aa,cu,yE⟩:∃(own:Rat) (out2:Parts),own=(if noB sp=true then 0 else q*Rat.divInt law.num law.den)/\out2=(if noB sp=true then ys else za3 ys sp own)/\R=if(q-own==0)=true then some out2 else zeP (q-own) T out2:=
      ⟨_,_,rfl,rfl,by
        rw[bI.o,if_neg hT];unfold zeP
        rw[<-zh6]⟩
     obtain⟨k1,k2,k3,k4,k5,k6⟩:=own_key sp dh.o lY.o.good lY.o.isN lY.o.rN aC.o.1 aC.o.2.1
     have Bi:Hid (Hd out2 L/\0<=q-own/\q-own<=1/\zaJ (q-own)/\sumQ out2+(q-own)=1/\out2.length<=90001):=zHi (by
      have dU:=lY.o.sum;cases hn:noB sp
      ·rw[hn]at aa cu;simp only[Bool.false_eq_true,if_false]at aa cu;rw[cu,aa];refine⟨⟨k3,k4,zje lY.o.names BO.o⟩,by grind,by have:=aC.o.2.1;grind,k6,by rw[zbY];grind,?_⟩;have:=zc1 sp (q*Rat.divInt law.num law.den) ys;have:=kU.o;omega
      ·rw[hn]at aa cu;simp only[if_true]at aa cu;rw[cu,aa];have e:q-0=q:=McX;rw[e]
       exact⟨lY.o.hd,aC.o.1,aC.o.2.1,aC.o.2.2,dU,by have:=kU.o;omega⟩)
     obtain⟨iX,dN,EK,vr⟩:=yH4 yE aa cu (show 0<ls.length/\zaJ (q*Rat.divInt law.num law.den) from⟨by omega,k5⟩);clear hlz hT aa cu yE k1 k2 k3 k4 k5 k6;go_upto_region 22 with(go_at_call 185;go_must(refine(jU.o _ Bw).mono ?_);rintro e w6 ⟨v6,rfl,o6,b6⟩;obtain⟨KA,kc,rfl,_,_⟩:=o6.sl za9;clear o6)
     have rl:=b6.size;have sU:=(b6.block QB GI).trans GQ.o;have s8:=dp.o.trans (b6.mono Mcu);have FR:=F3.o.keep b6;clear d0 d1 d2 d3 d4 d5 d6 e0 e1 e2 e3 q0 q1;obtain⟨bW,EN,F2⟩:=yH3 s8 sU FR;have Jm:=zab sU;obtain⟨⟨d0,d1,d2,d3,d4,d5,d6⟩,e0,e1,e2,e3⟩:=aw.o w6 s8;obtain⟨q0,q1⟩:=zby sU;have h6l:LB<w6.heap.size:=Mcu;clear b6 sU s8 FR;go_upto_if 96 with fail
     go_cut [10,15]from 95 to 107 (fun v10 _ wc=>∃(ZA:Option Addr) (zc:Nat),v10=.slice ZA out2.length zc/\Sl wc 3 zaa ZA out2/\wc.heap[QB]?=some (.cells #[.int .i64 (q-own).num,.int .i64 (q-own).den] 31)/\Below QB W2 wc)
     case first=>
      cases hn:noB sp
      ·have w2:¬sp.toList=[]:=by simpa using(show sp.toList.isEmpty=false from hn)
       have y2:sp.toList.isEmpty=false:=hn;have y3:(!sp.toList.isEmpty)=true:=by rw[y2];rfl
       rw[y3];have aa:=dN.o;have cu:=EK.o;rw[hn]at aa cu;simp only[Bool.false_eq_true,if_false]at aa cu;obtain⟨r1,r2,r3,r4⟩:=zbp dh.o;have nM:=vr.o.2;rw[<-aa]at nM;obtain⟨iV,eM,ez⟩:=yH3 (fun W=>zgz q (Rat.divInt law.num law.den) W aC.o.2.2 (zcB Mcw Mcw (zet dh.o) r3 r4)) (fun W=>zhG q own W aC.o.2.2 nM) (fun W (hW:Below w6.heap.size w6 W)=>zcZ ys sp own YA yc W (by have:=kU.o;omega) kQ.o nM (F2.o.keep hW));rw[<-aa]at iV;rw[<-cu]at ez;unfold zaA at iV eM ez;rw[r1,r2]at iV;clear hn aa cu r1 r2 r3 r4 nM;go_upto_region 24 with(go_at_call 158;go_must(refine(iV.o _).mono ?_);rintro e wq ⟨rfl,z6,rfl⟩)
       obtain⟨OB,jH⟩:∃OB,OB=w6.heap.size+z6.os.size:=⟨_,rfl⟩
       obtain⟨WO,Ap⟩:∃WO,WO=(w6.ext z6).alloc (.cells #[.int .i64 (own).num,.int .i64 (own).den] 31):=⟨_,rfl⟩
       have gO:WO.heap[OB]?=some (.cells #[.int .i64 (own).num,.int .i64 (own).den] 31):=by rw[Ap];exact zaq _ _ _ (by rw[jH];simp[zag])
       have CT:Below w6.heap.size w6 WO:=by rw[Ap];exact zac (zao w6 z6) _
       rw[<-Ap,<-jH];clear Ap jH d0 d1 d2 d3 d4 d5 d6 e0 e1 e2 e3 q0 q1;obtain⟨o0,o1⟩:=zby gO;have JO:=CT.size;have wG:=zab gO;obtain⟨AW,GO⟩:=yH2 CT gO;clear gO CT;go_upto_region 25 with(go_at_call 156;go_must(refine(ez.o _ (by have:=AW.o;exact Bw)).mono ?_);rintro e w7 ⟨v7,rfl,o7,b7⟩)
       obtain⟨GV,gc,rfl,_,_⟩:=o7.sl zam;have F8:=b7.size;have tT:=(b7.block QB Mcu).trans ((AW.o.block QB Jm).trans EN.o);have C7:=(b7.block OB wG).trans GO.o;have bS:=zHi (bW.o.trans ((AW.o.trans (b7.mono JO)).mono Mcu));have vE:=zHi (o7.base_le (show QB<=WO.heap.size by omega));have h7l:=zab C7;have h7m:=zab tT;obtain⟨y0,y1⟩:=zby tT;obtain⟨y2,y3⟩:=zby C7;have f0:=frz tT;clear o7 b7 C7 o0 o1;go_wp2_with (go_at_call 159;go_must(refine(eM.o _).mono ?_);rintro e wq ⟨rfl,z5,rfl⟩)
       go_meet
       exact⟨GV,gc,rfl,(ziT zam (((vE.o.kept (zav _ _ _ _) tT Mcw).kept (zav _ _ _ _) (Joins.block_setCell (i:=0) tT _) Mcw).keep (zao _ z5))).1,zb5 (zdy tT),zbg (zaM (zaM bS.o (Nat.le_refl _) _) (Nat.le_refl _) _) z5⟩
      ·have w2:sp.toList=[]:=by simpa using(show sp.toList.isEmpty=true from hn)
       have y2:sp.toList.isEmpty=true:=hn;have y3:(!sp.toList.isEmpty)=false:=by rw[y2];rfl
       rw[y3];have aa:=dN.o;have cu:=EK.o;rw[hn]at aa cu;simp only[if_true]at aa cu;have B8:Hid (q-own=q/\out2=ys):=zHi ⟨by rw[aa];grind,cu⟩;clear hn aa cu;go_wp2_with fail
       go_meet
       exact⟨YA,yc,by rw[B8.o.2],by rw[B8.o.2];exact F2.o,by rw[B8.o.1];exact EN.o,bW.o⟩
     case rest=>
      obtain⟨ZA,zc,rfl,CM,hQ,hB⟩:=hcut;clear d0 d1 d2 d3 d4 d5 d6 e0 e1 e2 e3 q0 q1;obtain⟨kk1,kk2,kk3,kk4,kk5,kk6⟩:=Bi.o;have Lg:=zab hQ;have bl:=aD.o.trans (hB.mono Mcu);obtain⟨C3,qo⟩:=yH2 CM bl;have LD:w.heap.size<wc.heap.size:=Mcu;have LE:LB<wc.heap.size:=Mcu;obtain⟨⟨d0,d1,d2,d3,d4,d5,d6⟩,e0,e1,e2,e3⟩:=aw.o wc hB;obtain⟨q0,q1⟩:=zby hQ;have IJ:=zHi kk6;by_cases hz:q-own=0
      ·have nh:¬(0:Int)<(q-own).num:=by rw[hz];decide
       have cn:Hid (R=some out2):=by show _=_;rw[iX.o,if_pos MdB]
       have cU:=zHi (fun W (hW:Below wc.heap.size wc W)=>zdN out2 ZA zc W Mcu (C3.o.keep hW));rw[kk1.small]at cU;clear hz kk1 kk2 kk3 kk4 kk5 kk6 hB hQ CM bl;go_wp2_with (go_at_call 160;go_must(refine(cU.o _ Bw).mono ?_);rintro e wq ⟨rfl,rfl⟩)
       go_ret2
       exact⟨ZA,zc,out2,false,rfl,C3.o,qo.o,by have:=IJ.o;omega,.inl ⟨cn.o,rfl⟩⟩
      ·have Hn:0<q-own:=McX;have nh:(0:Int)<(q-own).num:=zk8.1 Hn;have DU:R=zeP (q-own) T out2:=by rw[iX.o,if_neg MdB]
       have bZ:=zHi (fun W (hW:Below wc.heap.size wc W)=>qV.o (q-own) ZA zc out2 W (bl.trans (hW.mono bl.size)) (C3.o.keep hW) kk1 kk2 kk4 McX vr.o.1)
       have zH:Hid (∀xs,R=some xs->zaF xs=false):=zHi (fun xs hx=>by
        rw[DU]at hx;unfold zeP at hx;split at hx
        ·cases hx
        ·exact(ze8 (Rat.mul_nonneg kk2 (zhO (by rw[lP.o];exact vr.o.1)).2.2.1) kk1.good kk1.small hx).2)
       rw[<-DU]at bZ;clear hz Hn DU kk1 kk2 kk3 kk4 kk5 kk6 hB hQ CM bl;go_upto_region 28 with(go_at_call 186;go_must(refine(bZ.o _ Bw).mono ?_);rintro e w8 ⟨XA,xc,xs,rfl,x1,x2,x3,x4⟩)
       obtain⟨cU,F0,av,eQ,jZ⟩:=yH5 (fun W (hW:Below w8.heap.size w8 W)=>zdN xs XA xc W Mcu (x1.keep hW)) x1 (qo.o.trans (x2.mono qo.o.size)) x3 x4;clear x1 x2 x3 x4 d0 d1 d2 d3 d4 d5 d6 e0 e1 e2 e3 q0 q1;cases hlg:zaF xs
       ·rw[hlg]at cU;go_wp2_with (go_at_call 160;go_must(refine(cU.o _ (Below.refl _ _)).mono ?_);rintro e wq ⟨rfl,rfl⟩)
        go_ret2
        rcases jZ.o with h|⟨h1,h2⟩
        ·exact⟨XA,xc,xs,false,rfl,F0.o,av.o,eQ.o,.inl ⟨h,rfl⟩⟩
        ·rw[hlg]at h2;cases h2
       ·rw[hlg]at cU;go_wp2_with (go_at_call 160;go_must(refine(cU.o _ (Below.refl _ _)).mono ?_);rintro e wq ⟨rfl,rfl⟩)
        go_ret2
        rcases jZ.o with h|⟨h1,h2⟩
        ·have:=zH.o xs h;rw[hlg]at this;cases this
        ·exact⟨XA,xc,xs,true,rfl,F0.o,av.o,eQ.o,.inr ⟨h1,rfl⟩⟩
theorem slw_list{α β:Type}{W:World}{size:Nat}{R:World->α->List Value->Prop}{f:β->List Value}{pr:β->α}{G:β->Prop}(hR:∀x cs,R W x cs->∃y,pr y=x/\G y/\f y=cs){A:Option Addr}{xs:List α}(h:SlW W size R A xs):
 ∃ys:List β,ys.map pr=xs/\(∀y∈ys,G y)/\Sl W size f A ys:=by
 by_cases h0:xs=[]
 ·subst h0;exact⟨[],rfl,by simp,fun h=>absurd h Mcx⟩
 ·have hl:0<xs.length:=List.length_pos_iff.2 h0;obtain⟨b,off,hA,hb,hc⟩:=h hl;have aU:∀n,n<=xs.length->∃ys:List β,ys.map pr=xs.take n/\(∀y∈ys,G y)/\∀k y,ys[k]?=some y->∀j u,(f y)[j]?=some u->W.cell? ⟨b,off+k*size+j,none⟩=some u:=by
   intro n;induction n with
   |zero=>intro _;exact⟨[],by simp,by simp,by simp⟩
   |succ n ih=>
    intro hn;obtain⟨ys,h1,h2,h3⟩:=ih Mcu;obtain⟨cs,hr,ah⟩:=hc n _ (List.getElem?_eq_getElem (show n<xs.length by omega));obtain⟨y,e1,e2,e3⟩:=hR _ _ hr;have ag:ys.length=n:=by
     have:=congrArg List.length h1;simp at this;omega
    refine⟨ys++[y],?_,?_,?_⟩
    ·rw[List.map_append,h1,List.take_add_one,List.getElem?_eq_getElem (show n<xs.length by omega)];simp[e1]
    ·intro z hz;rcases List.mem_append.1 hz with hz|hz
     ·exact h2 z hz
     ·rw[List.mem_singleton.1 hz];exact e2
    ·intro k z hk;by_cases jq:k<n
     ·rw[List.getElem?_append_left Mcu]at hk;exact h3 k z hk
     ·have fX:k=n:=by
       exact MbT
      subst fX;rw[List.getElem?_append_right Mcu,ag]at hk;simp at hk;subst hk;intro j u hu;exact ah j u (by rw[<-e3];exact hu)
  obtain⟨ys,h1,h2,h3⟩:=aU xs.length (Nat.le_refl _);rw[List.take_length]at h1;exact⟨ys,h1,h2,fun _=>⟨b,off,hA,hb,h3⟩⟩
theorem slw_back{α β:Type}{W:World}{size:Nat}{R:World->α->List Value->Prop}{f:β->List Value}{pr:β->α}{G:β->Prop}(hG:∀y,G y->R W (pr y) (f y)){A:Option Addr}{xs:List α}{ys:List β}(h:Sl W size f A ys)(hm:ys.map pr=xs)(hg:∀y∈ys,G y):SlW W size R A xs:=fun hl=>by
 subst hm;obtain⟨b,off,hA,hb,hc⟩:=h (by simpa using hl);refine⟨b,off,hA,hb,fun k x hk=>?_⟩;rw[List.getElem?_map]at hk;obtain⟨y,hy,rfl⟩:=Option.map_eq_some_iff.1 hk;exact⟨f y,hG y (hg y (List.mem_of_getElem? hy)),fun j u hu=>hc k y hy j u hu⟩
structure GX where
 g:Grave
 H:Option Addr
 hc:Nat
 D:Option Addr
 dc:Nat
def GX.cells(x:GX):List Value:=[.string x.g.place,.int .i64 x.g.cls,.int .i64 x.g.fin,.slice x.H x.g.holders.length x.hc,.slice x.D x.g.died.length x.dc]
theorem zda(x:GX):x.cells.length=5:=rfl
theorem zkd(x:GX):∀u∈x.cells,u.oneCell'=true:=by simp[GX.cells,Value.oneCell']
def GX.ok(W:World)(x:GX):Prop:=Sl W 3 zaa x.H x.g.holders/\Sl W 1 sC x.D x.g.died
theorem GX.ok.keep{W W':World}{x:GX}{n:Nat}(h:x.ok W)(hB:Below n W W')(hn:W.heap.size<=n:=by first|exact Nat.le_refl _|omega):x.ok W':=⟨h.1.keep hB hn,h.2.keep hB hn⟩
theorem znz{W:World}{A:Option Addr}{gs:List Grave}(h:SlW W 5 zhZ A gs):∃xs:List GX,xs.map (·.g)=gs/\(∀x∈xs,x.ok W)/\Sl W 5 GX.cells A xs:=
 slw_list (fun x cs hr=>by
  obtain⟨H,hc,D,dc,rfl,h1,h2⟩:=hr
  exact⟨⟨x,H,hc,D,dc⟩,rfl,⟨h1,h2⟩,rfl⟩) h
theorem slw_gx{W:World}{A:Option Addr}{gs:List Grave}{xs:List GX}(h:Sl W 5 GX.cells A xs)(hm:xs.map (·.g)=gs)(hg:∀x∈xs,x.ok W):SlW W 5 zhZ A gs:=
 slw_back (fun y hy=>⟨y.H,y.hc,y.D,y.dc,rfl,hy.1,hy.2⟩) h hm hg
theorem zhn:ElTy Tryz.prog 42 94 5 80:=zdA (z:=.agg #[.string ⟨#[]⟩,.int .i64 0,.int .i64 0,.slice none 0 0,.slice none 0 0]) Mcv Mcv rfl Mcw
structure RowC (W:World) (e:TypeId) (g o size:Nat) (css:List (List Value)):Prop where
 len:∀c∈css,c.length=size
 row:∃cur,W.heap[g]?=some (.cells cur e (0,0))/\o+css.length*size<=cur.size/\∀k c,css[k]?=some c->∀j u,c[j]?=some u->cur[o+k*size+j]?=some u
section
variable {W W':World} {e:TypeId} {g o size:Nat} {css:List (List Value)}
theorem RowC.at(h:RowC W e g o size css){k:Nat}{c:List Value}(hk:css[k]?=some c){j:Nat}{u:Value}(hj:c[j]?=some u):W.cell? ⟨g,o+k*size+j,none⟩=some u:=by
 obtain⟨cur,h1,_,h3⟩:=h.row;simp only[World.cell?,h1];exact h3 k c hk j u hj
theorem RowC.lt(h:RowC W e g o size css):g<W.heap.size:=by
 obtain⟨cur,h1,_⟩:=h.row;exact zab h1
theorem RowC.frz(h:RowC W e g o size css):∀j,W.frozen? ⟨g,j,none⟩=false:=by
 obtain⟨cur,h1,_⟩:=h.row;exact Go.Proofs.YtcfheecahnnhjaaGreatDoor.frz h1
theorem RowC.block(h:RowC W e g o size css)(hb:W'.heap[g]?=W.heap[g]?):RowC W' e g o size css:=by
 obtain⟨cur,h1,h2⟩:=h.row;exact⟨h.len,cur,hb.trans h1,h2⟩
theorem RowC.keep{n:Nat}(h:RowC W e g o size css)(hB:Below n W W')(hn:W.heap.size<=n:=by first|exact Nat.le_refl _|omega):RowC W' e g o size css:=h.block (hB.block g (Nat.lt_of_lt_of_le h.lt hn))
theorem RowC.sl{α:Type}{f:α->List Value}{xs:List α}(h:RowC W e g o size css)(hc:css=xs.map f):Sl W size f (some ⟨g,o,none⟩) xs:=fun _=>
 ⟨g,o,rfl,h.lt,fun k x hk j u hu=>h.at (k:=k) (by rw[hc,List.getElem?_map,hk];rfl) hu⟩
theorem OwnS.row{α:Type}{base n cap:Nat}{f:α->List Value}{xs:List α}(ag:∀x,(f x).length=size)(h:OwnS W base e size f (.slice (some ⟨g,o,none⟩) n cap) xs):RowC W e g o size (xs.map f):=by
 rcases h with⟨h,_⟩|⟨g',o',c',cur,h,hb,hg,hc,hm,hs,hx⟩
 ·cases h
 ·simp only[Value.slice.injEq,Option.some.injEq,Addr.mk.injEq,and_true]at h;obtain⟨⟨rfl,rfl⟩,rfl,rfl⟩:=h;refine⟨fun c hc=>?_,cur,hg,?_,fun k c hk j u hu=>?_⟩
  ·obtain⟨x,_,rfl⟩:=List.mem_map.1 hc;exact ag x
  ·rw[List.length_map];exact Nat.le_trans (Nat.add_le_add_left (Nat.mul_le_mul_right _ hc) _) hs
  ·rw[List.getElem?_map]at hk;obtain⟨x,eJ,rfl⟩:=Option.map_eq_some_iff.1 hk;have:=hx (k*size+j) u (zeX f size ag xs k x eJ j u hu);rw[Nat.add_assoc];exact this
theorem RowC.set(h:RowC W e g o size css){i j:Nat}{c:List Value}{u:Value}(hi:css[i]?=some c)(hj:j<size):RowC (W.setCell ⟨g,o+i*size+j,none⟩ u) e g o size (css.set i (c.set j u)):=by
 obtain⟨cur,h1,h2,h3⟩:=h.row;have bi:=h.len c (List.mem_of_getElem? hi);have eF:i<css.length:=(List.getElem?_eq_some_iff.1 hi).1;have aJ:o+i*size+j<cur.size:=by
  have:(i+1)*size<=css.length*size:=Nat.mul_le_mul_right _ eF;rw[Nat.add_mul]at this;omega
 have hb:=Joins.block_setCell (i:=o+i*size+j) h1 u;refine⟨fun d hd=>?_,_,hb,?_,fun k d hk m v hm=>?_⟩
 ·rcases List.mem_or_eq_of_mem_set hd with hd|rfl
  ·exact h.len d hd
  ·rw[List.length_set];exact bi
 ·rw[List.length_set];simpa using h2
 ·rw[List.getElem?_set]at hk;by_cases ar:i=k
  ·subst ar;rw[if_pos rfl,if_pos eF]at hk;simp only[Option.some.injEq]at hk;subst hk;rw[List.getElem?_set]at hm;by_cases hjm:j=m
   ·subst hjm;rw[if_pos rfl,if_pos Mcu]at hm;simp only[Option.some.injEq]at hm;subst hm;simp[aJ]
   ·rw[if_neg hjm]at hm;have:=h3 i c hi m v hm;rw[Array.getElem?_setIfInBounds_ne Mcu];exact this
  ·rw[if_neg ar]at hk;have fJ:m<size:=by
    have:=(List.getElem?_eq_some_iff.1 hm).1;rw[h.len d (List.mem_of_getElem? hk)]at this;exact this
   have ai:o+i*size+j≠o+k*size+m:=by
    intro he;have sm:i*size+j=k*size+m:=Mcu;rcases Nat.lt_or_gt_of_ne ar with ae|ae
    ·have:(i+1)*size<=k*size:=Nat.mul_le_mul_right _ ae;rw[Nat.add_mul]at this;omega
    ·have:(k+1)*size<=i*size:=Nat.mul_le_mul_right _ ae;rw[Nat.add_mul]at this;omega
   rw[Array.getElem?_setIfInBounds_ne ai];exact h3 k d hk m v hm
end
def StAt(w:World)(laws:List Law)(s:St)(a0 a1 a2 a3 a4 a5 a6:Value):Prop:=
 ∃(wd rd:List Deed) (LA CA MA DA WA RA GA:Option Addr) (c0 c1 c2 c3 c4 c5 c6:Nat),a0=.slice LA laws.length c0/\a1=.slice CA s.children.length c1/\a2=.slice MA s.marriages.length c2/\a3=.slice DA s.dead.length c3/\a4=.slice WA wd.length c4/\a5=.slice RA rd.length c5/\a6=.slice GA s.graves.length c6/\
  StIn w laws s wd rd LA CA MA DA WA RA GA c0 c1 c2 c3 c4 c5 c6/\StLink s wd rd
def zcH:Value->Bool
 | .slice ..=>true
 |_=>false
theorem zeQ{a:Value}(h:zcH a=true):∃A n c,a=.slice A n c:=by
 cases a<;>first|exact⟨_,_,_,rfl⟩|cases h
theorem zct{a0 a1 a2 a3 a4 a5 a6:Value}(h:([a0,a1,a2,a3,a4,a5,a6].all zcH)=true):(∃A n c,a0=.slice A n c)/\(∃A n c,a1=.slice A n c)/\(∃A n c,a2=.slice A n c)/\(∃A n c,a3=.slice A n c)/\(∃A n c,a4=.slice A n c)/\(∃A n c,a5=.slice A n c)/\(∃A n c,a6=.slice A n c):=by
 simp only[List.all_cons,Bool.and_eq_true]at h;obtain⟨h0,h1,h2,h3,h4,h5,h6,_⟩:=h;exact⟨zeQ h0,zeQ h1,zeQ h2,zeQ h3,zeQ h4,zeQ h5,zeQ h6⟩
def zfJ(w:World)(laws:List Law)(R:St×Int)(e:Ending)(w':World):Prop:=
 ∃a0 a1 a2 a3 a4 a5 a6,e=.returned (.tuple #[.agg #[a0,a1,a2,a3,a4,a5,a6],.int .i64 R.2])/\([a0,a1,a2,a3,a4,a5,a6].all zcH)=true/\Below w.heap.size w w'/\(R.2=0->StAt w' laws R.1 a0 a1 a2 a3 a4 a5 a6)
theorem zpv{fn:Func}{p q:Tmp}{a:TypeId}(h:fn.results= #[.cell p a,.tmp q])(tmps:Array Value)(P:Program)(w:World):
 (results fn tmps).run P w=((asAddr (tmps.getD p undef)).run P w).andThen fun x w₁=>((loadVar a x).run P w₁).andThen fun v w₂=> .ok (.tuple #[v,tmps.getD q undef]) w₂:=by
 simp only[results,h];simp[Sem.run_bind,Result.andThen]
section
variable {w:World} {B:Nat} {x0 x1 x2 x3 x4 x5 x6 y:Value}
theorem zbG{fn:Func}{p q:Tmp}(h:fn.results= #[.cell p 44,.tmp q])(tmps:Array Value)(hp:tmps.getD p undef=.pointer (some ⟨B,0,none⟩))(hq:tmps.getD q undef=y)
 (hx:w.heap[B]?=some (.cells #[x0,x1,x2,x3,x4,x5,x6] 44)):(results fn tmps).run Tryz.prog w=.ok (.tuple #[.agg #[x0,x1,x2,x3,x4,x5,x6],y]) w:=by
 obtain⟨h0,h1,h2,h3,h4,h5,h6⟩:=zaH hx;clear hx;rw[zpv h,hp,hq];go_simp
theorem zke{fn:Func}{p:Tmp}(h:fn.results= #[.cell p 44])(tmps:Array Value)(hp:tmps.getD p undef=.pointer (some ⟨B,0,none⟩))
 (hx:w.heap[B]?=some (.cells #[x0,x1,x2,x3,x4,x5,x6] 44)):(results fn tmps).run Tryz.prog w=.ok (.agg #[x0,x1,x2,x3,x4,x5,x6]) w:=by
 obtain⟨h0,h1,h2,h3,h4,h5,h6⟩:=zaH hx;exact Ma5
end
theorem RowC.ne{W:World}{e:TypeId}{g o size b j:Nat}{u:Value}{css:List (List Value)}(h:RowC W e g o size css)(ai:g≠b):RowC (W.setCell ⟨b,j,none⟩ u) e g o size css:=by
 obtain⟨cur,h1,h2⟩:=h.row;exact⟨h.len,cur,J_ne ai h1,h2⟩
theorem zcD{n b:Nat}{w W:World}{a0 a1 a2 a3 a4 a5 a6:Value}(h:Below n w W)(hb:n<=b):Below n w (((((((W.setCell ⟨b,0,none⟩ a0).setCell ⟨b,1,none⟩ a1).setCell ⟨b,2,none⟩ a2).setCell ⟨b,3,none⟩ a3).setCell ⟨b,4,none⟩ a4).setCell ⟨b,5,none⟩ a5).setCell ⟨b,6,none⟩ a6):=
 zaM (zaM (zaM (zaM (zaM (zaM (zaM h hb _) hb _) hb _) hb _) hb _) hb _) hb _
theorem RowC.ne7{W:World}{e:TypeId}{g o size b:Nat}{a0 a1 a2 a3 a4 a5 a6:Value}{css:List (List Value)}(h:RowC W e g o size css)(ai:g≠b):RowC (((((((W.setCell ⟨b,0,none⟩ a0).setCell ⟨b,1,none⟩ a1).setCell ⟨b,2,none⟩ a2).setCell ⟨b,3,none⟩ a3).setCell ⟨b,4,none⟩ a4).setCell ⟨b,5,none⟩ a5).setCell ⟨b,6,none⟩ a6) e g o size css:=
 ((((((h.ne ai).ne ai).ne ai).ne ai).ne ai).ne ai).ne ai
theorem zkf(W:World)(base:Nat)(h:base<=W.heap.size):OwnS (W.alloc (.cells #[] 94)) base 94 5 GX.cells (.slice (some ⟨W.heap.size,0,none⟩) 0 0) []:=
 OwnS.of_own zda (World.ownsRow_made W #[] 0 h (Nat.zero_le _) Mcx)
def zgI(w:World)(laws:List Law)(s:St)(wd rd:List Deed)(LA CA MA DA WA RA GA:Option Addr)(c0 c1 c2 c3 c4 c5 c6:Nat)(gxs:List GX)(i:Nat)(x:GX)(e:Ending)(w':World):Prop:=
 ∃(ga go c:Nat),e=.returned (.agg #[.slice LA laws.length c0,.slice CA s.children.length c1,.slice MA s.marriages.length c2,.slice DA s.dead.length c3,.slice WA wd.length c4,.slice RA rd.length c5,.slice (some ⟨ga,go,none⟩) s.graves.length c])/\RowC w' 94 ga go 5 ((gxs.set i x).map GX.cells)/\Below w.heap.size w w'
theorem zjh(laws:List Law)(s:St)(wd rd:List Deed)(LA CA MA DA WA RA GA:Option Addr)(c0 c1 c2 c3 c4 c5 c6:Nat)(xs:List GX)(i:Nat)(x:GX)(w:World)(hm:xs.map (·.g)=s.graves)(bn:Sl w 5 GX.cells GA xs)(hf:StFew s wd rd)(hi:i<s.graves.length):
 Calls Tryz.prog 161 #[.agg #[.slice LA laws.length c0,.slice CA s.children.length c1,.slice MA s.marriages.length c2,.slice DA s.dead.length c3,.slice WA wd.length c4,.slice RA rd.length c5,.slice GA s.graves.length c6],.int .i64 i,.agg x.cells.toArray] w (zgI w laws s wd rd LA CA MA DA WA RA GA c0 c1 c2 c3 c4 c5 c6 xs i x):=by
 have bR:xs.length=s.graves.length:=Md8;have Kv:=hf.graves;have bL:=zHi bn;unfold zgI GX.cells;rw[<-bR]at hi Kv⊢;have fP:=zHi bR;clear hm bn hf bR;go_enter Tryz.func161,Tryz.ntmps161
 go_upto_region 1 with fail
 obtain⟨W0,ak⟩:∃W0,W0=((w.alloc (.cells #[.slice LA laws.length c0,.slice CA s.children.length c1,.slice MA s.marriages.length c2,.slice DA s.dead.length c3,.slice WA wd.length c4,.slice RA rd.length c5,.slice GA xs.length c6] 44)).alloc (.cells #[.string x.g.place,.int .i64 x.g.cls,.int .i64 x.g.fin,.slice x.H x.g.holders.length x.hc,.slice x.D x.g.died.length x.dc] 94)).alloc (.cells #[.slice none 0 0,.slice none 0 0,.slice none 0 0,.slice none 0 0,.slice none 0 0,.slice none 0 0,.slice none 0 0] 44):=⟨_,rfl⟩
 have g0:W0.heap[w.heap.size]?=some (.cells #[.slice LA laws.length c0,.slice CA s.children.length c1,.slice MA s.marriages.length c2,.slice DA s.dead.length c3,.slice WA wd.length c4,.slice RA rd.length c5,.slice GA xs.length c6] 44):=Mdv;have g1:W0.heap[w.heap.size+1]?=some (.cells #[.string x.g.place,.int .i64 x.g.cls,.int .i64 x.g.fin,.slice x.H x.g.holders.length x.hc,.slice x.D x.g.died.length x.dc] 94):=by rw[ak];exact zal (zaq _ _ _ Mcx)
 have g2:W0.heap[w.heap.size+2]?=some (.cells #[.slice none 0 0,.slice none 0 0,.slice none 0 0,.slice none 0 0,.slice none 0 0,.slice none 0 0,.slice none 0 0] 44):=by rw[ak];exact zaq _ _ _ Mcx
 have aE:Below w.heap.size w W0:=Mc5;rw[<-ak];clear ak;obtain⟨s0,s1,s2,s3,s4,s5,s6⟩:=zaH g0;have l2:=zab g2;have l0:w.heap.size<W0.heap.size:=Mcu;have aj:=zHi aE;have m8:=aE.size;clear aE
 go_upto_region 2 with(at_builtin
                       go_loud(refine zat (v:=.slice (some ⟨W0.heap.size,0,none⟩) 0 0) (n:=0) (m:=xs.length) rfl _ _ rfl zhn zda zkd rfl (xs:=[]) (ys:=xs) (zkf W0 W0.heap.size (Nat.le_refl _)) rfl rfl rfl (bL.o.keep (aj.o.trans (Below.mono (B:=W0.heap.size) Bw m8))) Mc3 Mcu Mcx ?_)
                       intro v2 w2 h1 h2 h3;rw[List.nil_append]at h1;have e0:w2.heap[w.heap.size]?=_:=(h2.block w.heap.size Mcz MdF).trans (zal g0);have e1:w2.heap[w.heap.size+1]?=_:=(h2.block (w.heap.size+1) Mcz MdF).trans (zal g1);have e2:w2.heap[w.heap.size+2]?=_:=(h2.block (w.heap.size+2) Mcz MdF).trans (zal g2);have bs:Below W0.heap.size W0 w2:=Below.grown (zac (Below.refl _ _) _) h2 Mcx Mc8;have eV:=h1.ge;obtain⟨V2,c2',rfl,_,_⟩:=h1.sl zda;obtain⟨ga,go,rfl⟩:∃ga go,V2=some ⟨ga,go,none⟩:=by
                        rcases h1 with⟨he,h0⟩|⟨g',o',_,_,he,_⟩
                        ·rw[h0]at hi;exact absurd hi Mcx
                        ·simp only[Value.slice.injEq]at he;exact⟨g',o',he.1⟩
                       have Az:=(eV ga rfl).1;have bj:=OwnS.row zda h1;have f6:=frz e0 6;obtain⟨y0,y1,y2,y3,y4,y5,y6⟩:=zaH e0
                       clear h1 h2 h3 eV)
 obtain⟨W3,be⟩:∃W3,W3=w2.setCell ⟨w.heap.size,6,none⟩ (.slice (some ⟨ga,go,none⟩) xs.length c2'):=⟨_,rfl⟩
 have b0:W3.heap[w.heap.size]?=some (.cells #[.slice LA laws.length c0,.slice CA s.children.length c1,.slice MA s.marriages.length c2,.slice DA s.dead.length c3,.slice WA wd.length c4,.slice RA rd.length c5,.slice (some ⟨ga,go,none⟩) xs.length c2'] 44):=by
  rw[be];have:=Joins.block_setCell (i:=6) e0 (.slice (some ⟨ga,go,none⟩) xs.length c2');simpa using this
 have b1:W3.heap[w.heap.size+1]?=some (.cells #[.string x.g.place,.int .i64 x.g.cls,.int .i64 x.g.fin,.slice x.H x.g.holders.length x.hc,.slice x.D x.g.died.length x.dc] 94):=by rw[be];exact J_ne Mcu e1
 have b2:W3.heap[w.heap.size+2]?=some (.cells #[.slice none 0 0,.slice none 0 0,.slice none 0 0,.slice none 0 0,.slice none 0 0,.slice none 0 0,.slice none 0 0] 44):=by rw[be];exact J_ne Mcu e2
 have r3:RowC W3 94 ga go 5 (xs.map GX.cells):=by rw[be];exact bj.ne Mcu
 have cV:Below w.heap.size w W3:=by rw[be];exact zaM (aj.o.trans (bs.mono m8)) Mcx _
 rw[<-be];clear be bj e0 e1 e2 bs f6 y0 y1 y2 y3 y4 y5 y6 s0 s1 s2 s3 s4 s5 s6 g0 g1 g2;obtain⟨s0,s1,s2,s3,s4,s5,s6⟩:=zaH b0;obtain⟨v0,v1,v2,v3,v4⟩:=zei b1;have aG:(xs.map GX.cells)[i]?=some (xs[i]).cells:=by rw[List.getElem?_map,List.getElem?_eq_getElem hi];rfl
 have gX:∀j u,(xs[i]).cells[j]?=some u->W3.cell? ⟨ga,go+i*5+j,none⟩=some u:=fun j u hu=>r3.at aG hu
 have rf:=r3.frz;have q0:=gX 0 _ rfl;have q1:=gX 1 _ rfl;have q2:=gX 2 _ rfl;have q3:=gX 3 _ rfl;have q4:=gX 4 _ rfl;simp only[Nat.add_zero]at q0;have t0:RowC (W3.setCell ⟨ga,go+i*5,none⟩ (.string x.g.place)) 94 ga go 5 _:=r3.set (j:=0) (u:=.string x.g.place) aG Mcw;have sH:i<(xs.map GX.cells).length:=by rw[List.length_map];exact hi
 have t1:=t0.set (i:=i) (j:=1) (u:=.int .i64 x.g.cls) (c:=(xs[i]).cells.set 0 (.string x.g.place)) (by rw[List.getElem?_set_self sH]) Mcw;have t2:=t1.set (i:=i) (j:=2) (u:=.int .i64 x.g.fin) (c:=((xs[i]).cells.set 0 (.string x.g.place)).set 1 (.int .i64 x.g.cls)) (by rw[List.getElem?_set_self (by rw[List.length_set];exact sH)]) Mcw;have t3:=t2.set (i:=i) (j:=3) (u:=.slice x.H x.g.holders.length x.hc) (c:=(((xs[i]).cells.set 0 (.string x.g.place)).set 1 (.int .i64 x.g.cls)).set 2 (.int .i64 x.g.fin)) (by rw[List.getElem?_set_self (by rw[List.length_set,List.length_set];exact sH)]) Mcw;have t4:=t3.set (i:=i) (j:=4) (u:=.slice x.D x.g.died.length x.dc) (c:=((((xs[i]).cells.set 0 (.string x.g.place)).set 1 (.int .i64 x.g.cls)).set 2 (.int .i64 x.g.fin)).set 3 (.slice x.H x.g.holders.length x.hc)) (by rw[List.getElem?_set_self (by rw[List.length_set,List.length_set,List.length_set];exact sH)]) Mcw;have xH:(i:Int)<(xs.length:Int):=Mcu;have eX:(0:Int)<=(i:Int):=Mcu;obtain⟨T4,R3,aH,B0,B2⟩:=yH5 t4 r3 cV b0 b2;have aL:w.heap.size≠ga:=Mcu;have sA:ga≠w.heap.size:=Mcu;have dB:ga≠w.heap.size+2:=Mcu;have mE:w.heap.size+2≠ga:=Mcu;clear t0 t1 t2 t3 t4 r3 cV b0 b1 b2 gX sH;go_upto_region 3 with fail
 obtain⟨W4,gF⟩:∃W4,W4=((((W3.setCell ⟨ga,go+i*5,none⟩ (.string x.g.place)).setCell ⟨ga,go+i*5+1,none⟩ (.int .i64 x.g.cls)).setCell ⟨ga,go+i*5+2,none⟩ (.int .i64 x.g.fin)).setCell ⟨ga,go+i*5+3,none⟩ (.slice x.H x.g.holders.length x.hc)).setCell ⟨ga,go+i*5+4,none⟩ (.slice x.D x.g.died.length x.dc):=⟨_,rfl⟩
 have t4:=T4.o;rw[<-gF]at t4⊢;have b0:W4.heap[w.heap.size]?=some (.cells #[.slice LA laws.length c0,.slice CA s.children.length c1,.slice MA s.marriages.length c2,.slice DA s.dead.length c3,.slice WA wd.length c4,.slice RA rd.length c5,.slice (some ⟨ga,go,none⟩) xs.length c2'] 44):=by rw[gF];exact J_ne aL (J_ne aL (J_ne aL (J_ne aL (J_ne aL B0.o))))
 have b2:W4.heap[w.heap.size+2]?=some (.cells #[.slice none 0 0,.slice none 0 0,.slice none 0 0,.slice none 0 0,.slice none 0 0,.slice none 0 0,.slice none 0 0] 44):=by rw[gF];exact J_ne mE (J_ne mE (J_ne mE (J_ne mE (J_ne mE B2.o))))
 have ka:Below w.heap.size w W4:=by rw[gF];exact zaM (zaM (zaM (zaM (zaM aH.o Mds _) Mds _) Mds _) Mds _) Mds _
 have bh:(xs.set i x).map GX.cells=(((((xs.map GX.cells).set i ((xs[i]).cells.set 0 (.string x.g.place))).set i (((xs[i]).cells.set 0 (.string x.g.place)).set 1 (.int .i64 x.g.cls))).set i ((((xs[i]).cells.set 0 (.string x.g.place)).set 1 (.int .i64 x.g.cls)).set 2 (.int .i64 x.g.fin))).set i (((((xs[i]).cells.set 0 (.string x.g.place)).set 1 (.int .i64 x.g.cls)).set 2 (.int .i64 x.g.fin)).set 3 (.slice x.H x.g.holders.length x.hc))).set i ((((((xs[i]).cells.set 0 (.string x.g.place)).set 1 (.int .i64 x.g.cls)).set 2 (.int .i64 x.g.fin)).set 3 (.slice x.H x.g.holders.length x.hc)).set 4 (.slice x.D x.g.died.length x.dc)):=by
  simp only[List.set_set,List.map_set];rfl
 rw[<-bh]at t4;obtain⟨T5,cm⟩:=yH2 t4 ka;clear t4 bh T4 R3 aH B0 B2 gF ka s0 s1 s2 s3 s4 s5 s6 v0 v1 v2 v3 v4 q0 q1 q2 q3 q4 rf aG;obtain⟨s0,s1,s2,s3,s4,s5,s6⟩:=zaH b0;obtain⟨r0,r1,r2,r3,r4,r5,r6⟩:=zaH b2;have rf:=frz b2;go_wp2_with fail
 refine bodyPost_ret (v:=.agg #[.slice LA laws.length c0,.slice CA s.children.length c1,.slice MA s.marriages.length c2,.slice DA s.dead.length c3,.slice WA wd.length c4,.slice RA rd.length c5,.slice (some ⟨ga,go,none⟩) xs.length c2']) ?_ rfl ?_
 ·exact zke rfl _ rfl (zc2 b2)
 ·have fk:=zcD (a0:=.slice LA laws.length c0) (a1:=.slice CA s.children.length c1) (a2:=.slice MA s.marriages.length c2) (a3:=.slice DA s.dead.length c3) (a4:=.slice WA wd.length c4) (a5:=.slice RA rd.length c5) (a6:=.slice (some ⟨ga,go,none⟩) xs.length c2') cm.o (show w.heap.size<=w.heap.size+2 by omega);exact⟨ga,go,c2',by first|rfl|rw[fP.o],T5.o.ne7 dB,fk⟩
theorem zmv{W:World}{e t:TypeId}{g o size b:Nat}{css:List (List Value)}{cs:Array Value}{fr:Nat×Nat}(h:RowC W e g o size css)(hb:W.heap[b]?=some (.cells cs t fr))(ai:t≠e):g≠b:=fun he=>by
 obtain⟨cur,h1,_⟩:=h.row;rw[he,hb]at h1;simp only[Option.some.injEq,Obj.cells.injEq]at h1;exact ai h1.2.1
theorem zn0(laws:List Law)(s:St)(wd rd:List Deed)(LA CA MA DA WA RA GA:Option Addr)(c0 c1 c2 c3 c4 c5 c6:Nat)(gxs:List GX)(i:Nat)(hm:gxs.map (·.g)=s.graves){w:World}(bv:∀x∈gxs,x.ok w)(y:GX)(W:World)(ga go c:Nat)(h:StIn w laws s wd rd LA CA MA DA WA RA GA c0 c1 c2 c3 c4 c5 c6)(hk:StLink s wd rd)(hB:Below w.heap.size w W)(hr:RowC W 94 ga go 5 ((gxs.set i y).map GX.cells))(hy:y.ok W):
 StAt W laws (s.withGrave i y.g) (.slice LA laws.length c0) (.slice CA s.children.length c1) (.slice MA s.marriages.length c2) (.slice DA s.dead.length c3) (.slice WA wd.length c4) (.slice RA rd.length c5) (.slice (some ⟨ga,go,none⟩) s.graves.length c):=by
 have h':=h.keep hB;refine⟨wd,rd,LA,CA,MA,DA,WA,RA,some ⟨ga,go,none⟩,c0,c1,c2,c3,c4,c5,c,rfl,rfl,rfl,rfl,rfl,rfl,?_,⟨h'.laws,h'.kids,h'.marr,h'.dead,h'.wills,h'.ren,?_,h'.deadc⟩,⟨hk.wills,hk.shares,hk.ren,hk.tos⟩⟩
 ·unfold St.withGrave;rw[List.length_set]
 ·refine slw_gx (hr.sl rfl) (by unfold St.withGrave;rw[List.map_set,hm]) fun x hx=>?_
  rcases List.mem_or_eq_of_mem_set hx with hx|rfl
  ·exact(bv x hx).keep hB
  ·exact hy
theorem ddF{W:World}{a b c:Nat}{x0 x1 x2 x3 x4 x5 x6 y0 y1 y2 y3 y4 y5 y6 z0 z1 z2 z3 z4 z5 z6:Value}{t t' u:TypeId}{f f':Nat×Nat}(h:W.heap[a]?=some (.cells #[x0,x1,x2,x3,x4,x5,x6] t f)/\W.heap[b]?=some (.cells #[y0,y1,y2,y3,y4,y5,y6] t' f')/\W.heap[c]?=some (.cells #[z0,z1,z2,z3,z4,z5,z6] u (0,0))):
 (W.heap[a]?=some (.cells #[x0,x1,x2,x3,x4,x5,x6] t f)/\W.heap[b]?=some (.cells #[y0,y1,y2,y3,y4,y5,y6] t' f')/\W.heap[c]?=some (.cells #[z0,z1,z2,z3,z4,z5,z6] u (0,0)))/\(W.cell? ⟨a,0,none⟩=some x0/\W.cell? ⟨a,1,none⟩=some x1/\W.cell? ⟨a,2,none⟩=some x2/\W.cell? ⟨a,3,none⟩=some x3/\W.cell? ⟨a,4,none⟩=some x4/\W.cell? ⟨a,5,none⟩=some x5/\W.cell? ⟨a,6,none⟩=some x6)/\(W.cell? ⟨b,0,none⟩=some y0/\W.cell? ⟨b,1,none⟩=some y1/\W.cell? ⟨b,2,none⟩=some y2/\W.cell? ⟨b,3,none⟩=some y3/\W.cell? ⟨b,4,none⟩=some y4/\W.cell? ⟨b,5,none⟩=some y5/\W.cell? ⟨b,6,none⟩=some y6)/\(W.cell? ⟨c,0,none⟩=some z0/\W.cell? ⟨c,1,none⟩=some z1/\W.cell? ⟨c,2,none⟩=some z2/\W.cell? ⟨c,3,none⟩=some z3/\W.cell? ⟨c,4,none⟩=some z4/\W.cell? ⟨c,5,none⟩=some z5/\W.cell? ⟨c,6,none⟩=some z6)/\(∀j,W.frozen? ⟨c,j,none⟩=false)/\a<W.heap.size/\b<W.heap.size/\c<W.heap.size:=
 ⟨h,zaH h.1,zaH h.2.1,zaH h.2.2,frz h.2.2,zab h.1,zab h.2.1,zab h.2.2⟩
theorem dd_boxes{w:World}(o0 o1 o2:Obj):Hid (Below w.heap.size w (((w.alloc o0).alloc o1).alloc o2))/\Hid (∀W,Below (((w.alloc o0).alloc o1).alloc o2).heap.size (((w.alloc o0).alloc o1).alloc o2) W->W.heap[w.heap.size]?=some o0/\W.heap[w.heap.size+1]?=some o1/\W.heap[w.heap.size+2]?=some o2):=by
 refine⟨by show Below _ _ _;exact Bw,fun W hB=>⟨?_,?_,?_⟩⟩
 ·exact(hB.block _ Mcz).trans (zal (zal (zaq _ _ _ rfl)))
 ·exact(hB.block _ Mcx).trans (zal (zaq _ _ _ Mcx))
 ·exact(hB.block _ Mcx).trans (zaq _ _ _ Mcx)
theorem zeR{w W0:World}{o0 o1 o2:Obj}(h:((w.alloc o0).alloc o1).alloc o2=W0):Hid (Below w.heap.size w W0)/\Hid (∀W,Below W0.heap.size W0 W->W.heap[w.heap.size]?=some o0/\W.heap[w.heap.size+1]?=some o1/\W.heap[w.heap.size+2]?=some o2):=by
 subst h;exact dd_boxes _ _ _
theorem zgJ{s:St}{pl:ByteArray}{day:Int}(h:zaL s pl day=none):zkK s.graves pl day= -1:=by rw[zoh,h]
theorem zeb{s:St}{pl:ByteArray}{day:Int}{i:Nat}(h:zaL s pl day=some i):zkK s.graves pl day=i:=by rw[zoh,h]
theorem gx_at{xs:List GX}{gs:List Grave}{i:Nat}{g:Grave}(hm:xs.map (·.g)=gs)(hg:gs[i]?=some g):∃(hi:i<xs.length),xs[i].g=g:=by
 rw[<-hm,List.getElem?_map]at hg;obtain⟨x,hx,rfl⟩:=Option.map_eq_some_iff.1 hg;obtain⟨hi,rfl⟩:=List.getElem?_eq_some_iff.1 hx;exact⟨hi,rfl⟩
theorem zpw(laws:List Law)(s:St)(wd rd:List Deed)(LA CA MA DA WA RA GA:Option Addr)(c0 c1 c2 c3 c4 c5 c6:Nat)(d:Deed)(B:Option Addr)(c:Nat)(w:World)(h:StIn w laws s wd rd LA CA MA DA WA RA GA c0 c1 c2 c3 c4 c5 c6)(hk:StLink s wd rd)(hf:StFew s wd rd)(hd:OkD d)(hS:Sl w 3 RPart.cells B d.to)(bN:∀g∈s.graves,g.fin<=200000):Calls Tryz.prog 131 #[.agg #[.slice LA laws.length c0,.slice CA s.children.length c1,.slice MA s.marriages.length c2,.slice DA s.dead.length c3,.slice WA wd.length c4,.slice RA rd.length c5,.slice GA s.graves.length c6],d.v B c] w (zfJ w laws (zdf s d)):=by
 obtain⟨R,hR⟩:∃R,R=zdf s d:=⟨_,rfl⟩
 rw[<-hR];obtain⟨gxs,hm,bv,bn⟩:=znz h.graves;obtain⟨HM,dr,bL,qz⟩:=yH4 hm bv bn bN;clear hm bv bn bN;obtain⟨H,HK,HF,HD,HS,HR⟩:=yH6 (fun W (hB:Below w.heap.size w W)=>h.keep hB) hk hf hd (fun W (hB:Below w.heap.size w W)=>hS.keep hB) hR;unfold Deed.v;clear h hk hf hd hS hR;go_enter Tryz.func131,Tryz.ntmps131
 go_upto_region 1 with fail
 generalize ak:World.alloc (World.alloc (World.alloc w _) _) _=W0;obtain⟨aj,aw⟩:=zeR ak;clear ak;have au:=aj.o.size;obtain⟨⟨xs0,xd0,xr0⟩,⟨s0,s1,s2,s3,s4,s5,s6⟩,⟨d0,d1,d2,d3,d4,d5,d6⟩,⟨r0,r1,r2,r3,r4,r5,r6⟩,rf,ls,ld,lr⟩:=ddF (aw.o W0 (Below.refl _ _));have ew:=zHi (fun W (hB:Below W0.heap.size W0 W)=>zkb d.place d.day W (H.o W (aj.o.trans (hB.mono au))) HF.o);have hr:=HR.o;unfold zdf at hr;cases aG:zaL s d.place d.day with
 |none=>
  exact Mcq
 |some i=>
  rw[aG]at hr;rw[zeb aG]at ew;obtain⟨g,bz,cj,uk⟩:=zh1 aG;simp only[cj]at hr;obtain⟨hi,jO⟩:=gx_at HM.o bz;have eF:i<s.graves.length:=MdU;have ib:=dr.o _ (List.getElem_mem hi);have rh:=zHi (fun(y:GX) W (hB:Below W0.heap.size W0 W)=>zjh laws s wd rd LA CA MA DA WA RA GA c0 c1 c2 c3 c4 c5 c6 gxs i y W HM.o (bL.o.keep (aj.o.trans (hB.mono au))) HF.o eF);obtain⟨jY,aK⟩:=yH2 (zn0 laws s wd rd LA CA MA DA WA RA GA c0 c1 c2 c3 c4 c5 c6 gxs i HM.o dr.o) (fun W (hB:Below W0.heap.size W0 W)=>H.o W (aj.o.trans (hB.mono au)));go_upto_region 2 with(go_at_call 35;go_must(refine(ew.o _ (Below.refl _ _)).mono ?_);rintro e wq ⟨rfl,z1,rfl⟩)
  obtain⟨W1,aV⟩:∃W1,W1=W0.ext z1:=⟨_,rfl⟩
  have aR:Below W0.heap.size W0 W1:=Mdp;rw[<-aV];clear aV;clear xs0 xd0 xr0 s0 s1 s2 s3 s4 s5 s6 d0 d1 d2 d3 d4 d5 d6 r0 r1 r2 r3 r4 r5 r6 rf ls ld lr;obtain⟨⟨xs0,xd0,xr0⟩,⟨s0,s1,s2,s3,s4,s5,s6⟩,⟨d0,d1,d2,d3,d4,d5,d6⟩,⟨r0,r1,r2,r3,r4,r5,r6⟩,rf,ls,ld,lr⟩:=ddF (aw.o W1 (aR));have x9:=aR.size;have eT:=aj.o.trans (aR.mono au);obtain⟨gb,gof,j8,dj,ah⟩:=(bL.o.keep eT).at hi;generalize gxs[i]=x at*;subst jO;subst j8;have i0:=ah 0 _ rfl;have i1:=ah 1 _ rfl;have i2:=ah 2 _ rfl;have i3:=ah 3 _ rfl;have i4:=ah 4 _ rfl;simp only[Nat.add_zero]at i0;have xH:(i:Int)<(s.graves.length:Int):=Mcu;have eX:(0:Int)<=(i:Int):=Mcu;have aJ:¬(i:Int)<0:=Mcu;clear ah;go_upto_region 5 with fail
  obtain⟨W2,cI⟩:∃W2,W2=W1.alloc (.cells #[.string x.g.place,.int .i64 x.g.cls,.int .i64 x.g.fin,.slice x.H x.g.holders.length x.hc,.slice x.D x.g.died.length x.dc] 94):=⟨_,rfl⟩
  have gG:W2.heap[W1.heap.size]?=some (.cells #[.string x.g.place,.int .i64 x.g.cls,.int .i64 x.g.fin,.slice x.H x.g.holders.length x.hc,.slice x.D x.g.died.length x.dc] 94):=Meq;have aD:Hid (Below W0.heap.size W0 W2):=MdD;have kV:W1.heap.size<W2.heap.size:=zab gG;have uQ:=zHi eT;obtain⟨GB,j9⟩:∃GB,GB=W1.heap.size:=⟨_,rfl⟩
  rw[<-cI,<-j9];rw[<-j9]at gG kV;have iL:W0.heap.size<=GB:=Mcu;clear cI j9 aR eT i0 i1 i2 i3 i4;clear xs0 xd0 xr0 s0 s1 s2 s3 s4 s5 s6 d0 d1 d2 d3 d4 d5 d6 r0 r1 r2 r3 r4 r5 r6 rf ls ld lr;obtain⟨g0,g1,g2,g3,g4⟩:=zei gG;by_cases ui:x.g.fin<0
  ·have HE:Hid (R=(s,15)):=by show _=_;rw[hr,if_pos (by simpa using ui)]
   clear hr;go_upto_region 6 with fail
   obtain⟨⟨xs0,xd0,xr0⟩,⟨s0,s1,s2,s3,s4,s5,s6⟩,⟨d0,d1,d2,d3,d4,d5,d6⟩,⟨r0,r1,r2,r3,r4,r5,r6⟩,rf,ls,ld,lr⟩:=ddF (aw.o W2 (aD.o));have bk:=aD.o;exact Mg
  ·rw[if_neg (by simpa using ui)]at hr;have dQ:=qz.o x.g (List.mem_of_getElem? bz);have AP:=zHi (fun W=>zjZ x.g.fin d.years W Mcu dQ HD.o.years.1 HD.o.years.2);have g2f:=frz gG;obtain⟨⟨xs0,xd0,xr0⟩,⟨s0,s1,s2,s3,s4,s5,s6⟩,⟨d0,d1,d2,d3,d4,d5,d6⟩,⟨r0,r1,r2,r3,r4,r5,r6⟩,rf,ls,ld,lr⟩:=ddF (aw.o W2 (aD.o));have GG:=zHi gG;generalize zcj x.g.fin d.years=af at*;go_upto_region 8 with(go_at_call 155;go_must(refine(AP.o _).mono ?_);rintro e wq ⟨rfl,z2,rfl⟩)
   clear xs0 xd0 xr0 s0 s1 s2 s3 s4 s5 s6 d0 d1 d2 d3 d4 d5 d6 r0 r1 r2 r3 r4 r5 r6 rf ls ld lr;obtain⟨W3,be⟩:∃W3,W3=(W2.setCell ⟨GB,2,none⟩ (.int .i64 af)).ext z2:=⟨_,rfl⟩
   have gG3:W3.heap[GB]?=some (.cells #[.string x.g.place,.int .i64 x.g.cls,.int .i64 af,.slice x.H x.g.holders.length x.hc,.slice x.D x.g.died.length x.dc] 94):=by
    rw[be];exact Mbw
   have cV:Below W0.heap.size W0 W3:=by rw[be];exact zbg (zaM aD.o iL _) z2
   rw[<-be];clear be g0 g1 g2 g3 g4 g2f;obtain⟨g0,g1,g2,g3,g4⟩:=zei gG3;have wa:=cV.size;have cq:=zab gG3;obtain⟨⟨xs0,xd0,xr0⟩,⟨s0,s1,s2,s3,s4,s5,s6⟩,⟨d0,d1,d2,d3,d4,d5,d6⟩,⟨r0,r1,r2,r3,r4,r5,r6⟩,rf,ls,ld,lr⟩:=ddF (aw.o W3 (cV));by_cases oB:af<0
   ·have HE:Hid (R=(s,2)):=by show _=_;rw[hr,if_pos (by simpa using oB)]
    clear hr;go_upto_region 9 with fail
    have bk:=cV;exact Mg
   ·have HE:Hid (R=(s.withGrave i {x.g with fin:=af},0)):=by show _=_;rw[hr,if_neg (by simpa using oB)]
    have lZ:=zHi (rh.o {x with g:= {x.g with fin:=af}} W3 cV);unfold GX.cells zgI at lZ;dsimp only at lZ;have aH:=zHi cV;clear hr aG;go_upto_region 10 with fail
    go_wp2_with (go_at_call 161
                 go_must(refine(lZ.o).mono ?_)
                 rintro e w5 ⟨ga,go,gc,rfl,bj,aq⟩;have aS:=aH.o.trans (aq.mono wa);obtain⟨_,_,xr5⟩:=aw.o w5 aS;obtain⟨t0,t1,t2,t3,t4,t5,t6⟩:=zaH xr5;have tf:=frz xr5;obtain⟨bY,bW⟩:=yH2 bj aS
                 clear bj aq aS)
    rw[HE.o];refine bodyPost_ret (zbG rfl _ rfl rfl (zc2 xr5)) rfl ?_;have du:=zcD (a0:=.slice LA laws.length c0) (a1:=.slice CA s.children.length c1) (a2:=.slice MA s.marriages.length c2) (a3:=.slice DA s.dead.length c3) (a4:=.slice WA wd.length c4) (a5:=.slice RA rd.length c5) (a6:=.slice (some ⟨ga,go,none⟩) s.graves.length gc) (aj.o.trans (bW.o.mono au)) (show w.heap.size<=w.heap.size+2 by omega);exact⟨_,_,_,_,_,_,_,rfl,rfl,du,fun _=>jY.o {x with g:= {x.g with fin:=af}} _ ga go gc (H.o w (Below.refl _ _)) HK.o du (bY.o.ne7 (zmv bY.o xr5 Mcw)) (ib.keep du)⟩
theorem zpx(w:World)(g:Nat)(a b:Value):w.grownBy ((w.setCell ⟨g,0,none⟩ a).setCell ⟨g,1,none⟩ b) (some g):=zbq (zav w g 0 a) (zav _ g 1 b)
theorem zji{α:Type}{W:World}{e t:TypeId}{f:α->List Value}{A:Option Addr}{xs:List α}{b:Nat}{cs:Array Value}{fr:Nat×Nat}{a0 a1 a2 a3 a4 a5 a6:Value}(h:Ro W e f A xs)(hb:W.heap[b]?=some (.cells cs t fr))(ai:t≠e):
 Ro (((((((W.setCell ⟨b,0,none⟩ a0).setCell ⟨b,1,none⟩ a1).setCell ⟨b,2,none⟩ a2).setCell ⟨b,3,none⟩ a3).setCell ⟨b,4,none⟩ a4).setCell ⟨b,5,none⟩ a5).setCell ⟨b,6,none⟩ a6) e f A xs:=
 h.same fun k cur fr' hk _=>by
  have mH:k≠b:=fun he=>by
   rw[he,hb]at hk;simp only[Option.some.injEq,Obj.cells.injEq]at hk;exact ai hk.2.1
  rw[hk];exact J_ne mH (J_ne mH (J_ne mH (J_ne mH (J_ne mH (J_ne mH (J_ne mH hk))))))
def surM(l:Parts)(frm:ByteArray)(q:Rat):Parts:=(zau l frm).map fun p=>(p.1,p.2/q)
theorem surM_snoc{l:Parts}{n:ByteArray}{q:Rat}{k:Nat}(h:k<l.length):surM (l.take (k+1)) n q=surM (l.take k) n q++(if zae l[k].1 n then[]else[(l[k].1,l[k].2/q)]):=by
 unfold surM;rw[zhz h,List.map_append];cases zae l[k].1 n<;>rfl
theorem zoo(l:Parts)(n:ByteArray)(q:Rat):(surM l n q).length<=l.length:=by
 unfold surM;exact MbH
theorem zj1(laws:List Law)(s:St)(wd rd:List Deed)(LA CA MA DA WA RA GA:Option Addr)(c0 c1 c2 c3 c4 c5 c6:Nat)(d:Deed)(B:Option Addr)(c:Nat)(w:World)(h:StIn w laws s wd rd LA CA MA DA WA RA GA c0 c1 c2 c3 c4 c5 c6)(hk:StLink s wd rd)(hf:StFew s wd rd)(hd:OkD d)(hS:Sl w 3 RPart.cells B d.to)(aW:∀g∈s.graves,GoodG g/\g.holders.length<=50000):Calls Tryz.prog 130 #[.agg #[.slice LA laws.length c0,.slice CA s.children.length c1,.slice MA s.marriages.length c2,.slice DA s.dead.length c3,.slice WA wd.length c4,.slice RA rd.length c5,.slice GA s.graves.length c6],d.v B c] w (zfJ w laws (zba s d)):=by
 obtain⟨R,hR⟩:∃R,R=zba s d:=⟨_,rfl⟩
 rw[<-hR];obtain⟨gxs,hm,bv,bn⟩:=znz h.graves;obtain⟨HM,dr,bL,eh⟩:=yH4 hm bv bn aW;clear hm bv bn aW;obtain⟨H,HK,HF,HD,HS,HR⟩:=yH6 (fun W (hB:Below w.heap.size w W)=>h.keep hB) hk hf hd (fun W (hB:Below w.heap.size w W)=>hS.keep hB) hR;unfold Deed.v;clear h hk hf hd hS hR;go_enter Tryz.func130,Tryz.ntmps130
 go_upto_region 1 with fail
 generalize ak:World.alloc (World.alloc (World.alloc w _) _) _=W0;obtain⟨aj,aw⟩:=zeR ak;clear ak;have au:=aj.o.size;obtain⟨⟨xs0,xd0,xr0⟩,⟨s0,s1,s2,s3,s4,s5,s6⟩,⟨d0,d1,d2,d3,d4,d5,d6⟩,⟨r0,r1,r2,r3,r4,r5,r6⟩,rf,ls,ld,lr⟩:=ddF (aw.o W0 (Below.refl _ _));have ew:=zHi (fun W (hB:Below W0.heap.size W0 W)=>zkb d.place d.day W (H.o W (aj.o.trans (hB.mono au))) HF.o);have hr:=HR.o;unfold zba at hr;cases aG:zaL s d.place d.day with
 |none=>
  exact Mcq
 |some i=>
  rw[aG]at hr;rw[zeb aG]at ew;obtain⟨g,bz,cj,uk⟩:=zh1 aG;simp only[cj]at hr;obtain⟨hi,jO⟩:=gx_at HM.o bz;have eF:i<s.graves.length:=MdU;have ib:=dr.o _ (List.getElem_mem hi);have rh:=zHi (fun(y:GX) W (hB:Below W0.heap.size W0 W)=>zjh laws s wd rd LA CA MA DA WA RA GA c0 c1 c2 c3 c4 c5 c6 gxs i y W HM.o (bL.o.keep (aj.o.trans (hB.mono au))) HF.o eF);obtain⟨jY,aK⟩:=yH2 (zn0 laws s wd rd LA CA MA DA WA RA GA c0 c1 c2 c3 c4 c5 c6 gxs i HM.o dr.o) (fun W (hB:Below W0.heap.size W0 W)=>H.o W (aj.o.trans (hB.mono au)));go_upto_region 2 with(go_at_call 35;go_must(refine(ew.o _ (Below.refl _ _)).mono ?_);rintro e wq ⟨rfl,z1,rfl⟩)
  obtain⟨W1,aV⟩:∃W1,W1=W0.ext z1:=⟨_,rfl⟩
  have aR:Below W0.heap.size W0 W1:=Mdp;rw[<-aV];clear aV;clear xs0 xd0 xr0 s0 s1 s2 s3 s4 s5 s6 d0 d1 d2 d3 d4 d5 d6 r0 r1 r2 r3 r4 r5 r6 rf ls ld lr;obtain⟨⟨xs0,xd0,xr0⟩,⟨s0,s1,s2,s3,s4,s5,s6⟩,⟨d0,d1,d2,d3,d4,d5,d6⟩,⟨r0,r1,r2,r3,r4,r5,r6⟩,rf,ls,ld,lr⟩:=ddF (aw.o W1 (aR));have x9:=aR.size;have eT:=aj.o.trans (aR.mono au);obtain⟨gb,gof,j8,dj,ah⟩:=(bL.o.keep eT).at hi;generalize gxs[i]=x at*;subst jO;subst j8;have i0:=ah 0 _ rfl;have i1:=ah 1 _ rfl;have i2:=ah 2 _ rfl;have i3:=ah 3 _ rfl;have i4:=ah 4 _ rfl;simp only[Nat.add_zero]at i0;have xH:(i:Int)<(s.graves.length:Int):=Mcu;have eX:(0:Int)<=(i:Int):=Mcu;have aJ:¬(i:Int)<0:=Mcu;clear ah;go_upto_region 5 with fail
  obtain⟨W2,cI⟩:∃W2,W2=W1.alloc (.cells #[.string x.g.place,.int .i64 x.g.cls,.int .i64 x.g.fin,.slice x.H x.g.holders.length x.hc,.slice x.D x.g.died.length x.dc] 94):=⟨_,rfl⟩
  have gG:W2.heap[W1.heap.size]?=some (.cells #[.string x.g.place,.int .i64 x.g.cls,.int .i64 x.g.fin,.slice x.H x.g.holders.length x.hc,.slice x.D x.g.died.length x.dc] 94):=Meq;have aD:Hid (Below W0.heap.size W0 W2):=MdD;have kV:W1.heap.size<W2.heap.size:=zab gG;have uQ:=zHi eT;obtain⟨GB,j9⟩:∃GB,GB=W1.heap.size:=⟨_,rfl⟩
  rw[<-cI,<-j9];rw[<-j9]at gG kV;have iL:W0.heap.size<=GB:=Mcu;clear cI j9 aR eT i0 i1 i2 i3 i4;clear xs0 xd0 xr0 s0 s1 s2 s3 s4 s5 s6 d0 d1 d2 d3 d4 d5 d6 r0 r1 r2 r3 r4 r5 r6 rf ls ld lr;obtain⟨dA,cq⟩:=eh.o x.g uk;have pa:=ib.keep (aj.o.trans (aD.o.mono au));have kR:=zHi (fun W (hB:Below W2.heap.size W2 W)=>zcX x.g.holders d.frm x.H x.hc W Mcu (pa.1.keep hB));have cT:=fun h=>zl2 (frm:=d.frm) dA h
  change R=(if(zaf x.g.holders d.frm==0)=true then(s,19)else if zaF (surM x.g.holders d.frm (1-zaf x.g.holders d.frm))=true then(s,8)else(s.withGrave i {x.g with holders:=surM x.g.holders d.frm (1-zaf x.g.holders d.frm)},0))at hr;generalize zaf x.g.holders d.frm=sh at*;unfold zaA at kR;obtain⟨g0,g1,g2,g3,g4⟩:=zei gG;have rT:=aD.o.size;have GG:=zHi gG;obtain⟨⟨xs0,xd0,xr0⟩,⟨s0,s1,s2,s3,s4,s5,s6⟩,⟨d0,d1,d2,d3,d4,d5,d6⟩,⟨r0,r1,r2,r3,r4,r5,r6⟩,rf,ls,ld,lr⟩:=ddF (aw.o W2 (aD.o));go_upto_region 6 with(go_at_call 13;go_must(refine(kR.o _ (Below.refl _ _)).mono ?_);rintro e wq ⟨rfl,z2,rfl⟩)
  obtain⟨SB,mg⟩:∃SB,SB=W2.heap.size+z2.os.size:=⟨_,rfl⟩
  obtain⟨W3,be⟩:∃W3,W3=(W2.ext z2).alloc (.cells #[.int .i64 (sh).num,.int .i64 (sh).den] 31):=⟨_,rfl⟩
  have gS:W3.heap[SB]?=some (.cells #[.int .i64 (sh).num,.int .i64 (sh).den] 31):=by rw[be];exact zaq _ _ _ (by rw[mg];simp[zag])
  have ay:Below W2.heap.size W2 W3:=by rw[be];exact zac (zao W2 z2) _
  rw[<-be,<-mg];clear be mg g0 g1 g2 g3 g4 gG;clear xs0 xd0 xr0 s0 s1 s2 s3 s4 s5 s6 d0 d1 d2 d3 d4 d5 d6 r0 r1 r2 r3 r4 r5 r6 rf ls ld lr;have jd:=ay.size;obtain⟨aH,G3,GS⟩:=yH3 (aD.o.trans (ay.mono rT)) ((ay.block GB kV).trans GG.o) gS;obtain⟨q0,q1⟩:=zby gS;have rH:=zab gS;obtain⟨⟨xs0,xd0,xr0⟩,⟨s0,s1,s2,s3,s4,s5,s6⟩,⟨d0,d1,d2,d3,d4,d5,d6⟩,⟨r0,r1,r2,r3,r4,r5,r6⟩,rf,ls,ld,lr⟩:=ddF (aw.o W3 (aH.o));by_cases hz:sh=0
  ·have nh:(sh.num==0)=true:=by rw[hz];rfl
   have HE:Hid (R=(s,19)):=by show _=_;rw[hr,if_pos MdB]
   clear hr;go_upto_region 7 with fail
   have bk:=aH.o;exact Mg
  ·have nh:(sh.num==0)=false:=by
    exact Mbd
   rw[if_neg MdB]at hr;obtain⟨m1,m2,m3,m4⟩:=cT hz;obtain⟨eM,ny,EO⟩:=yH3 (fun W=>zhG 1 sh W ⟨by decide,by decide⟩ m1) m4 m2;unfold zaA at eM;rw[show(1:Rat).num=1 from rfl,show((1:Rat).den:Int)=1 from rfl]at eM;clear hz m1 m2 m3 m4 cT;go_upto_region 9 with fail
   refine zdI 3 _ _ (.cells #[.int .i64 0,.int .i64 0] 31) (.cells #[.int .i64 (1-sh).num,.int .i64 (1-sh).den] 31) Mcv Mcv rfl rfl ?hrun ?_
   case hrun=>intro a W;kernel_rfl
   simp only[List.take_succ_cons,List.take_zero];repeat(refine zeN (fun K hK=>?_);simp only[grow];go_simp;first|(refine hK _ ?_;clear hK K)|(apply Exists.intro;refine⟨fun _=>?_,hK _ ?_⟩;((first|(go_at_call 127;exact quietg (zhS _))|(go_at_call 159;exact quietg (eM.o _))));clear hK K))
   refine zfB ⟨?hstore,?hlast⟩
   case hstore=>
    exact ME
   case hlast=>
    rintro LB W4 ⟨z4,gF⟩ tZ gL;obtain⟨lf,ku⟩:∃lf,lf=1-sh:=⟨_,rfl⟩
    rw[<-ku]at hr ny EO gL;have aB:Below W3.heap.size W3 W4:=by rw[gF];exact zao _ _
    have F7:=aB.size;obtain⟨cm,G4,GL⟩:=yH3 (aH.o.trans (aB.mono Mcu)) ((aB.block GB Mcu).trans G3.o) gL;have fH:=zab gL;have Dp:GB<W4.heap.size:=Mcu;have Jb:=zHi ((ib.keep (aj.o.trans (cm.o.mono au))));clear gF ku gL aB gS q0 q1 rH eM nh;clear xs0 xd0 xr0 s0 s1 s2 s3 s4 s5 s6 d0 d1 d2 d3 d4 d5 d6 r0 r1 r2 r3 r4 r5 r6 rf ls ld lr;go_upto_region 11 with fail
    go_loopw [9,11] (fun v i wr=>∃k:Nat,k<=x.g.holders.length/\i=.int .i64 k/\OwnS wr W4.heap.size 64 3 zaa v (surM (x.g.holders.take k) d.frm lf)/\Below W4.heap.size W4 wr) (fun _ i _=>x.g.holders.length-(intOf i).toNat)
    case atStart=>exact⟨0,Nat.zero_le _,rfl,OwnS.nil,Below.refl _ _⟩
    case round=>
     obtain⟨k,hk,rfl,aa,hB⟩:=hrel;have aI:=hB.size;obtain⟨HO,HB⟩:=yH2 aa hB;have iu:=(hB.block GB Dp).trans G4.o;have Dj:=(hB.block LB fH).trans GL.o;obtain⟨g0,g1,g2,g3,g4⟩:=zei iu;obtain⟨l0,l1⟩:=zby Dj;have Dq:=zab iu;have xT:=zab Dj;have cB:=cm.o.trans (hB.mono Mcu);obtain⟨⟨xs0,xd0,xr0⟩,⟨s0,s1,s2,s3,s4,s5,s6⟩,⟨d0,d1,d2,d3,d4,d5,d6⟩,⟨r0,r1,r2,r3,r4,r5,r6⟩,rf,ls,ld,lr⟩:=ddF (aw.o wr (cB));have b8:=zHi cB;by_cases ae:k<x.g.holders.length
     ·obtain⟨b,off,hA,hb,ah⟩:=(Jb.o.1.keep hB).at ae;have ao:=surM_snoc (n:=d.frm) (q:=lf) ae;have bR:=Nat.le_trans (zoo (x.g.holders.take k) d.frm lf) (by rw[List.length_take];omega:(x.g.holders.take k).length<=k);have gR:=ny.o _ (List.getElem_mem ae);generalize surM (x.g.holders.take k) d.frm lf=xs at*;obtain⟨VA,vc,rfl,_,jx⟩:=aa.sl zam;have am:=zHi ae;generalize x.g.holders[k]=p at*;obtain⟨nm,q⟩:=p;rw[hA]at g3;have i0:wr.cell? ⟨b,off+k*3,none⟩=some (.string nm):=ah 0 _ rfl;have i1:wr.cell? ⟨b,off+k*3+1,none⟩=some (.int .i64 q.num):=ah 1 _ rfl;have i2:wr.cell? ⟨b,off+k*3+2,none⟩=some (.int .i64 q.den):=ah 2 _ rfl;have ar:(k:Int)<(x.g.holders.length:Int):=Mcu;have aT:(0:Int)<=(k:Int):=Mcu;have fP:Hid (xs.length<=100000):=by show _<=_;omega
      simp only at gR ao;have aA:=zHi (fun(W:World) (h:Below wr.heap.size wr W)=>(show W.cell? ⟨GB,3,none⟩=some (.slice (some ⟨b,off,none⟩) x.g.holders.length x.hc)/\W.cell? ⟨b,off+k*3,none⟩=some (.string nm)/\W.cell? ⟨b,off+k*3+1,none⟩=some (.int .i64 q.num)/\W.cell? ⟨b,off+k*3+2,none⟩=some (.int .i64 q.den)/\W.cell? ⟨LB,0,none⟩=some (.int .i64 lf.num)/\W.cell? ⟨LB,1,none⟩=some (.int .i64 lf.den) from⟨(zah h Dq).trans g3,(zah h hb).trans i0,(zah h hb).trans i1,(zah h hb).trans i2,(zah h xT).trans l0,(zah h xT).trans l1⟩));go_upto_region 13 with fail
      cases hs:zae nm d.frm
      ·have aY:(nm.toList==d.frm.toList)=false:=hs;have aK:Hid (surM (x.g.holders.take (k+1)) d.frm lf=xs++[(nm,q/lf)]):=by show _=_;rw[ao,hs];rfl
       obtain⟨iB,yy⟩:=gR hs;have EP:=zHi (fun W=>rQuo_any q lf W yy EO.o iB);unfold zaA at EP;clear ah ae aa ao hs gR iB yy
       (refine zaj Mcv Mcv ?_
        repeat(first|go_big_quiet_skip|(go_big_quiet_want;go_big_quiet_op;first|go_big_quiet_on|(apply Exists.intro;refine⟨fun _=>?_,?_⟩;(fail);go_big_quiet_on)))
        refine wpQuiet_nil ?_
        rintro _ ⟨zq,rfl⟩)
       obtain⟨WQ,oz⟩:∃WQ,WQ=wr.ext zq:=⟨_,rfl⟩
       have mn:Below wr.heap.size wr WQ:=Met;rw[<-oz];clear oz g0 g1 g2 g3 g4 l0 l1 i0 i1 i2;clear xs0 xd0 xr0 s0 s1 s2 s3 s4 s5 s6 d0 d1 d2 d3 d4 d5 d6 r0 r1 r2 r3 r4 r5 r6 rf ls ld lr;have Kg:=mn.size;go_upto_region 14 with fail
       refine za7 17 (fun bb w'=>bb=true\/(w'.cell? ⟨GB,3,none⟩=some (.slice (some ⟨b,off,none⟩) x.g.holders.length x.hc)/\w'.cell? ⟨b,off+k*3,none⟩=some (.string nm)/\w'.cell? ⟨b,off+k*3+1,none⟩=some (.int .i64 q.num)/\w'.cell? ⟨b,off+k*3+2,none⟩=some (.int .i64 q.den)/\w'.cell? ⟨LB,0,none⟩=some (.int .i64 lf.num)/\w'.cell? ⟨LB,1,none⟩=some (.int .i64 lf.den))) Mcv (.inr (aA.o _ (zaE mn))) ?hrest
       case hrest=>
        intro hHeld;refine TkM 0 ?_;refine TkM 1 ?_;refine TkM 2 ?_;refine TkM 3 ?_;refine TkM 4 ?_;refine TkM 5 ?_;refine TkM 6 ?_;refine TkM 7 ?_;refine TkM 8 ?_;refine TkM 9 ?_;refine TkM 10 ?_;refine TkM 11 ?_;refine TkM 12 ?_;refine TkM 13 ?_;refine OnM 14 false fun K hK=>?_
        go_simp
        refine(EP.o _).mono ?_;rintro e w5 ⟨rfl,z,rfl⟩;have aq:Below wr.heap.size wr (WQ.drew.ext z):=zbg (zaE mn) z;refine NxM hK (fun hHeld=>?_) (.inr (aA.o _ aq));clear hK K;refine TkM 15 ?_;refine OnM 16 false fun K hK=>?_
        go_simp
        have aS:Below wr.heap.size wr ((WQ.drew.ext z).alloc (.cells #[.string nm,.int .i64 (q/lf).num,.int .i64 (q/lf).den] 64)):=zac aq _;refine NxM hK (fun hHeld=>?_) (.inr (aA.o _ aS));clear hK K;refine OnM 17 true fun K hK=>?_
        refine zak (v:=.slice VA xs.length vc) (n:=xs.length) (m:=1) rfl _ _ rfl zdV zam zcg rfl (xs:=xs) (ys:=[(nm,q/lf)]) (HO.o.keep (n:=wr.heap.size) aS) rfl rfl rfl (zdi (zaq _ _ _ MdI)) (by have:=fP.o;simp only[maxLen];omega) Mde MdG ?_;intro v7 w7 h1 h2 h3;obtain⟨A7,c7,kD,_,_⟩:=h1.sl zam;rw[List.length_append]at kD;subst kD;have bU:Below W4.heap.size W4 w7:=Below.grown (HB.o.trans (aS.mono aI)) h2 MdG (fun j hj=>(HO.o.ge j hj).1);refine NxM hK fun hHeld=>?_
        clear hK K;refine OnM 18 true fun K hK=>?_
        go_simp
        refine NxM hK fun hHeld=>?_
        clear hK K;refine zaG Mcv ?_ _;clear hHeld;obtain⟨H7,bS⟩:=yH2 h1 bU;clear h1 h2 h3 bU;go_wp2_with fail
        go_round
        case rel=>exact⟨k+1,am.o,by go_num,by rw[aK.o];exact H7.o,bS.o⟩
        case measure=>have:=am.o;simp only[intOf];omega
      ·have aY:(nm.toList==d.frm.toList)=true:=hs;have aK:Hid (surM (x.g.holders.take (k+1)) d.frm lf=xs):=by show _=_;rw[ao,hs];simp
       clear ah ae aa ao hs gR
       (refine zaj Mcv Mcv ?_
        repeat(first|go_big_quiet_skip|(go_big_quiet_want;go_big_quiet_op;first|go_big_quiet_on|(apply Exists.intro;refine⟨fun _=>?_,?_⟩;(fail);go_big_quiet_on)))
        refine wpQuiet_nil ?_
        rintro _ ⟨zq,rfl⟩)
       go_wp2_with fail
       go_round
       case rel=>exact⟨k+1,am.o,by go_num,by rw[aK.o];exact HO.o.keep (n:=wr.heap.size) (zao _ _),zbg HB.o zq⟩
       case measure=>have:=am.o;simp only[intOf];omega
     ·have ar:¬(k:Int)<(x.g.holders.length:Int):=Mcu;rw[List.take_of_length_le Mcu]at HO aa;have kv:=zoo x.g.holders d.frm lf;generalize surM x.g.holders d.frm lf=out at*;obtain⟨VA,vc,rfl,fU,_⟩:=aa.sl zam;have cU:=zHi (fun W (h:Below wr.heap.size wr W)=>zdN out VA vc W Mcu (fU.keep h));have g3f:=frz iu;have lM:=zHi iu;clear aa fU ae hB Dj;cases hlg:zaF out
      ·rw[hlg]at cU hr;have HE:Hid (R=(s.withGrave i {x.g with holders:=out},0)):=by show _=_;rw[hr];rfl
       clear hr hlg aG;go_upto_region 18 with(go_at_call 160;go_must(refine(cU.o _ Bw).mono ?_);rintro e wq ⟨rfl,rfl⟩)
       obtain⟨W6,fC⟩:∃W6,W6=wr.setCell ⟨GB,3,none⟩ (.slice VA out.length vc):=⟨_,rfl⟩
       have gG6:W6.heap[GB]?=some (.cells #[.string x.g.place,.int .i64 x.g.cls,.int .i64 x.g.fin,.slice VA out.length vc,.slice x.D x.g.died.length x.dc] 94):=by
        rw[fC];have:=Joins.block_setCell (i:=3) lM.o (.slice VA out.length vc);simpa using this
       have ij:Below W0.heap.size W0 W6:=by rw[fC];exact zaM b8.o iL _
       have pZ:OwnS W6 W4.heap.size 64 3 zaa (.slice VA out.length vc) out:=by rw[fC];exact HO.o.kept (zav _ _ _ _) lM.o Mcw
       rw[<-fC];clear fC g0 g1 g2 g3 g4 g3f l0 l1 iu;clear xs0 xd0 xr0 s0 s1 s2 s3 s4 s5 s6 d0 d1 d2 d3 d4 d5 d6 r0 r1 r2 r3 r4 r5 r6 rf ls ld lr;obtain⟨g0,g1,g2,g3,g4⟩:=zei gG6;have bF:=zab gG6;have rl:=ij.size;obtain⟨⟨xs0,xd0,xr0⟩,⟨s0,s1,s2,s3,s4,s5,s6⟩,⟨d0,d1,d2,d3,d4,d5,d6⟩,⟨r0,r1,r2,r3,r4,r5,r6⟩,rf,ls,ld,lr⟩:=ddF (aw.o W6 (ij));have lZ:=zHi (rh.o ({g:= {x.g with holders:=out},H:=VA,hc:=vc,D:=x.D,dc:=x.dc}:GX) W6 ij);unfold GX.cells zgI at lZ;dsimp only at lZ;obtain⟨bW,lQ⟩:=yH2 ij pZ;clear ij pZ gG6
       go_wp2_with (go_at_call 161
                    go_must(refine(lZ.o).mono ?_)
                    rintro e w5 ⟨ga,go,gc,rfl,bj,aq⟩;have bU:=bW.o.trans (aq.mono rl);obtain⟨_,_,xr5⟩:=aw.o w5 bU;obtain⟨t0,t1,t2,t3,t4,t5,t6⟩:=zaH xr5;have tf:=frz xr5;obtain⟨bY,bS,lB⟩:=yH3 bj bU aq
                    clear bj aq bU)
       rw[HE.o];refine bodyPost_ret (zbG rfl _ rfl rfl (zc2 xr5)) rfl ?_;have du:=zcD (a0:=.slice LA laws.length c0) (a1:=.slice CA s.children.length c1) (a2:=.slice MA s.marriages.length c2) (a3:=.slice DA s.dead.length c3) (a4:=.slice WA wd.length c4) (a5:=.slice RA rd.length c5) (a6:=.slice (some ⟨ga,go,none⟩) s.graves.length gc) (aj.o.trans (bS.o.mono au)) (show w.heap.size<=w.heap.size+2 by omega);obtain⟨A',c',mz,_,dZ⟩:=lQ.o.ro;obtain⟨rfl,_,rfl⟩:VA=A'/\out.length=out.length/\vc=c':=by simpa using mz
       exact⟨_,_,_,_,_,_,_,rfl,rfl,du,fun _=>jY.o ({g:= {x.g with holders:=out},H:=VA,hc:=vc,D:=x.D,dc:=x.dc}:GX) _ ga go gc (H.o w (Below.refl _ _)) HK.o du (bY.o.ne7 (zmv bY.o xr5 Mcw)) ⟨(zji (dZ.keep lB.o) xr5 Mcw).sl zam,(ib.keep du).2⟩⟩
      ·rw[hlg]at cU hr;have HE:Hid (R=(s,8)):=by show _=_;rw[hr];rfl
       clear hr hlg aG;go_upto_region 16 with(go_at_call 160;go_must(refine(cU.o _ Bw).mono ?_);rintro e wq ⟨rfl,rfl⟩)
       have bk:=b8.o;exact Mg
structure GainSt (own:Rat) (out l:Parts):Prop where
 good:GoodParts out
 small:zaF out=false
 le:sumQ out+own*sumQ l<=1
 pos:∀p∈l,0<=p.2
theorem GainSt.parts{own:Rat}{out l:Parts}(h:GainSt own out l)(ho:0<=own):∀p∈out,zaJ p.2:=by
 have h1:=Rat.mul_nonneg ho (zbt h.pos);exact fun p hp=>(zdO (hs:=out) ⟨h.good,h.small,by have:=h.le;grind⟩ hp).2.2
theorem GainSt.next{own:Rat}{out l:Parts}{n:ByteArray}{q:Rat}(ho:0<=own)(h:GainSt own out ((n,q)::l))(hl:zaF (za3 out n (own*q))=false):GainSt own (za3 out n (own*q)) l:=by
 have hq:=h.pos (n,q) Mcx;have bP:=h.le;rw[sumQ]at bP;exact⟨zb0 (Rat.mul_nonneg ho hq) h.good,hl,by rw[zbY];grind,fun p hp=>h.pos p Md0⟩
theorem GainSt.more{own:Rat}{out l:Parts}{n:ByteArray}{q:Rat}(ho:0<=own)(h:GainSt own out ((n,q)::l)):0<=own*q/\own*q<=1:=by
 have hq:=h.pos (n,q) Mcx;have bP:=h.le;rw[sumQ]at bP;have h1:=Rat.mul_nonneg ho hq;have h2:=Rat.mul_nonneg ho (zbt (l:=l) fun p hp=>h.pos p Md0);have h3:0<=sumQ out:=zbt fun p hp=>by have:=h.good.pos p hp;grind
 simp only at hq bP;exact⟨h1,by grind⟩
def tpRes(s:St)(i:Nat)(g:Grave):Option Parts->St×Int
 |none=>(s,8)
 |some o=>(s.withGrave i {g with holders:=o},0)
theorem zmw(own:Rat)(n:ByteArray)(q:Rat)(l out:Parts):zbC own ((n,q)::l) out=if bigQ (own*q)then none else if zaF (za3 out n (own*q))then none else zbC own l (za3 out n (own*q)):=by rw[zbC]
theorem sum_isN{n:Nat}:∀ {l:Parts},(∀p∈l,IsN n p.2)->IsN n (sumQ l)
 | [],_=>zko n
 |x::r,h=>zkm (h x Mcx) (sum_isN fun p hp=>h p Md0)
theorem zkV(laws:List Law)(s:St)(wd rd:List Deed)(LA CA MA DA WA RA GA:Option Addr)(c0 c1 c2 c3 c4 c5 c6:Nat)(d:Deed)(B:Option Addr)(c:Nat)(w:World)(h:StIn w laws s wd rd LA CA MA DA WA RA GA c0 c1 c2 c3 c4 c5 c6)(hk:StLink s wd rd)(hf:StFew s wd rd)(hd:OkD d)(hS:Sl w 3 RPart.cells B d.to)(bV:d.kind=1)(aW:∀g∈s.graves,GoodG g/\g.holders.length<=50000):Calls Tryz.prog 129 #[.agg #[.slice LA laws.length c0,.slice CA s.children.length c1,.slice MA s.marriages.length c2,.slice DA s.dead.length c3,.slice WA wd.length c4,.slice RA rd.length c5,.slice GA s.graves.length c6],d.v B c] w (zfJ w laws (zbs s d)):=by
 obtain⟨R,hR⟩:∃R,R=zbs s d:=⟨_,rfl⟩
 rw[<-hR];obtain⟨gxs,hm,bv,bn⟩:=znz h.graves;obtain⟨HM,dr,bL,eh⟩:=yH4 hm bv bn aW;have jE:=zHi (zef (hd.parts (.inr (.inl bV))).2);have bx:=hd.len;clear hm bv bn aW bV;obtain⟨H,HK,HF,HD,HS,HR⟩:=yH6 (fun W (hB:Below w.heap.size w W)=>h.keep hB) hk hf hd (fun W (hB:Below w.heap.size w W)=>hS.keep hB) hR;unfold Deed.v;clear h hk hf hd hS hR;go_enter Tryz.func129,Tryz.ntmps129
 go_upto_region 1 with fail
 generalize ak:World.alloc (World.alloc (World.alloc w _) _) _=W0;obtain⟨aj,aw⟩:=zeR ak;clear ak;have au:=aj.o.size;obtain⟨⟨xs0,xd0,xr0⟩,⟨s0,s1,s2,s3,s4,s5,s6⟩,⟨d0,d1,d2,d3,d4,d5,d6⟩,⟨r0,r1,r2,r3,r4,r5,r6⟩,rf,ls,ld,lr⟩:=ddF (aw.o W0 (Below.refl _ _));have ew:=zHi (fun W (hB:Below W0.heap.size W0 W)=>zkb d.place d.day W (H.o W (aj.o.trans (hB.mono au))) HF.o);have jS:=zHi (fun W (hB:Below W0.heap.size W0 W)=>zmu d.to B c W (H.o W (aj.o.trans (hB.mono au))) HF.o Mcu (HS.o W (aj.o.trans (hB.mono au))));have tL:=zHi (fun W (hB:Below W0.heap.size W0 W)=>zok d.to B c W Mcu (HS.o W (aj.o.trans (hB.mono au))));have hr:=HR.o;unfold zbs at hr;cases aG:zaL s d.place d.day with
 |none=>
  exact Mcq
 |some i=>
  rw[aG]at hr;rw[zeb aG]at ew;obtain⟨g,bz,cj,uk⟩:=zh1 aG;simp only[cj]at hr;obtain⟨hi,jO⟩:=gx_at HM.o bz;have eF:i<s.graves.length:=MdU;have ib:=dr.o _ (List.getElem_mem hi);have rh:=zHi (fun(y:GX) W (hB:Below W0.heap.size W0 W)=>zjh laws s wd rd LA CA MA DA WA RA GA c0 c1 c2 c3 c4 c5 c6 gxs i y W HM.o (bL.o.keep (aj.o.trans (hB.mono au))) HF.o eF);obtain⟨jY,aK⟩:=yH2 (zn0 laws s wd rd LA CA MA DA WA RA GA c0 c1 c2 c3 c4 c5 c6 gxs i HM.o dr.o) (fun W (hB:Below W0.heap.size W0 W)=>H.o W (aj.o.trans (hB.mono au)));go_upto_region 2 with(go_at_call 35;go_must(refine(ew.o _ (Below.refl _ _)).mono ?_);rintro e wq ⟨rfl,z1,rfl⟩)
  obtain⟨W1,aV⟩:∃W1,W1=W0.ext z1:=⟨_,rfl⟩
  have aR:Below W0.heap.size W0 W1:=Mdp;rw[<-aV];clear aV;clear xs0 xd0 xr0 s0 s1 s2 s3 s4 s5 s6 d0 d1 d2 d3 d4 d5 d6 r0 r1 r2 r3 r4 r5 r6 rf ls ld lr;obtain⟨⟨xs0,xd0,xr0⟩,⟨s0,s1,s2,s3,s4,s5,s6⟩,⟨d0,d1,d2,d3,d4,d5,d6⟩,⟨r0,r1,r2,r3,r4,r5,r6⟩,rf,ls,ld,lr⟩:=ddF (aw.o W1 (aR));have x9:=aR.size;have eT:=aj.o.trans (aR.mono au);obtain⟨gb,gof,j8,dj,ah⟩:=(bL.o.keep eT).at hi;generalize gxs[i]=x at*;subst jO;subst j8;have i0:=ah 0 _ rfl;have i1:=ah 1 _ rfl;have i2:=ah 2 _ rfl;have i3:=ah 3 _ rfl;have i4:=ah 4 _ rfl;simp only[Nat.add_zero]at i0;have xH:(i:Int)<(s.graves.length:Int):=Mcu;have eX:(0:Int)<=(i:Int):=Mcu;have aJ:¬(i:Int)<0:=Mcu;clear ah;go_upto_region 5 with fail
  obtain⟨W2,cI⟩:∃W2,W2=W1.alloc (.cells #[.string x.g.place,.int .i64 x.g.cls,.int .i64 x.g.fin,.slice x.H x.g.holders.length x.hc,.slice x.D x.g.died.length x.dc] 94):=⟨_,rfl⟩
  have gG:W2.heap[W1.heap.size]?=some (.cells #[.string x.g.place,.int .i64 x.g.cls,.int .i64 x.g.fin,.slice x.H x.g.holders.length x.hc,.slice x.D x.g.died.length x.dc] 94):=Meq;have aD:Hid (Below W0.heap.size W0 W2):=MdD;have kV:W1.heap.size<W2.heap.size:=zab gG;have uQ:=zHi eT;obtain⟨GB,j9⟩:∃GB,GB=W1.heap.size:=⟨_,rfl⟩
  rw[<-cI,<-j9];rw[<-j9]at gG kV;have iL:W0.heap.size<=GB:=Mcu;clear cI j9 aR eT i0 i1 i2 i3 i4;clear xs0 xd0 xr0 s0 s1 s2 s3 s4 s5 s6 d0 d1 d2 d3 d4 d5 d6 r0 r1 r2 r3 r4 r5 r6 rf ls ld lr;obtain⟨dA,cq⟩:=eh.o x.g uk;have pa:=ib.keep (aj.o.trans (aD.o.mono au));obtain⟨t1,t2,t3⟩:=zi9 (frm:=d.frm) dA (fun p hp=>jE.o.1 p hp) jE.o.2.1;have qj:=zcm (n:=d.frm) dA.good;have ti:=zbN (n:=d.frm) dA.good;have jz:=zdE d.frm dA.small;have lm:∀p∈zau x.g.holders d.frm,p.1≠d.frm:=zj7;have cG:=zdY x.g.holders d.frm;have aP:sumQ x.g.holders<=1:=by
   rcases dA.one with e|e
   ·rw[e];decide
   ·rw[e];exact Rat.le_refl
  obtain⟨kR,lX⟩:=yH2 (fun W (hB:Below W2.heap.size W2 W)=>zcX x.g.holders d.frm x.H x.hc W Mcu (pa.1.keep hB)) (fun W (hB:Below W2.heap.size W2 W)=>zh0 x.g.holders d.frm x.H x.hc W Mcu (pa.1.keep hB));generalize zaf x.g.holders d.frm=sh at*;generalize zau x.g.holders d.frm=wo at*;unfold zaA at kR tL;obtain⟨g0,g1,g2,g3,g4⟩:=zei gG;have rT:=aD.o.size;have GG:=zHi gG;obtain⟨⟨xs0,xd0,xr0⟩,⟨s0,s1,s2,s3,s4,s5,s6⟩,⟨d0,d1,d2,d3,d4,d5,d6⟩,⟨r0,r1,r2,r3,r4,r5,r6⟩,rf,ls,ld,lr⟩:=ddF (aw.o W2 (aD.o));by_cases ki:x.g.cls=4
  ·have nG:(x.g.cls==4)=true:=by rw[ki];rfl
   have HE:Hid (R=(s,15)):=by show _=_;rw[hr,if_pos nG]
   clear hr ki;go_upto_region 6 with fail
   have bk:=aD.o;exact Mg
  have nG:(x.g.cls==4)=false:=by simpa using ki
  rw[if_neg (by rw[nG];simp)]at hr;go_upto_region 8 with(go_at_call 13;go_must(refine(kR.o _ (Below.refl _ _)).mono ?_);rintro e wq ⟨rfl,z2,rfl⟩)
  obtain⟨SB,mg⟩:∃SB,SB=W2.heap.size+z2.os.size:=⟨_,rfl⟩
  obtain⟨W3,be⟩:∃W3,W3=(W2.ext z2).alloc (.cells #[.int .i64 (sh).num,.int .i64 (sh).den] 31):=⟨_,rfl⟩
  have gS:W3.heap[SB]?=some (.cells #[.int .i64 (sh).num,.int .i64 (sh).den] 31):=by rw[be];exact zaq _ _ _ (by rw[mg];simp[zag])
  have ay:Below W2.heap.size W2 W3:=by rw[be];exact zac (zao W2 z2) _
  rw[<-be,<-mg];clear be mg g0 g1 g2 g3 g4 gG ki nG;clear xs0 xd0 xr0 s0 s1 s2 s3 s4 s5 s6 d0 d1 d2 d3 d4 d5 d6 r0 r1 r2 r3 r4 r5 r6 rf ls ld lr;have jd:=ay.size;obtain⟨aH,AS,G3,GS⟩:=yH4 (aD.o.trans (ay.mono rT)) ay ((ay.block GB kV).trans GG.o) gS;obtain⟨q0,q1⟩:=zby gS;have rH:=zab gS;obtain⟨⟨xs0,xd0,xr0⟩,⟨s0,s1,s2,s3,s4,s5,s6⟩,⟨d0,d1,d2,d3,d4,d5,d6⟩,⟨r0,r1,r2,r3,r4,r5,r6⟩,rf,ls,ld,lr⟩:=ddF (aw.o W3 (aH.o));by_cases hz:sh=0
  ·have nh:(sh.num==0)=true:=by rw[hz];rfl
   have HE:Hid (R=(s,19)):=by show _=_;rw[hr,if_pos MdB]
   clear hr;go_upto_region 9 with fail
   have bk:=aH.o;exact Mg
  have nh:(sh.num==0)=false:=by
   exact Mbd
  rw[if_neg MdB]at hr;cases fW:ze5 s d.to;rotate_left 1
  ·have HE:Hid (R=(s,28)):=by show _=_;rw[hr,fW];rfl
   rw[fW]at jS;clear hr hz aG;go_upto_region 11 with(go_at_call 154;go_must(refine(jS.o _ (by have:=aH.o;exact Bw)).mono ?_);rintro e wq ⟨rfl,z3,rfl⟩)
   have bk:=zbg aH.o z3;exact MbY
  rw[fW,if_neg Mcx]at hr;rw[fW]at jS;have ll:=znn d.to 0;have aU:d.to.all zea=true:=by
   rw[List.all_eq_true];intro p hp;have h1:=jE.o.1 p hp;have h2:=zbp h1.2.2;unfold zea;rw[h1.2.2,Bool.true_and];have:p.num≠0:=fun e=>by
    have h3:=h1.1;have h4:=(zk8.1 h3)
    unfold RPart.rat at h4;rw[h2.1,e]at h4;exact absurd h4 Mcw
   simpa using this
  rw[aU]at ll;have dF:=ll.2 rfl;rw[Rat.zero_add]at dF;have um:∀p∈zan d.to,0<p.2:=fun p hp=>by
   obtain⟨q,hq,rfl⟩:=List.mem_map.1 hp;exact(jE.o.1 q hq).1
  have l8:IsN 720720 (sumQ (zan d.to)):=sum_isN (fun p hp=>by
   obtain⟨q,hq,rfl⟩:=List.mem_map.1 hp
   exact(jE.o.1 q hq).2.1)
  have oI:0<=sumQ (zan d.to):=zbt fun p hp=>by have:=um p hp;grind
  have mC:=jE.o.2.1;have aL:=zcB Mcw Mcw l8 oI mC;have lh:=zcB Mcw Mcw (zgW (zgX _) l8) (show 0<=1-sumQ (zan d.to) by grind) (show 1-sumQ (zan d.to)<=1 by grind);rw[ll.1,dF]at tL;have yB:∀p∈zan d.to,0<=p.2:=fun p hp=>by have:=um p hp;grind
  have oO:(zan d.to).length=d.to.length:=List.length_map _;have gJ:∀k (hk:k<d.to.length),(zan d.to).drop k=(d.to[k].name,d.to[k].rat)::(zan d.to).drop (k+1):=fun k hk=>by
   rw[List.drop_eq_getElem_cons Mcu];congr 1
   exact List.getElem_map _
  have BL:=zHi (fun p hp=>(jE.o.1 p hp).2.2);generalize zan d.to=l0 at*;have sG:0<=sh*(1-sumQ l0):=Rat.mul_nonneg t1 McX;have xN:sh*(1-sumQ l0)<=1:=by
   have:=Rat.mul_le_mul_of_nonneg_left (show 1-sumQ l0<=1 by grind) t1;grind
  have gy:=zHi (fun(hb:bigQ (sh*(1-sumQ l0))=false)=>(show zaJ (sh*(1-sumQ l0))/\GainSt sh (za3 wo d.frm (sh*(1-sumQ l0))) l0 from
   ⟨zcd sG xN hb,⟨zb0 sG ti,zfM hb lm jz,by rw[zbY];grind,yB⟩⟩))
  have vV:=zHi (show∀p∈wo,zaJ p.2 from fun p hp=>(zdO (hs:=wo) ⟨ti,jz,by have:=qj;grind⟩ hp).2.2);obtain⟨q,hq⟩:∃q,q=sumQ l0:=⟨_,rfl⟩
  rw[<-hq]at hr tL aL lh gy;obtain⟨eM,iV⟩:=yH2 (fun W=>zhG 1 q W ⟨by decide,by decide⟩ aL) (fun W=>zgz sh (1-q) W t2 lh);unfold zaA at eM iV;rw[show(1:Rat).num=1 from rfl,show((1:Rat).den:Int)=1 from rfl]at eM;obtain⟨kq,Gq⟩:∃kq,kq=sh*(1-q):=⟨_,rfl⟩
  rw[<-Gq]at hr gy iV;obtain⟨iW,lS,I9,Bo⟩:=yH4 t1 t2 gJ oO;have zo:wo.length<=50000:=Mcu;have bI:=zHi hr;clear hr gJ oO yB sG xN aU ll dF um l8 oI mC aL lh t1 t2 t3 qj ti jz lm cG aP hq Gq hz aG dA
  go_upto_region 13 with(first
   |(go_at_call 154;go_must(refine(jS.o _ (by have:=aH.o;exact Bw)).mono ?_);rintro e wq ⟨rfl,z3,rfl⟩)
   |(go_at_call 126;go_must(refine(tL.o _ (by have:=aH.o;exact Bw)).mono ?_);rintro e wq ⟨rfl,z5,rfl⟩))
  obtain⟨QB,rF⟩:∃QB,QB=W3.heap.size+z3.os.size+z5.os.size:=⟨_,rfl⟩
  obtain⟨W4,gF⟩:∃W4,W4=((W3.ext z3).ext z5).alloc (.cells #[.int .i64 (q).num,.int .i64 (q).den] 31):=⟨_,rfl⟩
  have gQ:W4.heap[QB]?=some (.cells #[.int .i64 (q).num,.int .i64 (q).den] 31):=by rw[gF];exact zaq _ _ _ (by rw[rF];simp[zag])
  have aB:Below W3.heap.size W3 W4:=by rw[gF];exact zac (zbg (zao W3 z3) z5) _
  rw[<-gF,<-rF];have F7:=aB.size;have rU:=aH.o.trans (aB.mono (by have:=aH.o.size;omega));obtain⟨G4,S4,Q4,ri⟩:=yH4 ((aB.block GB Mcu).trans G3.o) ((aB.block SB rH).trans GS.o) gQ (lX.o W4 (AS.o.trans (aB.mono jd)));have rI:SB<W4.heap.size:=Mcu;have Ch:GB<W4.heap.size:=Mcu;have Ct:=zab gQ;have cm:=zHi rU;have zX:=rU.size;clear gF rF gQ gS q0 q1 aB rU rH ay;clear xs0 xd0 xr0 s0 s1 s2 s3 s4 s5 s6 d0 d1 d2 d3 d4 d5 d6 r0 r1 r2 r3 r4 r5 r6 rf ls ld lr;obtain⟨g0,g1,g2,g3,g4⟩:=zei G4.o;obtain⟨⟨xs0,xd0,xr0⟩,⟨s0,s1,s2,s3,s4,s5,s6⟩,⟨d0,d1,d2,d3,d4,d5,d6⟩,⟨r0,r1,r2,r3,r4,r5,r6⟩,rf,ls,ld,lr⟩:=ddF (aw.o W4 (cm.o));go_upto_region 14 with(go_at_call 157;go_must(refine(ri.o).mono ?_);rintro e w5 ⟨v5,rfl,o5,b5⟩)
  obtain⟨VA,vc,rfl,fU,_⟩:=o5.sl zam;have tN:=zHi fU;have C6:=b5.size;obtain⟨bo,G5,S5,Q5⟩:=yH4 (cm.o.trans (b5.mono zX)) ((b5.block GB Ch).trans G4.o) ((b5.block SB rI).trans S4.o) ((b5.block QB Ct).trans Q4.o);clear g0 g1 g2 g3 g4 o5 b5 fU;clear xs0 xd0 xr0 s0 s1 s2 s3 s4 s5 s6 d0 d1 d2 d3 d4 d5 d6 r0 r1 r2 r3 r4 r5 r6 rf ls ld lr;obtain⟨q0,q1⟩:=zby Q5.o;obtain⟨e0,e1⟩:=zby S5.o;have wN:=zab S5.o;have Cu:=zab Q5.o;have wn:=zab G5.o;refine zdI 5 _ _ (.cells #[.int .i64 0,.int .i64 0] 31) (.cells #[.int .i64 (kq).num,.int .i64 (kq).den] 31) Mcv Mcv rfl rfl ?hrun ?_
  case hrun=>intro a W;kernel_rfl
  simp only[List.take_succ_cons,List.take_zero];repeat(refine zeN (fun K hK=>?_);simp only[grow];go_simp;first|(refine hK _ ?_;clear hK K)|(apply Exists.intro;refine⟨fun _=>?_,hK _ ?_⟩;((first|(go_at_call 127;exact quietg (zhS _))|(go_at_call 159;exact quietg (eM.o _))|(go_at_call 158;exact quietg (iV.o _))));clear hK K))
  refine zfB ⟨?hstore,?hlast⟩
  case hstore=>
   exact ME
  case hlast=>
   rintro LB W6 ⟨z6,fC⟩ tZ gL;have aS:Below w5.heap.size w5 W6:=by rw[fC];exact zao _ _
   have rl:=aS.size;obtain⟨bW,G6,S6,J8⟩:=yH4 (bo.o.trans (aS.mono Mcu)) ((aS.block GB wn).trans G5.o) ((aS.block SB wN).trans S5.o) (tN.o.keep aS);have Ci:=zab G6.o;have Cz:=zab S6.o;have JI:=zab gL;obtain⟨l0',l1'⟩:=zby gL;clear fC aS q0 q1 e0 e1 wN Cu wn;obtain⟨⟨xs0,xd0,xr0⟩,⟨s0,s1,s2,s3,s4,s5,s6⟩,⟨d0,d1,d2,d3,d4,d5,d6⟩,⟨r0,r1,r2,r3,r4,r5,r6⟩,rf,ls,ld,lr⟩:=ddF (aw.o W6 (bW.o));by_cases hs:1000000000<(kq.den:Int)
   ·have HE:Hid (R=(s,8)):=by show _=_;rw[bI.o,if_pos (by simp[bigQ,hs])]
    go_upto_region 16 with fail
    have bk:=bW.o;exact Mg
   have bk:bigQ kq=false:=by simpa[bigQ]using hs
   obtain⟨k5,ao⟩:=gy.o bk;have hr:=bI.o;rw[bk,if_neg Mcx]at hr;change R=tpRes s i x.g (zbC sh l0 (za3 wo d.frm kq))at hr;have ez:=zHi (zcZ wo d.frm kq VA vc W6 Mcu vV.o k5 J8.o);unfold zaA at ez;have kv:=zc1 d.frm kq wo;obtain⟨iX,aK⟩:=yH2 hr ao;clear hr ao k5 gy bI bk;go_upto_region 18 with(go_at_call 156;go_must(refine(ez.o).mono ?_);rintro e w7 ⟨v7,rfl,o7,b7⟩)
   have F8:=b7.size;have bU:=bW.o.trans (b7.mono (by have:=bW.o.size;omega));obtain⟨G7,S7⟩:=yH2 ((b7.block GB Ci).trans G6.o) ((b7.block SB Cz).trans S6.o);have Cj:=zab G7.o;have CB:=zab S7.o;have bS:=zHi bU;have Jn:=bU.size;have vE:=zHi o7;clear o7 b7 l0' l1' ez bU hs;generalize za3 wo d.frm kq=out0 at*;clear xs0 xd0 xr0 s0 s1 s2 s3 s4 s5 s6 d0 d1 d2 d3 d4 d5 d6 r0 r1 r2 r3 r4 r5 r6 rf ls ld lr;go_upto_region 19 with fail
   go_loopw [11,13] (fun v n wr=>∃(k:Nat) (out:Parts),k<=d.to.length/\n=.int .i64 k/\Hid (R=tpRes s i x.g (zbC sh (l0.drop k) out))/\Hid (GainSt sh out (l0.drop k))/\out.length<=50001+k/\OwnS wr W6.heap.size 64 3 zaa v out/\Below w7.heap.size w7 wr) (fun _ n _=>d.to.length-(intOf n).toNat)
   case atStart=>exact⟨0,out0,Nat.zero_le _,rfl,iX,aK,by omega,vE.o,Below.refl _ _⟩
   case round=>
    obtain⟨k,out,hk,rfl,HX,HG,La,aa,hB⟩:=hrel;have aI:=hB.size;have iu:=(hB.block GB Cj).trans G7.o;have Dk:=(hB.block SB CB).trans S7.o;obtain⟨g0,g1,g2,g3,g4⟩:=zei iu;obtain⟨q0,q1⟩:=zby Dk;have Ju:=zab iu;have JV:=zab Dk;have cB:=bS.o.trans (hB.mono Jn);obtain⟨⟨xs0,xd0,xr0⟩,⟨s0,s1,s2,s3,s4,s5,s6⟩,⟨d0,d1,d2,d3,d4,d5,d6⟩,⟨r0,r1,r2,r3,r4,r5,r6⟩,rf,ls,ld,lr⟩:=ddF (aw.o wr (cB));obtain⟨b8,HB,HO,vT⟩:=yH4 cB hB aa (HS.o wr (aj.o.trans (cB.mono au)));by_cases ae:k<d.to.length
    ·obtain⟨b,off,hA,hb,ah⟩:=vT.o.at ae;have hx:=HX.o;have ao:=HG.o;rw[I9.o k ae]at hx ao;rw[zmw]at hx;have bQ:=BL.o _ (List.getElem_mem ae);have am:=zHi ae;generalize d.to[k]=y at*;obtain⟨nm,nu,de⟩:=y;simp only at bQ hx ao;have i0:wr.cell? ⟨b,off+k*3,none⟩=some (.string nm):=ah 0 _ rfl;have i1:wr.cell? ⟨b,off+k*3+1,none⟩=some (.int .i64 nu):=ah 1 _ rfl;have i2:wr.cell? ⟨b,off+k*3+2,none⟩=some (.int .i64 de):=ah 2 _ rfl;have ar:(k:Int)<(d.to.length:Int):=Mcu;have aT:(0:Int)<=(k:Int):=Mcu;have mV:(⟨nm,nu,de⟩:RPart).rat=Rat.divInt nu de:=rfl;rw[mV]at hx ao;obtain⟨r1,r2,r3,r4⟩:=zbp bQ;have kL:=zHi (fun W=>zgz sh (Rat.divInt nu de) W lS.o (zcB Mcw Mcw (zet bQ) r3 r4));unfold zaA at kL;rw[r1,r2]at kL;obtain⟨p1,p2⟩:=ao.more iW.o;obtain⟨jV,kQ⟩:=yH2 (fun hl=>ao.next iW.o hl) (ao.parts iW.o);obtain⟨mo,ye⟩:∃mo,mo=sh*Rat.divInt nu de:=⟨_,rfl⟩
     rw[<-ye]at hx kL p1 p2 jV;obtain⟨lT,av⟩:=yH2 (And.intro p1 p2) hx;rw[hA]at d4;obtain⟨HDW,AO,kG⟩:=yH3 xd0 hA (show wr.cell? ⟨b,off+k*3,none⟩=some (.string nm)/\b<wr.heap.size from⟨i0,hb⟩);clear ah hx ao bQ ae mV r1 r2 r3 r4 p1 p2 ye aa hB hA;go_upto_region 21 with fail
     refine zdI 8 _ _ (.cells #[.int .i64 0,.int .i64 0] 31) (.cells #[.int .i64 (mo).num,.int .i64 (mo).den] 31) Mcv Mcv rfl rfl ?hrun ?_
     case hrun=>intro a W;kernel_rfl
     simp only[List.take_succ_cons,List.take_zero];repeat(refine zeN (fun K hK=>?_);simp only[grow];go_simp;first|(refine hK _ ?_;clear hK K)|(apply Exists.intro;refine⟨fun _=>?_,hK _ ?_⟩;((go_at_call 158;exact quietg (kL.o _)));clear hK K))
     refine zfB ⟨?hstore,?hlast⟩
     case hstore=>
      exact ME
     case hlast=>
      rintro MB W9 ⟨z9,wW⟩ JJ gM;have bD:Below wr.heap.size wr W9:=by rw[wW];exact zao _ _
      have C8:=bD.size;have s9:=b8.o.trans (bD.mono Md9);obtain⟨eo,qp,GM⟩:=yH3 bD s9 gM;obtain⟨m0,m1⟩:=zby gM;have rA:=zab gM;clear wW bD i0 i1 i2 g0 g1 g2 g3 g4 q0 q1;clear xs0 xd0 xr0 s0 s1 s2 s3 s4 s5 s6 d0 d1 d2 d3 d4 d5 d6 r0 r1 r2 r3 r4 r5 r6 rf ls ld lr;obtain⟨⟨xs0,xd0,xr0⟩,⟨s0,s1,s2,s3,s4,s5,s6⟩,⟨d0,d1,d2,d3,d4,d5,d6⟩,⟨r0,r1,r2,r3,r4,r5,r6⟩,rf,ls,ld,lr⟩:=ddF (aw.o W9 (s9));clear s9;by_cases hs:1000000000<(mo.den:Int)
      ·have HE:Hid (R=(s,8)):=by show _=_;rw[av.o,if_pos (by simp[bigQ,hs])];rfl
       go_upto_region 23 with fail
       have bk:=qp.o;exact Mg
      have bk:bigQ mo=false:=by simpa[bigQ]using hs
      have hx:=av.o;rw[bk,if_neg Mcx]at hx;have eQ:=zHi hx;have mN:=zcd lT.o.1 lT.o.2 bk;obtain⟨OV,oc,rfl,_,_⟩:=HO.o.sl zam;have ez:=zHi (fun W (hW:Below wr.heap.size wr W)=>zcZ out nm mo OV oc W (by have:=am.o;omega) kQ.o mN (ziT zam (HO.o.keep hW)).1);unfold zaA at ez;have cq:=zc1 nm mo out;go_upto_region 24 with fail
      have Da:=d4;rw[AO.o]at Da;have C9:=fun(W:World) (h:Below W9.heap.size W9 W)=>(zah h ld).trans Da
      have Jy:=fun(W:World) (h:Below W9.heap.size W9 W)=>(zah h (show b<W9.heap.size by have:=kG.o.2;omega)).trans ((zah eo.o kG.o.2).trans kG.o.1)
      clear Da;have aA:=zHi (fun(W:World) (h:Below W9.heap.size W9 W)=>(show W.cell? ⟨w.heap.size+1,4,none⟩=some (.slice (some ⟨b,off,none⟩) d.to.length c)/\W.cell? ⟨b,off+k*3,none⟩=some (.string nm)/\W.cell? ⟨MB,0,none⟩=some (.int .i64 mo.num)/\W.cell? ⟨MB,1,none⟩=some (.int .i64 mo.den) from⟨(C9 W h),(Jy W h),(zah h rA).trans m0,(zah h rA).trans m1⟩));clear hx mN bk hs;refine za7 8 (fun bb w'=>bb=true\/(w'.cell? ⟨w.heap.size+1,4,none⟩=some (.slice (some ⟨b,off,none⟩) d.to.length c)/\w'.cell? ⟨b,off+k*3,none⟩=some (.string nm)/\w'.cell? ⟨MB,0,none⟩=some (.int .i64 mo.num)/\w'.cell? ⟨MB,1,none⟩=some (.int .i64 mo.den))) Mcv (.inr (aA.o _ (zaE (Below.refl _ _)))) ?hrest
      case hrest=>
       intro hHeld;refine TkM 0 ?_;refine TkM 1 ?_;refine TkM 2 ?_;refine TkM 3 ?_;refine TkM 4 ?_;refine TkM 5 ?_;refine TkM 6 ?_;refine TkM 7 ?_;refine OnM 8 true fun K hK=>?_
       go_simp
       refine(ez.o _ (zaE eo.o)).mono ?_;rintro e w10 ⟨v10,rfl,o10,b10⟩;refine NxM hK fun hHeld=>?_
       clear hK K;refine OnM 9 true fun K hK=>?_
       go_simp
       refine NxM hK fun hHeld=>?_
       clear hK K;refine zaG Mcv ?_ _;clear hHeld;obtain⟨YA,yc,rfl,ng,_⟩:=o10.sl zam;have jc:Below W9.heap.size W9 w10:=(zaE (Below.refl _ _)).trans b10;have mq:=qp.o.trans (jc.mono (by have:=qp.o.size;omega));obtain⟨AR,uR,o8,cU⟩:=yH4 (eo.o.trans (jc.mono C8)) mq (o10.base_le (show W6.heap.size<=W9.drew.heap.size by have:=eo.o.size;have:=HB.o.size;have:=F8;show W6.heap.size<=W9.heap.size;omega)) (fun W (h:Below w10.heap.size w10 W)=>zdN (za3 out nm mo) YA yc W (by have:=am.o;omega) (ng.keep h));have Ji:=jc.size;clear o10 b10 ng jc m0 m1 rA;clear xs0 xd0 xr0 s0 s1 s2 s3 s4 s5 s6 d0 d1 d2 d3 d4 d5 d6 r0 r1 r2 r3 r4 r5 r6 rf ls ld lr;obtain⟨⟨xs0,xd0,xr0⟩,⟨s0,s1,s2,s3,s4,s5,s6⟩,⟨d0,d1,d2,d3,d4,d5,d6⟩,⟨r0,r1,r2,r3,r4,r5,r6⟩,rf,ls,ld,lr⟩:=ddF (aw.o w10 (mq));clear mq;have hx:=eQ.o;cases hlg:zaF (za3 out nm mo)
       ·rw[hlg]at hx cU;have aK:=zHi (jV.o hlg);have jZ:Hid (R=tpRes s i x.g (zbC sh (l0.drop (k+1)) (za3 out nm mo))):=by show _=_;rw[hx,if_neg Mcx]
        clear hx hlg;generalize za3 out nm mo=out1 at*;go_wp2_with (go_at_call 160;go_must(refine(cU.o _ Bw).mono ?_);rintro e wq ⟨rfl,rfl⟩)
        go_round
        case rel=>exact⟨k+1,out1,am.o,by go_num,jZ,aK,by omega,o8.o,HB.o.trans (AR.o.mono aI)⟩
        case measure=>have:=am.o;simp only[intOf];omega
       ·rw[hlg]at hx cU;have HE:Hid (R=(s,8)):=by show _=_;rw[hx,if_pos rfl];rfl
        clear hx hlg;generalize za3 out nm mo=out1 at*;go_upto_region 26 with(go_at_call 160;go_must(refine(cU.o _ Bw).mono ?_);rintro e wq ⟨rfl,rfl⟩)
        have bk:=uR.o;exact Mg
    ·have ar:¬(k:Int)<(d.to.length:Int):=Mcu;have hx:=HX.o;rw[List.drop_of_length_le (by have:=Bo.o;omega)]at hx;have HE:Hid (R=(s.withGrave i {x.g with holders:=out},0)):=Md6;obtain⟨VB,vd,rfl,_,_⟩:=aa.sl zam;have g3f:=frz iu;have lM:=zHi iu;clear aa ae hB Dk hx;go_upto_region 28 with fail
     obtain⟨W8,wV⟩:∃W8,W8=wr.setCell ⟨GB,3,none⟩ (.slice VB out.length vd):=⟨_,rfl⟩
     have gG6:W8.heap[GB]?=some (.cells #[.string x.g.place,.int .i64 x.g.cls,.int .i64 x.g.fin,.slice VB out.length vd,.slice x.D x.g.died.length x.dc] 94):=by
      rw[wV];have:=Joins.block_setCell (i:=3) lM.o (.slice VB out.length vd);simpa using this
     have ij:Below W0.heap.size W0 W8:=by rw[wV];exact zaM b8.o iL _
     have pZ:OwnS W8 W6.heap.size 64 3 zaa (.slice VB out.length vd) out:=by rw[wV];exact HO.o.kept (zav _ _ _ _) lM.o Mcw
     rw[<-wV];clear wV g0 g1 g2 g3 g4 g3f q0 q1 iu;clear xs0 xd0 xr0 s0 s1 s2 s3 s4 s5 s6 d0 d1 d2 d3 d4 d5 d6 r0 r1 r2 r3 r4 r5 r6 rf ls ld lr;obtain⟨g0,g1,g2,g3,g4⟩:=zei gG6;have bF:=zab gG6;have rl:=ij.size;obtain⟨⟨xs0,xd0,xr0⟩,⟨s0,s1,s2,s3,s4,s5,s6⟩,⟨d0,d1,d2,d3,d4,d5,d6⟩,⟨r0,r1,r2,r3,r4,r5,r6⟩,rf,ls,ld,lr⟩:=ddF (aw.o W8 (ij));have lZ:=zHi (rh.o ({g:= {x.g with holders:=out},H:=VB,hc:=vd,D:=x.D,dc:=x.dc}:GX) W8 ij);unfold GX.cells zgI at lZ;dsimp only at lZ;obtain⟨bW,lQ⟩:=yH2 ij pZ;clear ij pZ gG6
     go_wp2_with (go_at_call 161
                  go_must(refine(lZ.o).mono ?_)
                  rintro e w5 ⟨ga,go,gc,rfl,bj,aq⟩;have bU:=bW.o.trans (aq.mono rl);obtain⟨_,_,xr5⟩:=aw.o w5 bU;obtain⟨t0,t1,t2,t3,t4,t5,t6⟩:=zaH xr5;have tf:=frz xr5;obtain⟨bY,bS,lB⟩:=yH3 bj bU aq
                  clear bj aq bU)
     rw[HE.o];refine bodyPost_ret (zbG rfl _ rfl rfl (zc2 xr5)) rfl ?_;have du:=zcD (a0:=.slice LA laws.length c0) (a1:=.slice CA s.children.length c1) (a2:=.slice MA s.marriages.length c2) (a3:=.slice DA s.dead.length c3) (a4:=.slice WA wd.length c4) (a5:=.slice RA rd.length c5) (a6:=.slice (some ⟨ga,go,none⟩) s.graves.length gc) (aj.o.trans (bS.o.mono au)) (show w.heap.size<=w.heap.size+2 by omega);obtain⟨A',c',mz,_,dZ⟩:=lQ.o.ro;obtain⟨rfl,_,rfl⟩:VB=A'/\out.length=out.length/\vd=c':=by simpa using mz
     exact⟨_,_,_,_,_,_,_,rfl,rfl,du,fun _=>jY.o ({g:= {x.g with holders:=out},H:=VB,hc:=vd,D:=x.D,dc:=x.dc}:GX) _ ga go gc (H.o w (Below.refl _ _)) HK.o du (bY.o.ne7 (zmv bY.o xr5 Mcw)) ⟨(zji (dZ.keep lB.o) xr5 Mcw).sl zam,(ib.keep du).2⟩⟩

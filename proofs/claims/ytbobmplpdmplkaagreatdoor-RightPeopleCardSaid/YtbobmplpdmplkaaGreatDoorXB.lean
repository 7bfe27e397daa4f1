import Derived.Test.YtbobmplpdmplkaaGreatDoorXA
import Derived.Test.YtbobmplpdmplkaaGreatDoorUI
set_option linter.all false
set_option maxRecDepth 100000
set_option maxHeartbeats 4000000
namespace Go.Proofs.YtbobmplpdmplkaaGreatDoor
open Go.RowKit Go.Shelf
attribute [local go_sem] World.cell?_alloc_mark zaf za4 zam za7 zaw zax zay zaz za0 za1 za2
attribute [local go_sem] zan zac
theorem zc9{n:Nat}{q:Rat}(h0:0<n)(h1:n<=1000000000)(h:IsN n q)(h2:0<=q)(h3:q<=1):zaI q:=zbZ h2 h3 (by
 have:=zke h0 h;unfold bigQ;simp
 omega)
theorem wrap_m{k:Nat}(h:k<=1000):wrap64 ((k:Int)-1)=(k:Int)-1:=by
 unfold wrap64;omega
def zfV(wd:List Deed)(n:ByteArray):List RPart:=((wd.reverse.find? fun d=>zae d.frm n).map (·.to)).getD []
theorem ziX{s:St}{wd rd:List Deed}(h:StLink s wd rd)(n:ByteArray):zbw s n=zao (zfV wd n):=by
 unfold zbw zfV;rw[h.wills,<-List.map_reverse,List.find?_map];have e:((fun w:ByteArray×Parts=>zae w.1 n)∘fun d:Deed=>(d.frm,zao d.to))=fun d:Deed=>zae d.frm n:=rfl
 rw[e];cases wd.reverse.find? fun d=>zae d.frm n<;>rfl
theorem zpp{wd:List Deed}{n:ByteArray}{k:Nat}(h:k<wd.length):zfV (wd.take (k+1)) n=if zae wd[k].frm n then wd[k].to else zfV (wd.take k) n:=by
 unfold zfV;rw[List.take_add_one,List.getElem?_eq_getElem h];simp only[Option.toList_some,List.reverse_append,List.reverse_singleton,List.singleton_append,List.find?_cons];cases zae wd[k].frm n<;>rfl
theorem own_key{law:Law}{out:Parts}{rest:Rat}(sp:ByteArray)(hl:za8 16 law.num law.den=true)(g1:GoodParts out)(g2:∀p∈out,IsN 720720 p.2)(g3:IsN 720720 rest)(g4:0<=rest)(g5:rest<=1):
 0<=rest*Rat.divInt law.num law.den/\rest*Rat.divInt law.num law.den<=rest/\GoodParts (za3 out sp (rest*Rat.divInt law.num law.den))/\zaE (za3 out sp (rest*Rat.divInt law.num law.den))=false/\
  zaI (rest*Rat.divInt law.num law.den)/\zaI (rest-rest*Rat.divInt law.num law.den):=by
 obtain⟨_,_,l1,l2⟩:=zbm hl;have hd:za8 16 law.num law.den=true:=hl;have h1:0<=rest*Rat.divInt law.num law.den:=Rat.mul_nonneg g4 l1;have h2:rest*Rat.divInt law.num law.den<=rest:=by
  have:=Rat.mul_le_mul_of_nonneg_left l2 g4;grind
 have jL:∃d:Nat,0<d/\d<=16/\IsN d (Rat.divInt law.num law.den):=by
  exact M4
 obtain⟨d,d0,d1,CB⟩:=jL;have hN:=zkc g3 CB;exact⟨h1,h2,zbx h1 g1,zc6 (n:=720720*d) Mcy Mcy (zcG hN fun p hp=>zkY (g2 p hp)),zc9 (n:=720720*d) Mcy Mcy hN h1 Mc0,zc9 (n:=720720*d) Mcy Mcy (zgQ (zkY g3) hN) Mc0 Mc0⟩
structure WillSt (out:Parts) (rest:Rat) (l:Parts) (L:List ByteArray):Prop where
 good:GoodParts out
 isN:∀p∈out,IsN 720720 p.2
 rN:IsN 720720 rest
 names:zci out L
 sum:sumQ out+rest=1
 left:sumQ l<=rest
 pos:∀p∈l,0<p.2
 lN:∀p∈l,IsN 720720 p.2
theorem WillSt.bounds{out:Parts}{rest:Rat}{l:Parts}{L:List ByteArray}(h:WillSt out rest l L):0<=rest/\rest<=1/\0<=sumQ out/\sumQ out<=1/\zaI rest/\zaE out=false:=by
 have h1:0<=sumQ l:=zbr fun p hp=>by have:=h.pos p hp;grind
 have h2:0<=sumQ out:=zbr fun p hp=>by have:=h.good.pos p hp;grind
 have h3:=h.left;have h4:=h.sum;have h5:0<=rest:=Mc0;have h6:rest<=1:=Mc0;exact⟨h5,h6,h2,by grind,zc9 McA McA h.rN h5 h6,zc6 McA McA h.isN⟩
theorem WillSt.hd{out:Parts}{rest:Rat}{l:Parts}{L:List ByteArray}(h:WillSt out rest l L):Hd out L:=⟨h.good,h.bounds.2.2.2.2.2,h.names⟩
theorem WillSt.give{out:Parts}{rest:Rat}{n:ByteArray}{q:Rat}{l:Parts}{L:List ByteArray}(h:WillSt out rest ((n,q)::l) L)(hn:n∈L):WillSt (za3 out n q) (rest-q) l L:=by
 have hq:=h.pos (n,q) McB;have hN:=h.lN (n,q) McB;have hs:=h.left;rw[sumQ]at hs;simp only at hq hN hs;exact⟨zbx Mc0 h.good,zcG hN h.isN,zgQ h.rN hN,ziV h.names hn,by rw[zbV];have:=h.sum;grind,by grind,fun p hp=>h.pos p Mdw,fun p hp=>h.lN p Mdw⟩
theorem WillSt.skip{out:Parts}{rest:Rat}{x:ByteArray×Rat}{l:Parts}{L:List ByteArray}(h:WillSt out rest (x::l) L):WillSt out rest l L:=by
 have hq:=h.pos x McB;have hs:=h.left;rw[sumQ]at hs;exact⟨h.good,h.isN,h.rN,h.names,h.sum,by grind,fun p hp=>h.pos p Mdw,fun p hp=>h.lN p Mdw⟩
def zkK(w:World)(R:Option Parts)(e:Ending)(w':World):Prop:=
 ∃(A:Option Addr) (c:Nat) (xs:Parts) (b:Bool),e=.returned (.tuple #[.slice A xs.length c,.bool b])/\Sl w' 3 zaa A xs/\Below w.heap.size w w'/\xs.length<=100000/\((R=some xs/\b=false)\/(R=none/\b=true))
theorem znv(laws:List Law)(s:St)(wd rd:List Deed)(LA CA MA DA WA RA GA:Option Addr)(c0 c1 c2 c3 c4 c5 c6:Nat)(n:ByteArray)(day:Int)(w:World)(h:StIn w laws s wd rd LA CA MA DA WA RA GA c0 c1 c2 c3 c4 c5 c6)(hk:StLink s wd rd)(hf:StFew s wd rd)(bz:zaD laws=0)(hW:WillOk (zbw s n))(pE:∀a,¬Desc s a a)(cG:(zbw s n).length<=8):
 Calls Tryz.prog 173 #[.agg #[.slice LA laws.length c0,.slice CA s.children.length c1,.slice MA s.marriages.length c2,.slice DA s.dead.length c3,.slice WA wd.length c4,.slice RA rd.length c5,.slice GA s.graves.length c6],.string n,.int .i64 day] w (zkK w (zcK s (zba laws day) n)):=by
 have xk:laws.length<=10:=by
  unfold zaD at bz;split at bz
  ·cases bz
  ·rename_i h1;simpa using h1
 have qy:=zHi (fun W (hB:Below w.heap.size w W)=>zpi laws LA c0 day W xk (h.laws.keep hB));have bA:=zeW bz day;obtain⟨R,hR⟩:∃R,R=zcK s (zba laws day) n:=⟨_,rfl⟩
 rw[<-hR];unfold Law.v at qy;generalize zba laws day=law at*;obtain⟨L,hL⟩:∃L:List ByteArray,L=(zfV wd n).map (·.name)++s.children.map (·.2)++[zaG s n,⟨#[]⟩]:=⟨_,rfl⟩
 have F9:∀p∈zfV wd n,p.name∈L:=fun p hp=>by rw[hL];exact List.mem_append_left _ (List.mem_append_left _ (List.mem_map_of_mem hp))
 have F6:∀c∈s.children,c.2∈L:=fun c hc=>by rw[hL];exact List.mem_append_left _ (List.mem_append_right _ (List.mem_map_of_mem hc))
 have F8:zaG s n∈L:=by rw[hL];exact List.mem_append_right _ McB
 have vP:(⟨#[]⟩:ByteArray)∈L:=by rw[hL];exact List.mem_append_right _ McB
 have xw:(zfV wd n).length<=8:=by
  have:=cG;rw[ziX hk]at this;simpa[zao]using this
 have tF:L.length<=90000:=by
  rw[hL];have:=hf.kids;simp;omega
 have xu:∀p∈zfV wd n,za8 16 p.num p.den=true:=by
  unfold zfV;intro p hp;cases oD:wd.reverse.find? fun d=>zae d.frm n with
  |none=>rw[oD]at hp;simp at hp
  |some d=>
   rw[oD]at hp;exact hk.shares d (by have:=List.mem_of_find?_eq_some oD;simpa using this) p hp
 obtain⟨d9,qI,fw,ib,qP⟩:=yH5 (fun W (hB:Below w.heap.size w W)=>zhh laws s wd rd LA CA MA DA WA RA GA c0 c1 c2 c3 c4 c5 c6 law n hk hf (zaW s) n W (h.keep hB) (zkz pE n)) (fun share A c out W (hB:Below w.heap.size w W)=>ziW laws s wd rd LA CA MA DA WA RA GA c0 c1 c2 c3 c4 c5 c6 law n L hk hf F6 tF (zaW s) n share A c out W (h.keep hB) (zkz pE n)) (fun x W (hB:Below w.heap.size w W)=>sAble x n W (h.keep hB) hk hf) (fun W (hB:Below w.heap.size w W)=>znt n W (h.keep hB) hf) (fun W (hB:Below w.heap.size w W)=>h.wills.keep zcc hB);have fF:=zgB s law.stems n (zaW s) n;rw[ziX hk]at hW;have Bt:Hid (WillSt [] 1 (zao (zfV wd n)) L):=zHi ⟨zd6,by simp,zgR _,fun p hp=>by(cases hp),by simp[sumQ];grind,hW.le,hW.pos,hW.isN⟩;unfold zcK at hR;rw[ziX hk]at hR;obtain⟨Z,hZ⟩:∃Z,Z=zcp s n (zao (zfV wd n)) [] 1:=⟨_,rfl⟩
 rw[<-hZ]at hR;obtain⟨HZ,HR,AR,ew,gK,dP,vt,lL⟩:=yH8 hZ hR xu F9 bA (show LA=LA/\zaG s n∈L/\(⟨#[]⟩:ByteArray)∈L/\L.length<=90000 from⟨rfl,F8,vP,tF⟩) xw fF;have qq:=zHi hf.wills;unfold Law.v at d9 qI;unfold zaA at qI;unfold zkK;clear bz hW pE cG xk bA hR hL F9 F6 F8 vP xw tF xu fF hZ h hf hk;generalize zd2 s law.stems n (zaW s) n=ls at*;generalize zb2 s law.stems n (zaW s) n=T at*;generalize oM:zfV wd n=lw at*;have AQ:=zHi oM.symm;clear oM;go_enter Tryz.func173,Tryz.ntmps173
 go_upto_block 0 with(first
  |(go_at_call 188;go_must(refine(qy.o _ Bw).mono ?_);rintro e wq ⟨rfl,z1,rfl⟩)
  |(go_at_call 139;go_must(refine(zhM _).mono ?_);rintro e wq ⟨rfl,z2,rfl⟩))
 obtain⟨LB,tE⟩:∃LB,LB=w.heap.size+1+z1.os.size:=⟨_,rfl⟩
 obtain⟨QB,rp⟩:∃QB,QB=LB+1+z2.os.size:=⟨_,rfl⟩
 obtain⟨W2,bP⟩:∃W2,W2=((((w.alloc (.cells #[.slice LA laws.length c0,.slice CA s.children.length c1,.slice MA s.marriages.length c2,.slice DA s.dead.length c3,.slice WA wd.length c4,.slice RA rd.length c5,.slice GA s.graves.length c6] 44)).ext z1).alloc (.cells #[.int .i64 law.frm,.bool law.stems,.int .i64 law.num,.int .i64 law.den] 109)).ext z2).alloc (.cells #[.int .i64 1,.int .i64 1] 31):=⟨_,rfl⟩
 have g0:W2.heap[w.heap.size]?=some (.cells #[.slice LA laws.length c0,.slice CA s.children.length c1,.slice MA s.marriages.length c2,.slice DA s.dead.length c3,.slice WA wd.length c4,.slice RA rd.length c5,.slice GA s.graves.length c6] 44):=by rw[bP];exact zal (zbD (zal (zbD (zar _ _ _ rfl))))
 have g1:W2.heap[LB]?=some (.cells #[.int .i64 law.frm,.bool law.stems,.int .i64 law.num,.int .i64 law.den] 109):=by rw[bP];exact zal (zbD (zar _ _ _ (by rw[tE];simp[zaf])))
 have g2:W2.heap[QB]?=some (.cells #[.int .i64 ((1:Rat)).num,.int .i64 ((1:Rat)).den] 31):=by rw[bP];exact zar _ _ _ (by rw[rp,tE];simp[zaf])
 have bG:Below w.heap.size w W2:=by rw[bP];exact Bw
 rw[<-bP,<-tE,<-rp];have gC:w.heap.size<LB:=Mcy;have cL:LB<QB:=Mcy;have fu:=zab g2;obtain⟨aJ,gH⟩:=yH2 bG g2
 have av:=zHi (fun W (hB:Below QB W2 W)=>(show(W.cell? ⟨w.heap.size,0,none⟩=some (.slice LA laws.length c0)/\W.cell? ⟨w.heap.size,1,none⟩=some (.slice CA s.children.length c1)/\W.cell? ⟨w.heap.size,2,none⟩=some (.slice MA s.marriages.length c2)/\W.cell? ⟨w.heap.size,3,none⟩=some (.slice DA s.dead.length c3)/\W.cell? ⟨w.heap.size,4,none⟩=some (.slice WA wd.length c4)/\W.cell? ⟨w.heap.size,5,none⟩=some (.slice RA rd.length c5)/\W.cell? ⟨w.heap.size,6,none⟩=some (.slice GA s.graves.length c6))/\(W.cell? ⟨LB,0,none⟩=some (.int .i64 law.frm)/\W.cell? ⟨LB,1,none⟩=some (.bool law.stems)/\W.cell? ⟨LB,2,none⟩=some (.int .i64 law.num)/\W.cell? ⟨LB,3,none⟩=some (.int .i64 law.den)) from by
  have x0:=(hB.block _ Mcy).trans g0;have x1:=(hB.block _ cL).trans g1
  refine⟨zaF x0,?_,?_,?_,?_⟩<;>(simp only[World.cell?,x1];rfl)))
 clear bP tE rp g0 g1 g2 bG qy;obtain⟨⟨d0,d1,d2,d3,d4,d5,d6⟩,e0,e1,e2,e3⟩:=av.o W2 (Below.refl _ _);have s7:=qq.o;go_cut [10,11,12,13]from 25 to 71 (fun v10 _ _ _ wc=>∃(YA:Option Addr) (yc:Nat) (ys:Parts) (q:Rat),v10=.slice YA ys.length yc/\Hid (Z=(ys,q))/\Hid (WillSt ys q [] L)/\Sl wc 3 zaa YA ys/\wc.heap[QB]?=some (.cells #[.int .i64 (q).num,.int .i64 (q).den] 31)/\Below QB W2 wc)
 case first=>
  go_wp2_with fail
  go_loopw [10,11,12,13] (fun v10 v11 _ _ wr=>∃(j:Nat) (i:Int),j<=wd.length/\v10=.slice none 0 0/\v11=.int .i64 i/\i=(j:Int)-1/\Hid (lw=zfV (wd.take j) n)/\W2=wr) (fun _ v11 _ _ _=>(intOf v11+1).toNat)
  case atStart=>exact⟨wd.length,(wd.length:Int)-1,Nat.le_refl _,rfl,by first|go_num|rw[wrap_m s7],rfl,zHi (by rw[List.take_length];exact AQ.o),rfl⟩
  case round=>
   obtain⟨j,i,hj,rfl,rfl,hi,HJ,rfl⟩:=hrel;cases j with
   |zero=>
    have tU:i= -1:=Mcy;subst tU;have sw:lw=[]:=by rw[HJ.o,List.take_zero];rfl
    have BC:Hid (Z=([],1)):=by show _=_;rw[HZ.o,sw];rfl
    have IO:Hid (WillSt [] 1 [] L):=by have:=Bt;rw[sw]at this;exact this
    clear sw hi;go_wp2_with fail
    go_meet
    exact⟨none,0,[],1,rfl,BC,IO,Sl.nil,gH.o,Below.refl _ _⟩
   |succ m=>
    have tU:i=(m:Int):=Mcy;subst tU;obtain⟨b,off,cs,hA,hb,⟨B,c,hc,rfl,hP⟩,ah⟩:=(qP.o w (Below.refl _ _)).at (k:=m) hj;have aq:=HJ.o;rw[zpp hj]at aq;generalize wd[m]=x at*;subst hA;have bk:b<W2.heap.size:=Nat.lt_of_lt_of_le hb aJ.o.size;have i3:W2.cell? ⟨b,off+m*7+3,none⟩=some (.string x.frm):=(zah aJ.o hb).trans (ah 3 _ rfl);have i4:w.cell? ⟨b,off+m*7+4,none⟩=some (.slice B x.to.length c):=ah 4 _ rfl;have fG:(m:Int)<(wd.length:Int):=Mcy;have nK:(0:Int)<=(m:Int):=Mcy;obtain⟨Ij,HP⟩:=yH2 hj hP;obtain⟨kd,dy,pl,fr,ts,cl,yr⟩:=x;simp only at i3 i4 hc aq HP;clear ah hi hj hP;cases hs:zae fr n
    ·have bn:(fr.toList==n.toList)=false:=hs;have aB:Hid (lw=zfV (wd.take m) n):=by show _=_;rw[aq,hs];rfl
     clear aq hs;go_wp2_with fail
     go_round
     case rel=>exact⟨m,(m:Int)-1,by have:=Ij.o;omega,rfl,by go_num,rfl,aB,by first|exact True.intro|rfl⟩
     case measure=>simp only[intOf];omega
    ·have bn:(fr.toList==n.toList)=true:=hs;have D8:ts=lw:=by rw[aq,hs];rfl
     clear aq hs;subst D8;have hts:ts.length<=8:=vt.o;go_upto_region 9 with fail
     go_loopw [10,12,13] (fun v10 v12 _ wr=>∃(k:Nat) (ys:Parts) (q:Rat),k<=ts.length/\v12=.int .i64 k/\Hid (Z=zcp s n (zao (ts.drop k)) ys q)/\Hid (WillSt ys q (zao (ts.drop k)) L)/\OwnS wr QB 71 3 zaa v10 ys/\wr.heap[QB]?=some (.cells #[.int .i64 (q).num,.int .i64 (q).den] 31)/\Below QB W2 wr) (fun _ v12 _ _=>ts.length-(intOf v12).toNat)
     case atStart=>exact⟨0,[],1,Nat.zero_le _,rfl,HZ,Bt,OwnS.nil,gH.o,Below.refl _ _⟩
     case round=>
      obtain⟨k,ys,q,hk,rfl,HX,Eu,aa,hQ,hB⟩:=hrel;obtain⟨YA,yc,rfl,rE,ul⟩:=aa.sl zap;have fj:Below w.heap.size w wr:=aJ.o.trans (hB.mono Mcy);have aG:=fj.size;have Gn:=zab hQ;obtain⟨⟨d0,d1,d2,d3,d4,d5,d6⟩,e0,e1,e2,e3⟩:=av.o wr hB;have j4:wr.cell? ⟨b,off+m*7+4,none⟩=some (.slice B ts.length c):=(zah fj hb).trans i4;obtain⟨b8,HB,dH⟩:=yH3 fj hB aa;by_cases ae:k<ts.length
      ·obtain⟨pb,po,lW,hpb,oR⟩:=(HP.o.keep fj).at ae;have hx:=HX.o;have kC:=Eu.o;have gy:zao (ts.drop k)=(ts[k].name,ts[k].rat)::zao (ts.drop (k+1)):=by rw[List.drop_eq_getElem_cons ae];rfl
       rw[gy,zcp]at hx;rw[gy]at kC;have kw:=AR.o _ (List.getElem_mem ae);have oP:=ew.o _ (List.getElem_mem ae);have ak:=zHi ae;generalize ts[k]=x at*;obtain⟨nm,nu,de⟩:=x;simp only at kw oP hx kC;subst lW;have p0:wr.cell? ⟨pb,po+k*3,none⟩=some (.string nm):=oR 0 _ rfl;have p1:wr.cell? ⟨pb,po+k*3+1,none⟩=some (.int .i64 nu):=oR 1 _ rfl;have p2:wr.cell? ⟨pb,po+k*3+2,none⟩=some (.int .i64 de):=oR 2 _ rfl;have ar:(k:Int)<(ts.length:Int):=Mcy;have aQ:(0:Int)<=(k:Int):=Mcy;have mS:(⟨nm,nu,de⟩:RPart).rat=Rat.divInt nu de:=rfl;rw[mS]at hx kC;obtain⟨r1,r2,r3,r4⟩:=zbm kw;have Ae:=zc9 McA McA (zel kw) r3 r4;obtain⟨b1,b2,b3,b4,b5,b6⟩:=kC.bounds;generalize Rat.divInt nu de=r at*;have dL:=zgD kC.good kC.names;obtain⟨eo,eH⟩:=yH2 (fun W (hW:Below wr.heap.size wr W)=>zcT ys nm r YA yc W (by have:=dP.o.2.2.2;omega) (kC.hd.parts b4) Ae (rE.keep hW)) (fun W=>zhI q r W b5 Ae);unfold zaA at eo eH;rw[r1,r2]at eo eH;obtain⟨kD,au,ol,AY⟩:=yH4 (fun W (hW:Below wr.heap.size wr W)=>fw.o nm W (b8.o.trans (hW.mono aG))) hx kC oP;have hqB:QB<wr.heap.size:=Gn;have HQ:=zHi hQ;clear oR hx kC gy kw oP mS r1 r2 r3 r4 Ae b1 b2 b3 b4 b5 b6 dL aa rE hB fj ae hQ;go_upto_region 12 with fail
       obtain⟨WP,zG⟩:∃WP,WP=wr.alloc (.cells #[.string nm,.int .i64 nu,.int .i64 de] 71):=⟨_,rfl⟩
       have gP:WP.heap[wr.heap.size]?=some (.cells #[.string nm,.int .i64 nu,.int .i64 de] 71):=by rw[zG];exact zar _ _ _ rfl
       have vD:Below wr.heap.size wr WP:=by rw[zG];exact Bw
       rw[<-zG];have sX:=zHi vD;have ei:=vD.size;have iN:=zab gP;obtain⟨s0,s1,s2⟩:WP.cell? ⟨wr.heap.size,0,none⟩=some (.string nm)/\WP.cell? ⟨wr.heap.size,1,none⟩=some (.int .i64 nu)/\WP.cell? ⟨wr.heap.size,2,none⟩=some (.int .i64 de):=by
        simp only[World.cell?,gP];exact⟨rfl,rfl,rfl⟩
       obtain⟨⟨x0,x1,x2,x3,x4,x5,x6⟩,_⟩:=av.o WP (HB.o.trans (vD.mono Mcy));have hqW:QB<WP.heap.size:=Mcy;obtain⟨GQ,GP⟩:=yH2 ((vD.block _ Gn).trans HQ.o) gP;clear zG gP vD d0 d1 d2 d3 d4 d5 d6 e0 e1 e2 e3 j4 p0 p1 p2;cases cI:zdT s nm n
       ·rw[cI]at kD au;have eL:Hid (Z=zcp s n (zao (ts.drop (k+1))) ys q):=MdP;clear cI;go_wp2_with (go_at_call 189;go_must(refine(kD.o _ (by have:=sX.o;exact Bw)).mono ?_);rintro e wq ⟨rfl,z,rfl⟩)
        go_round
        case rel=>exact⟨k+1,ys,q,ak.o,by go_num,eL,zHi ol.o.skip,(dH.o.keep sX.o).keep (n:=WP.heap.size) (zaq WP z),zbD GQ.o,zbv (HB.o.trans (sX.o.mono Mcy)) z⟩
        case measure=>have:=ak.o;simp only[intOf];omega
       ·rw[cI]at kD au;have eL:Hid (Z=zcp s n (zao (ts.drop (k+1))) (za3 ys nm r) (q-r)):=MdP;have Bu:=zHi (ol.o.give AY.o);clear cI
        go_upto_region 14 with(first
         |(go_at_call 189;go_must(refine(kD.o _ (by have:=sX.o;exact Bw)).mono ?_);rintro e wq ⟨rfl,z,rfl⟩)
         |(go_at_call 166;go_must(refine(eo.o _ (by have:=sX.o;exact Bw)).mono ?_);rintro e w5 ⟨v5,rfl,o5,b5⟩))
        obtain⟨YB,yd,rfl,_,_⟩:=o5.sl zap;have GH:=b5.size;have tw:=(b5.block QB McH).trans (zbD (z:=z) GQ.o);have BF:=(b5.block wr.heap.size McH).trans (zbD (z:=z) GP.o);have aR:=zHi (HB.o.trans ((zbv sX.o z |>.trans (b5.mono McH)).mono Mcy));have kO:=zHi (o5.base_le (show QB<=(WP.ext z).heap.size by simp[zaf];omega));have h5l:=zab BF;have h5m:=zab tw;obtain⟨y0,y1⟩:=zbt tw;have f0:=frz tw;obtain⟨-,s1,s2⟩:=cF3 BF;clear o5 b5 BF GH;go_wp2_with (go_at_call 169;go_must(refine(eH.o _).mono ?_);rintro e wq ⟨rfl,z5,rfl⟩)
        go_round
        case rel=>exact⟨k+1,za3 ys nm r,q-r,ak.o,by go_num,eL,Bu,((kO.o.kept (zav _ _ _ _) tw McA).kept (zav _ _ _ _) (Joins.block_setCell (i:=0) tw _) McA).keep (zaq _ z5),zbD (zek tw),zbv (zaP (zaP aR.o (Nat.le_refl _) _) (Nat.le_refl _) _) z5⟩
        case measure=>have:=ak.o;simp only[intOf];omega
      ·have ar:¬(k:Int)<(ts.length:Int):=Mcy;have hx:=HX.o;have kC:=Eu.o;rw[List.drop_of_length_le Mcy]at hx kC;have au:Hid (Z=(ys,q)):=Mea;obtain⟨ol,qT,HQ⟩:=yH3 kC rE hQ;clear hx kC aa rE hQ hB fj;go_wp2_with fail
       go_meet
       exact⟨YA,yc,ys,q,rfl,au,ol,qT.o,HQ.o,HB.o⟩
 case rest=>
  obtain⟨YA,yc,ys,q,rfl,IU,lT,hY,hQ,hB⟩:=hcut;clear d0 d1 d2 d3 d4 d5 d6 e0 e1 e2 e3;have hr:=HR.o;rw[IU.o]at hr;simp only at hr;obtain⟨b1,b2,b3,b4,b5,b6⟩:=lT.o.bounds;have sU:=zgD lT.o.good lT.o.names;have sV:ys.length<=90000:=by have:=dP.o.2.2.2;omega
  have fj:Below w.heap.size w wc:=aJ.o.trans (hB.mono Mcy);obtain⟨q0,q1⟩:=zbt hQ;have Dg:=zab hQ;obtain⟨Ft,kS,b8⟩:=yH3 hY sV fj;by_cases hqz:q=0
  ·have Di:(q.num==0)=true:=by rw[hqz];rfl
   have ck:Hid (R=some ys):=by show _=_;rw[hr,if_pos (by simpa using hqz)]
   clear hr hqz b1 b2 b3 b4 b5 b6 sU sV hB hY fj;go_wp2_with fail
   go_ret2
   exact⟨YA,yc,ys,false,rfl,Ft.o,b8.o,by have:=kS.o;omega,.inl ⟨ck.o,rfl⟩⟩
  ·have Di:(q.num==0)=false:=by
    have:q.num≠0:=fun e=>hqz (Rat.num_eq_zero.1 e)
    simpa using this
   rw[if_neg (by simpa using hqz)]at hr;obtain⟨sp,bU⟩:∃sp,sp=if zdT s (zaG s n) n then zaG s n else⟨#[]⟩:=⟨_,rfl⟩
   rw[<-bU]at hr;have ym:sp∈L:=by
    rw[bU];split
    ·exact dP.o.2.1
    ·exact dP.o.2.2.1
   obtain⟨ny,aA,bF,Bl,Bj,bY,kD⟩:=yH7 hB (show 0<=q/\q<=1/\zaI q from⟨b1,b2,b5⟩) hr ym bU (fun W (hW:Below wc.heap.size wc W)=>ib.o W (fj.trans (hW.mono fj.size))) (fun x W (hW:Below wc.heap.size wc W)=>fw.o x W (fj.trans (hW.mono fj.size)));obtain⟨⟨d0,d1,d2,d3,d4,d5,d6⟩,e0,e1,e2,e3⟩:=av.o wc hB;have Le:w.heap.size<wc.heap.size:=Mcy;have Lf:LB<wc.heap.size:=Mcy;have HQ:=zHi hQ;clear hr hqz b1 b2 b3 b4 b5 b6 sU sV hB hY fj bU ym hQ;obtain⟨WC,tL⟩:∃WC,WC=wc:=⟨_,rfl⟩
   subst tL;go_upto_region 18 with(go_at_call 20;go_must(refine(bY.o _ Bw).mono ?_);rintro e wq ⟨rfl,z3,rfl⟩)
   have ky:=Bj.o;have DM:=zHi (fun W hW=>kD.o (zaG s n) W hW);generalize zaG s n=sq at*;go_upto_if 83 with(go_at_call 189;go_must(refine(DM.o _ Bw).mono ?_);rintro e wq ⟨rfl,z4,rfl⟩)
   go_cut [14]from 79 to 84 (fun v wc=>v=.string sp/\(WC.ext z3).ext z4=wc)
   case first=>
    cases cI:zdT s sq n
    ·rw[cI]at ky;simp only[Bool.false_eq_true,if_false]at ky;exact MbG
    ·rw[cI]at ky;simp only[if_true]at ky;exact MbG
   case rest=>
    obtain⟨rfl,rfl⟩:=hcut;obtain⟨WD,Cg⟩:∃WD,WD=(WC.ext z3).ext z4:=⟨_,rfl⟩
    have dl:Below WC.heap.size WC WD:=by rw[Cg];exact Bw
    rw[<-Cg];clear Cg d0 d1 d2 d3 d4 d5 d6 e0 e1 e2 e3 q0 q1 ky DM bY kD;have JS:=dl.size;have gQ:=(dl.block QB Dg).trans HQ.o;have cv:=ny.o.trans (dl.mono Mcy);have bk:=b8.o.trans (dl.mono b8.o.size);obtain⟨⟨d0,d1,d2,d3,d4,d5,d6⟩,e0,e1,e2,e3⟩:=av.o WD cv;obtain⟨q0,q1⟩:=zbt gQ;have Gl:=zab gQ;obtain⟨jU,Ey,dh,qP,kP,GQ⟩:=yH6 (fun W (hW:Below WD.heap.size WD W)=>d9.o W (bk.trans (hW.mono bk.size))) (Ft.o.keep dl) cv bk (lT.o.hd.parts lT.o.bounds.2.2.2.1) gQ;clear dl gQ cv bk;by_cases hlz:ls.length=0
    ·have dL:((ls.length:Int)==0)=true:=by rw[hlz];rfl
     have ck:Hid (R=some (za3 ys sp q)):=by
      show _=_;have hT:T=[]:=List.eq_nil_of_length_eq_zero (by rw[lL.o];exact hlz);rw[bF.o,hT];rfl
     obtain⟨eo,qt⟩:=yH2 (fun W (hW:Below WD.heap.size WD W)=>zcT ys sp q YA yc W (by have:=kS.o;omega) kP.o aA.o.2.2 (Ey.o.keep hW)) (zcx sp q ys);generalize za3 ys sp q=gv at*;unfold zaA at eo;clear hlz;go_upto_region 21 with(go_at_call 190;go_must(refine(jU.o _ Bw).mono ?_);rintro e w6 ⟨v6,rfl,o6,b6⟩;obtain⟨KA,kc,rfl,_,_⟩:=o6.sl za9;clear o6)
     have qU:=b6.size;have sH:=(b6.block QB Gl).trans GQ.o;obtain⟨x0,x1⟩:=zbt sH;have bj:=zHi b6;clear d0 d1 d2 d3 d4 d5 d6 e0 e1 e2 e3 q0 q1 sH b6;go_wp2_with (go_at_call 166;go_must(refine(eo.o _ bj.o).mono ?_);rintro e w7 ⟨v7,rfl,o7,b7⟩;obtain⟨GV,gc,rfl,aI,_⟩:=o7.sl zap;obtain⟨dC,cj⟩:=yH2 aI (bj.o.trans (b7.mono qU));clear o7 b7 aI)
     go_ret2
     exact⟨GV,gc,gv,false,rfl,dC.o,qP.o.trans (cj.o.mono qP.o.size),by have:=kS.o;have:=qt.o;omega,.inl ⟨ck.o,rfl⟩⟩
    ·have dL:((ls.length:Int)==0)=false:=by
      have:(ls.length:Int)≠0:=by omega
      simpa using this
     have hT:¬T.isEmpty=true:=by
      intro e;rw[List.isEmpty_iff]at e;have:=lL.o;rw[e]at this;exact hlz this.symm
     obtain⟨own,out2,aa,cm,xU⟩:∃(own:Rat) (out2:Parts),own=(if noB sp=true then 0 else q*Rat.divInt law.num law.den)/\out2=(if noB sp=true then ys else za3 ys sp own)/\R=if(q-own==0)=true then some out2 else zeG (q-own) T out2:=
      ⟨_,_,rfl,rfl,by
        rw[bF.o,if_neg hT];unfold zeG
        rw[<-zh0]⟩
     obtain⟨k1,k2,k3,k4,k5,k6⟩:=own_key sp gK.o lT.o.good lT.o.isN lT.o.rN aA.o.1 aA.o.2.1
     have AK:Hid (Hd out2 L/\0<=q-own/\q-own<=1/\zaI (q-own)/\sumQ out2+(q-own)=1/\out2.length<=90001):=zHi (by
      have dO:=lT.o.sum;cases hn:noB sp
      ·rw[hn]at aa cm;simp only[Bool.false_eq_true,if_false]at aa cm;rw[cm,aa];refine⟨⟨k3,k4,ziV lT.o.names Bl.o⟩,by grind,by have:=aA.o.2.1;grind,k6,by rw[zbV];grind,?_⟩;have:=zcx sp (q*Rat.divInt law.num law.den) ys;have:=kS.o;omega
      ·rw[hn]at aa cm;simp only[if_true]at aa cm;rw[cm,aa];have e:q-0=q:=Mc0;rw[e]
       exact⟨lT.o.hd,aA.o.1,aA.o.2.1,aA.o.2.2,dO,by have:=kS.o;omega⟩)
     obtain⟨iY,dH,Ed,uN⟩:=yH4 xU aa cm (show 0<ls.length/\zaI (q*Rat.divInt law.num law.den) from⟨by omega,k5⟩);clear hlz hT aa cm xU k1 k2 k3 k4 k5 k6;go_upto_region 22 with(go_at_call 190;go_must(refine(jU.o _ Bw).mono ?_);rintro e w6 ⟨v6,rfl,o6,b6⟩;obtain⟨KA,kc,rfl,_,_⟩:=o6.sl za9;clear o6)
     have qU:=b6.size;have sH:=(b6.block QB Gl).trans GQ.o;have rP:=dh.o.trans (b6.mono Mcy);have Fu:=Ey.o.keep b6;clear d0 d1 d2 d3 d4 d5 d6 e0 e1 e2 e3 q0 q1;obtain⟨bj,Eg,Ex⟩:=yH3 rP sH Fu;have J0:=zab sH;obtain⟨⟨d0,d1,d2,d3,d4,d5,d6⟩,e0,e1,e2,e3⟩:=av.o w6 rP;obtain⟨q0,q1⟩:=zbt sH;have h6l:LB<w6.heap.size:=Mcy;clear b6 sH rP Fu;go_upto_if 96 with fail
     go_cut [10,15]from 95 to 107 (fun v10 _ wc=>∃(ZA:Option Addr) (zc:Nat),v10=.slice ZA out2.length zc/\Sl wc 3 zaa ZA out2/\wc.heap[QB]?=some (.cells #[.int .i64 (q-own).num,.int .i64 (q-own).den] 31)/\Below QB W2 wc)
     case first=>
      cases hn:noB sp
      ·have w2:¬sp.toList=[]:=by simpa using(show sp.toList.isEmpty=false from hn)
       have y2:sp.toList.isEmpty=false:=hn;have y3:(!sp.toList.isEmpty)=true:=by rw[y2];rfl
       rw[y3];have aa:=dH.o;have cm:=Ed.o;rw[hn]at aa cm;simp only[Bool.false_eq_true,if_false]at aa cm;obtain⟨r1,r2,r3,r4⟩:=zbm gK.o;have nI:=uN.o.2;rw[<-aa]at nI;obtain⟨iW,eH,eo⟩:=yH3 (fun W=>zg1 q (Rat.divInt law.num law.den) W aA.o.2.2 (zc9 McA McA (zel gK.o) r3 r4)) (fun W=>zhI q own W aA.o.2.2 nI) (fun W (hW:Below w6.heap.size w6 W)=>zcT ys sp own YA yc W (by have:=kS.o;omega) kP.o nI (Ex.o.keep hW));rw[<-aa]at iW;rw[<-cm]at eo;unfold zaA at iW eH eo;rw[r1,r2]at iW;clear hn aa cm r1 r2 r3 r4 nI;go_upto_region 24 with(go_at_call 168;go_must(refine(iW.o _).mono ?_);rintro e wq ⟨rfl,z6,rfl⟩)
       obtain⟨OB,jI⟩:∃OB,OB=w6.heap.size+z6.os.size:=⟨_,rfl⟩
       obtain⟨WO,zF⟩:∃WO,WO=(w6.ext z6).alloc (.cells #[.int .i64 (own).num,.int .i64 (own).den] 31):=⟨_,rfl⟩
       have gO:WO.heap[OB]?=some (.cells #[.int .i64 (own).num,.int .i64 (own).den] 31):=by rw[zF];exact zar _ _ _ (by rw[jI];simp[zaf])
       have Cq:Below w6.heap.size w6 WO:=by rw[zF];exact zad (zaq w6 z6) _
       rw[<-zF,<-jI];clear zF jI d0 d1 d2 d3 d4 d5 d6 e0 e1 e2 e3 q0 q1;obtain⟨o0,o1⟩:=zbt gO;have Js:=Cq.size;have vU:=zab gO;obtain⟨Aq,GO⟩:=yH2 Cq gO;clear gO Cq;go_upto_region 25 with(go_at_call 166;go_must(refine(eo.o _ (by have:=Aq.o;exact Bw)).mono ?_);rintro e w7 ⟨v7,rfl,o7,b7⟩)
       obtain⟨GV,gc,rfl,_,_⟩:=o7.sl zap;have EJ:=b7.size;have tx:=(b7.block QB Mcy).trans ((Aq.o.block QB J0).trans Eg.o);have BH:=(b7.block OB vU).trans GO.o;have cj:=zHi (bj.o.trans ((Aq.o.trans (b7.mono Js)).mono Mcy));have uV:=zHi (o7.base_le (show QB<=WO.heap.size by omega));have h7l:=zab BH;have h7m:=zab tx;obtain⟨y0,y1⟩:=zbt tx;obtain⟨y2,y3⟩:=zbt BH;have f0:=frz tx;clear o7 b7 BH o0 o1;go_wp2_with (go_at_call 169;go_must(refine(eH.o _).mono ?_);rintro e wq ⟨rfl,z5,rfl⟩)
       go_meet
       exact⟨GV,gc,rfl,(ziO zap (((uV.o.kept (zav _ _ _ _) tx McA).kept (zav _ _ _ _) (Joins.block_setCell (i:=0) tx _) McA).keep (zaq _ z5))).1,zbD (zek tx),zbv (zaP (zaP cj.o (Nat.le_refl _) _) (Nat.le_refl _) _) z5⟩
      ·have w2:sp.toList=[]:=by simpa using(show sp.toList.isEmpty=true from hn)
       have y2:sp.toList.isEmpty=true:=hn;have y3:(!sp.toList.isEmpty)=false:=by rw[y2];rfl
       rw[y3];have aa:=dH.o;have cm:=Ed.o;rw[hn]at aa cm;simp only[if_true]at aa cm;have Ax:Hid (q-own=q/\out2=ys):=zHi ⟨by rw[aa];grind,cm⟩;clear hn aa cm;go_wp2_with fail
       go_meet
       exact⟨YA,yc,by rw[Ax.o.2],by rw[Ax.o.2];exact Ex.o,by rw[Ax.o.1];exact Eg.o,bj.o⟩
     case rest=>
      obtain⟨ZA,zc,rfl,Ci,hQ,hB⟩:=hcut;clear d0 d1 d2 d3 d4 d5 d6 e0 e1 e2 e3 q0 q1;obtain⟨kk1,kk2,kk3,kk4,kk5,kk6⟩:=AK.o;have KX:=zab hQ;have bk:=aJ.o.trans (hB.mono Mcy);obtain⟨BD,qf⟩:=yH2 Ci bk;have Lg:w.heap.size<wc.heap.size:=Mcy;have Lh:LB<wc.heap.size:=Mcy;obtain⟨⟨d0,d1,d2,d3,d4,d5,d6⟩,e0,e1,e2,e3⟩:=av.o wc hB;obtain⟨q0,q1⟩:=zbt hQ;have Io:=zHi kk6;by_cases hz:q-own=0
      ·have mY:¬(0:Int)<(q-own).num:=by rw[hz];decide
       have ck:Hid (R=some out2):=by show _=_;rw[iY.o,if_pos MdD]
       have cS:=zHi (fun W (hW:Below wc.heap.size wc W)=>zdE out2 ZA zc W Mcy (BD.o.keep hW));rw[kk1.small]at cS;clear hz kk1 kk2 kk3 kk4 kk5 kk6 hB hQ Ci bk;go_wp2_with (go_at_call 170;go_must(refine(cS.o _ Bw).mono ?_);rintro e wq ⟨rfl,rfl⟩)
       go_ret2
       exact⟨ZA,zc,out2,false,rfl,BD.o,qf.o,by have:=Io.o;omega,.inl ⟨ck.o,rfl⟩⟩
      ·have GY:0<q-own:=Mc0;have mY:(0:Int)<(q-own).num:=zkv.1 GY;have Dn:R=zeG (q-own) T out2:=by rw[iY.o,if_neg MdD]
       have bY:=zHi (fun W (hW:Below wc.heap.size wc W)=>qI.o (q-own) ZA zc out2 W (bk.trans (hW.mono bk.size)) (BD.o.keep hW) kk1 kk2 kk4 Mc0 uN.o.1)
       have yM:Hid (∀xs,R=some xs->zaE xs=false):=zHi (fun xs hx=>by
        rw[Dn]at hx;unfold zeG at hx;split at hx
        ·cases hx
        ·exact(ze0 (Rat.mul_nonneg kk2 (zhH (by rw[lL.o];exact uN.o.1)).2.2.1) kk1.good kk1.small hx).2)
       rw[<-Dn]at bY;clear hz GY Dn kk1 kk2 kk3 kk4 kk5 kk6 hB hQ Ci bk;go_upto_region 28 with(go_at_call 191;go_must(refine(bY.o _ Bw).mono ?_);rintro e w8 ⟨XA,xc,xs,rfl,x1,x2,x3,x4⟩)
       obtain⟨cS,Ev,au,eL,ka⟩:=yH5 (fun W (hW:Below w8.heap.size w8 W)=>zdE xs XA xc W Mcy (x1.keep hW)) x1 (qf.o.trans (x2.mono qf.o.size)) x3 x4;clear x1 x2 x3 x4 d0 d1 d2 d3 d4 d5 d6 e0 e1 e2 e3 q0 q1;cases hlg:zaE xs
       ·rw[hlg]at cS;go_wp2_with (go_at_call 170;go_must(refine(cS.o _ (Below.refl _ _)).mono ?_);rintro e wq ⟨rfl,rfl⟩)
        go_ret2
        rcases ka.o with h|⟨h1,h2⟩
        ·exact⟨XA,xc,xs,false,rfl,Ev.o,au.o,eL.o,.inl ⟨h,rfl⟩⟩
        ·rw[hlg]at h2;cases h2
       ·rw[hlg]at cS;go_wp2_with (go_at_call 170;go_must(refine(cS.o _ (Below.refl _ _)).mono ?_);rintro e wq ⟨rfl,rfl⟩)
        go_ret2
        rcases ka.o with h|⟨h1,h2⟩
        ·have:=yM.o xs h;rw[hlg]at this;cases this
        ·exact⟨XA,xc,xs,true,rfl,Ev.o,au.o,eL.o,.inr ⟨h1,rfl⟩⟩

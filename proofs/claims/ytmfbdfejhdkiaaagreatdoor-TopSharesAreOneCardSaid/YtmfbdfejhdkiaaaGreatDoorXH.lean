/- Walk of the reference's renew. -/
import Derived.Test.YtmfbdfejhdkiaaaGreatDoorXA
import Derived.Test.YtmfbdfejhdkiaaaGreatDoorFU
set_option linter.all false
set_option maxRecDepth 100000
set_option maxHeartbeats 4000000
namespace Go.Proofs.YtmfbdfejhdkiaaaGreatDoor
open Go.RowKit Go.Shelf
attribute [local go_sem] World.cell?_alloc_mark zae za4 zao za8 zav zaw zax zay zaz za0 za1
attribute [local go_sem] zap zac
theorem zc8{n:Nat}{q:Rat}(h0:0<n)(h1:n<=1000000000)(h:IsN n q)(h2:0<=q)(h3:q<=1):zaL q:=zbZ h2 h3 (by
 have:=zkf h0 h;unfold bigQ;simp
 omega)
theorem wrap_m{k:Nat}(h:k<=1000):wrap64 ((k:Int)-1)=(k:Int)-1:=by
 unfold wrap64;omega
def zgl(wd:List Deed)(n:ByteArray):List RPart:=((wd.reverse.find? fun d=>zaf d.frm n).map (·.to)).getD []
theorem ziX{s:St}{wd rd:List Deed}(h:StLink s wd rd)(n:ByteArray):zbx s n=zan (zgl wd n):=by
 unfold zbx zgl;rw[h.wills,<-List.map_reverse,List.find?_map];have e:((fun w:ByteArray×Parts=>zaf w.1 n)∘fun d:Deed=>(d.frm,zan d.to))=fun d:Deed=>zaf d.frm n:=rfl
 rw[e];cases wd.reverse.find? fun d=>zaf d.frm n<;>rfl
theorem zpe{wd:List Deed}{n:ByteArray}{k:Nat}(h:k<wd.length):zgl (wd.take (k+1)) n=if zaf wd[k].frm n then wd[k].to else zgl (wd.take k) n:=by
 unfold zgl;rw[List.take_add_one,List.getElem?_eq_getElem h];simp only[Option.toList_some,List.reverse_append,List.reverse_singleton,List.singleton_append,List.find?_cons];cases zaf wd[k].frm n<;>rfl
theorem own_key{law:Law}{out:Parts}{rest:Rat}(sp:ByteArray)(hl:zaA 16 law.num law.den=true)(g1:GoodParts out)(g2:∀p∈out,IsN 720720 p.2)(g3:IsN 720720 rest)(g4:0<=rest)(g5:rest<=1):
 0<=rest*Rat.divInt law.num law.den/\rest*Rat.divInt law.num law.den<=rest/\GoodParts (za5 out sp (rest*Rat.divInt law.num law.den))/\zaG (za5 out sp (rest*Rat.divInt law.num law.den))=false/\
  zaL (rest*Rat.divInt law.num law.den)/\zaL (rest-rest*Rat.divInt law.num law.den):=by
 obtain⟨_,_,l1,l2⟩:=zbl hl;have hd:zaA 16 law.num law.den=true:=hl;have h1:0<=rest*Rat.divInt law.num law.den:=Rat.mul_nonneg g4 l1;have h2:rest*Rat.divInt law.num law.den<=rest:=by
  have:=Rat.mul_le_mul_of_nonneg_left l2 g4;grind
 have jU:∃d:Nat,0<d/\d<=16/\IsN d (Rat.divInt law.num law.den):=by
  exact M9
 obtain⟨d,d0,d1,DS⟩:=jU;have hN:=zkd g3 DS;exact⟨h1,h2,zbz h1 g1,zc5 (n:=720720*d) Mcq Mcq (zcF hN fun p hp=>zld (g2 p hp)),zc8 (n:=720720*d) Mcq Mcq hN h1 McN,zc8 (n:=720720*d) Mcq Mcq (zhd (zld g3) hN) McN McN⟩
structure WillSt (out:Parts) (rest:Rat) (l:Parts) (L:List ByteArray):Prop where
 good:GoodParts out
 isN:∀p∈out,IsN 720720 p.2
 rN:IsN 720720 rest
 names:zcl out L
 sum:sumQ out+rest=1
 left:sumQ l<=rest
 pos:∀p∈l,0<p.2
 lN:∀p∈l,IsN 720720 p.2
theorem WillSt.bounds{out:Parts}{rest:Rat}{l:Parts}{L:List ByteArray}(h:WillSt out rest l L):0<=rest/\rest<=1/\0<=sumQ out/\sumQ out<=1/\zaL rest/\zaG out=false:=by
 have h1:0<=sumQ l:=zbu fun p hp=>by have:=h.pos p hp;grind
 have h2:0<=sumQ out:=zbu fun p hp=>by have:=h.good.pos p hp;grind
 have h3:=h.left;have h4:=h.sum;have h5:0<=rest:=McN;have h6:rest<=1:=McN;exact⟨h5,h6,h2,by grind,zc8 Mcu Mcu h.rN h5 h6,zc5 Mcu Mcu h.isN⟩
theorem WillSt.hd{out:Parts}{rest:Rat}{l:Parts}{L:List ByteArray}(h:WillSt out rest l L):Hd out L:=⟨h.good,h.bounds.2.2.2.2.2,h.names⟩
theorem WillSt.give{out:Parts}{rest:Rat}{n:ByteArray}{q:Rat}{l:Parts}{L:List ByteArray}(h:WillSt out rest ((n,q)::l) L)(hn:n∈L):WillSt (za5 out n q) (rest-q) l L:=by
 have hq:=h.pos (n,q) Mcv;have hN:=h.lN (n,q) Mcv;have hs:=h.left;rw[sumQ]at hs;simp only at hq hN hs;exact⟨zbz McN h.good,zcF hN h.isN,zhd h.rN hN,ziR h.names hn,by rw[zbU];have:=h.sum;grind,by grind,fun p hp=>h.pos p Mds,fun p hp=>h.lN p Mds⟩
theorem WillSt.skip{out:Parts}{rest:Rat}{x:ByteArray×Rat}{l:Parts}{L:List ByteArray}(h:WillSt out rest (x::l) L):WillSt out rest l L:=by
 have hq:=h.pos x Mcv;have hs:=h.left;rw[sumQ]at hs;exact⟨h.good,h.isN,h.rN,h.names,h.sum,by grind,fun p hp=>h.pos p Mds,fun p hp=>h.lN p Mds⟩
def zkL(w:World)(R:Option Parts)(e:Ending)(w':World):Prop:=
 ∃(A:Option Addr) (c:Nat) (xs:Parts) (b:Bool),e=.returned (.tuple #[.slice A xs.length c,.bool b])/\Sl w' 3 zaa A xs/\Qa w w'/\xs.length<=100000/\((R=some xs/\b=false)\/(R=none/\b=true))
theorem znm(laws:List Law)(s:St)(wd rd:List Deed)(LA CA MA DA WA RA GA:Option Addr)(c0 c1 c2 c3 c4 c5 c6:Nat)(n:ByteArray)(day:Int)(w:World)(h:StIn w laws s wd rd LA CA MA DA WA RA GA c0 c1 c2 c3 c4 c5 c6)(hk:StLink s wd rd)(hf:StFew s wd rd)(bc:za9 laws=0)(hW:WillOk (zbx s n))(pX:∀a,¬Desc s a a)(bY:(zbx s n).length<=8):
 Calls Tryz.prog 131 #[.agg #[.slice LA laws.length c0,.slice CA s.children.length c1,.slice MA s.marriages.length c2,.slice DA s.dead.length c3,.slice WA wd.length c4,.slice RA rd.length c5,.slice GA s.graves.length c6],.string n,.int .i64 day] w (zkL w (zcO s (zbc laws day) n)):=by
 have xK:laws.length<=10:=by
  unfold za9 at bc;split at bc
  ·cases bc
  ·rename_i h1;simpa using h1
 have rm:=zHi (fun W (hB:Qa w W)=>zoV laws LA c0 day W xK (h.laws.keep hB));have bJ:=zfc bc day;obtain⟨R,hR⟩:=Qd (zcO s (zbc laws day) n)
 rw[<-hR];unfold Law.v at rm;generalize zbc laws day=law at*;obtain⟨L,hL⟩:∃L:List ByteArray,L=(zgl wd n).map (·.name)++s.children.map (·.2)++[zaM s n,⟨#[]⟩]:=⟨_,rfl⟩
 have Gk:∀p∈zgl wd n,p.name∈L:=fun p hp=>by rw[hL];exact List.mem_append_left _ (List.mem_append_left _ (List.mem_map_of_mem hp))
 have Gh:∀c∈s.children,c.2∈L:=fun c hc=>by rw[hL];exact List.mem_append_left _ (List.mem_append_right _ (List.mem_map_of_mem hc))
 have Gj:zaM s n∈L:=by rw[hL];exact List.mem_append_right _ Mcv
 have wE:(⟨#[]⟩:ByteArray)∈L:=by rw[hL];exact List.mem_append_right _ Mcv
 have xW:(zgl wd n).length<=8:=by
  have:=bY;rw[ziX hk]at this;simpa[zan]using this
 have ui:L.length<=90000:=by
  rw[hL];have:=hf.kids;simp;omega
 have xU:∀p∈zgl wd n,zaA 16 p.num p.den=true:=by
  unfold zgl;intro p hp;cases mJ:wd.reverse.find? fun d=>zaf d.frm n with
  |none=>rw[mJ]at hp;simp at hp
  |some d=>
   rw[mJ]at hp;exact hk.shares d (by have:=List.mem_of_find?_eq_some mJ;simpa using this) p hp
 obtain⟨cX,rB,fD,fT,rK⟩:=yH5 (fun W (hB:Qa w W)=>zhv laws s wd rd LA CA MA DA WA RA GA c0 c1 c2 c3 c4 c5 c6 law n hk hf (zaW s) n W (h.keep hB) (zk5 pX n)) (fun share A c out W (hB:Qa w W)=>ziS laws s wd rd LA CA MA DA WA RA GA c0 c1 c2 c3 c4 c5 c6 law n L hk hf Gh ui (zaW s) n share A c out W (h.keep hB) (zk5 pX n)) (fun x W (hB:Qa w W)=>sAble x n W (h.keep hB) hk hf) (fun W (hB:Qa w W)=>sSpouse n W (h.keep hB) hf) (fun W (hB:Qa w W)=>h.wills.keep zbP hB);have fM:=zgQ s law.stems n (zaW s) n;rw[ziX hk]at hW;have Cw:Hid (WillSt [] 1 (zan (zgl wd n)) L):=zHi ⟨zdt,by simp,zhe _,fun p hp=>by(cases hp),by simp[sumQ];grind,hW.le,hW.pos,hW.isN⟩;unfold zcO at hR;rw[ziX hk]at hR;obtain⟨Z,hZ⟩:=Qd (zcu s n (zan (zgl wd n)) [] 1)
 rw[<-hZ]at hR;obtain⟨HZ,HR,BY,dU,jh,cv,oB,jN⟩:=yH8 hZ hR xU Gk bJ (show LA=LA/\zaM s n∈L/\(⟨#[]⟩:ByteArray)∈L/\L.length<=90000 from⟨rfl,Gj,wE,ui⟩) xW fM;have rb:=zHi hf.wills;unfold Law.v at cX rB;unfold zaD at rB;unfold zkL;clear bc hW pX bY xK bJ hR hL Gk Gh Gj wE xW ui xU fM hZ h hf hk;generalize zdA s law.stems n (zaW s) n=ls at*;generalize zb4 s law.stems n (zaW s) n=T at*;generalize pg:zgl wd n=lw at*;have ot:=zHi pg.symm;clear pg;go_enter Tryz.func131,Tryz.ntmps131
 go_upto_block 0 with(first
  |(go_at_call 158;go_must(refine(rm.o _ Bw).mono ?_);rintro e wq ⟨rfl,z1,rfl⟩)
  |(go_at_call 72;go_must(refine(zhS _).mono ?_);rintro e wq ⟨rfl,z2,rfl⟩))
 obtain⟨LB,uh⟩:=Qd (w.heap.size+1+z1.os.size)
 obtain⟨QB,s9⟩:=Qd (LB+1+z2.os.size)
 obtain⟨W2,cF⟩:=Qd (((((w.alloc (.cells #[.slice LA laws.length c0,.slice CA s.children.length c1,.slice MA s.marriages.length c2,.slice DA s.dead.length c3,.slice WA wd.length c4,.slice RA rd.length c5,.slice GA s.graves.length c6] 35)).ext z1).alloc (.cells #[.int .i64 law.frm,.bool law.stems,.int .i64 law.num,.int .i64 law.den] 72)).ext z2).alloc (.cells #[.int .i64 1,.int .i64 1] 57))
 have g0:W2.heap[w.heap.size]?=some (.cells #[.slice LA laws.length c0,.slice CA s.children.length c1,.slice MA s.marriages.length c2,.slice DA s.dead.length c3,.slice WA wd.length c4,.slice RA rd.length c5,.slice GA s.graves.length c6] 35):=by rw[cF];exact zal (zby (zal (zby (zat _ _ _ rfl))))
 have g1:W2.heap[LB]?=some (.cells #[.int .i64 law.frm,.bool law.stems,.int .i64 law.num,.int .i64 law.den] 72):=by rw[cF];exact zal (zby (zat _ _ _ (by rw[uh];simp[zae])))
 have g2:W2.heap[QB]?=some (.cells #[.int .i64 ((1:Rat)).num,.int .i64 ((1:Rat)).den] 57):=by rw[cF];exact zat _ _ _ (by rw[s9,uh];simp[zae])
 have bx:Qa w W2:=by rw[cF];exact Bw
 rw[<-cF,<-uh,<-s9];have eJ:w.heap.size<LB:=Mcq;have cN:LB<QB:=Mcq;have gV:=zab g2;obtain⟨aC,fQ⟩:=yH2 bx g2
 have au:=zHi (fun W (hB:Below QB W2 W)=>(show(W.cell? ⟨w.heap.size,0,none⟩=some (.slice LA laws.length c0)/\W.cell? ⟨w.heap.size,1,none⟩=some (.slice CA s.children.length c1)/\W.cell? ⟨w.heap.size,2,none⟩=some (.slice MA s.marriages.length c2)/\W.cell? ⟨w.heap.size,3,none⟩=some (.slice DA s.dead.length c3)/\W.cell? ⟨w.heap.size,4,none⟩=some (.slice WA wd.length c4)/\W.cell? ⟨w.heap.size,5,none⟩=some (.slice RA rd.length c5)/\W.cell? ⟨w.heap.size,6,none⟩=some (.slice GA s.graves.length c6))/\(W.cell? ⟨LB,0,none⟩=some (.int .i64 law.frm)/\W.cell? ⟨LB,1,none⟩=some (.bool law.stems)/\W.cell? ⟨LB,2,none⟩=some (.int .i64 law.num)/\W.cell? ⟨LB,3,none⟩=some (.int .i64 law.den)) from by
  have x0:=(hB.block _ Mcq).trans g0;have x1:=(hB.block _ cN).trans g1
  refine⟨zaK x0,?_,?_,?_,?_⟩<;>(simp only[World.cell?,x1];rfl)))
 clear cF uh s9 g0 g1 g2 bx rm;obtain⟨⟨d0,d1,d2,d3,d4,d5,d6⟩,e0,e1,e2,e3⟩:=au.o W2 Qb;have sN:=rb.o;go_cut [10,11,12,13]from 25 to 71 (fun v10 _ _ _ wc=>∃(YA:Option Addr) (yc:Nat) (ys:Parts) (q:Rat),v10=.slice YA ys.length yc/\Hid (Z=(ys,q))/\Hid (WillSt ys q [] L)/\Sl wc 3 zaa YA ys/\wc.heap[QB]?=some (.cells #[.int .i64 (q).num,.int .i64 (q).den] 57)/\Below QB W2 wc)
 case first=>
  go_wp2_with fail
  go_loopw [10,11,12,13] (fun v10 v11 _ _ wr=>∃(j:Nat) (i:Int),j<=wd.length/\v10=.slice none 0 0/\v11=.int .i64 i/\i=(j:Int)-1/\Hid (lw=zgl (wd.take j) n)/\W2=wr) (fun _ v11 _ _ _=>(intOf v11+1).toNat)
  case atStart=>exact⟨wd.length,(wd.length:Int)-1,Qc,rfl,by first|go_num|rw[wrap_m sN],rfl,zHi (by rw[List.take_length];exact ot.o),rfl⟩
  case round=>
   obtain⟨j,i,hj,rfl,rfl,hi,HJ,rfl⟩:=hrel;cases j with
   |zero=>
    have qi:i= -1:=Mcq;subst qi;have tg:lw=[]:=by rw[HJ.o,List.take_zero];rfl
    have JP:Hid (Z=([],1)):=by show _=_;rw[HZ.o,tg];rfl
    have JJ:Hid (WillSt [] 1 [] L):=by have:=Cw;rw[tg]at this;exact this
    clear tg hi;go_wp2_with fail
    go_meet
    exact⟨none,0,[],1,rfl,JP,JJ,Sl.nil,fQ.o,Qb⟩
   |succ m=>
    have qi:i=(m:Int):=Mcq;subst qi;obtain⟨b,off,cs,hA,hb,⟨B,c,hc,rfl,hP⟩,ah⟩:=(rK.o w Qb).at (k:=m) hj;have ai:=HJ.o;rw[zpe hj]at ai;generalize wd[m]=x at*;subst hA;have aY:b<W2.heap.size:=Nat.lt_of_lt_of_le hb aC.o.size;have i3:W2.cell? ⟨b,off+m*7+3,none⟩=some (.string x.frm):=(zah aC.o hb).trans (ah 3 _ rfl);have i4:w.cell? ⟨b,off+m*7+4,none⟩=some (.slice B x.to.length c):=ah 4 _ rfl;have iC:(m:Int)<(wd.length:Int):=Mcq;have pj:(0:Int)<=(m:Int):=Mcq;obtain⟨Jg,HP⟩:=yH2 hj hP;obtain⟨kd,dy,pl,fr,ts,cl,yr⟩:=x;simp only at i3 i4 hc ai HP;clear ah hi hj hP;cases hs:zaf fr n
    ·have bk:(fr.toList==n.toList)=false:=hs;have aA:Hid (lw=zgl (wd.take m) n):=by show _=_;rw[ai,hs];rfl
     clear ai hs;go_wp2_with fail
     go_round
     case rel=>exact⟨m,(m:Int)-1,by have:=Jg.o;omega,rfl,by go_num,rfl,aA,by first|exact True.intro|rfl⟩
     case measure=>simp only[intOf];omega
    ·have bk:(fr.toList==n.toList)=true:=hs;have Em:ts=lw:=by rw[ai,hs];rfl
     clear ai hs;subst Em;have EQ:ts.length<=8:=oB.o;go_upto_region 9 with fail
     go_loopw [10,12,13] (fun v10 v12 _ wr=>∃(k:Nat) (ys:Parts) (q:Rat),k<=ts.length/\v12=.int .i64 k/\Hid (Z=zcu s n (zan (ts.drop k)) ys q)/\Hid (WillSt ys q (zan (ts.drop k)) L)/\OwnS wr QB 59 3 zaa v10 ys/\wr.heap[QB]?=some (.cells #[.int .i64 (q).num,.int .i64 (q).den] 57)/\Below QB W2 wr) (fun _ v12 _ _=>ts.length-(intOf v12).toNat)
     case atStart=>exact⟨0,[],1,Nat.zero_le _,rfl,HZ,Cw,OwnS.nil,fQ.o,Qb⟩
     case round=>
      obtain⟨k,ys,q,hk,rfl,HX,FG,ac,hQ,hB⟩:=hrel;obtain⟨YA,yc,rfl,so,uN⟩:=ac.sl zai;have io:Qa w wr:=aC.o.trans (hB.mono Mcq);have aW:=io.size;have uE:=zab hQ;obtain⟨⟨d0,d1,d2,d3,d4,d5,d6⟩,e0,e1,e2,e3⟩:=au.o wr hB;have j4:wr.cell? ⟨b,off+m*7+4,none⟩=some (.slice B ts.length c):=(zah io hb).trans i4;obtain⟨aU,HB,eo⟩:=yH3 io hB ac;by_cases aa:k<ts.length
      ·obtain⟨pb,po,m9,AS,tp⟩:=(HP.o.keep io).at aa;have hx:=HX.o;have jK:=FG.o;have gI:zan (ts.drop k)=(ts[k].name,ts[k].rat)::zan (ts.drop (k+1)):=by rw[List.drop_eq_getElem_cons aa];rfl
       rw[gI,zcu]at hx;rw[gI]at jK;have kK:=BY.o _ (List.getElem_mem aa);have kG:=dU.o _ (List.getElem_mem aa);have ak:=zHi aa;generalize ts[k]=x at*;obtain⟨nm,nu,de⟩:=x;simp only at kK kG hx jK;subst m9;have p0:wr.cell? ⟨pb,po+k*3,none⟩=some (.string nm):=tp 0 _ rfl;have p1:wr.cell? ⟨pb,po+k*3+1,none⟩=some (.int .i64 nu):=tp 1 _ rfl;have p2:wr.cell? ⟨pb,po+k*3+2,none⟩=some (.int .i64 de):=tp 2 _ rfl;have ar:(k:Int)<(ts.length:Int):=Mcq;have aR:(0:Int)<=(k:Int):=Mcq;have ng:(⟨nm,nu,de⟩:RPart).rat=Rat.divInt nu de:=rfl;rw[ng]at hx jK;obtain⟨r1,r2,r3,r4⟩:=zbl kK;have uF:=zc8 Mcu Mcu (zer kK) r3 r4;obtain⟨b1,b2,b3,b4,b5,b6⟩:=jK.bounds;generalize Rat.divInt nu de=r at*;have ci:=zgS jK.good jK.names;obtain⟨eD,eM⟩:=yH2 (fun W (hW:Qa wr W)=>zcW ys nm r YA yc W (by have:=cv.o.2.2.2;omega) (jK.hd.parts b4) uF (so.keep hW)) (fun W=>zhG q r W b5 uF);unfold zaD at eD eM;rw[r1,r2]at eD eM;obtain⟨kP,ax,oC,tU⟩:=yH4 (fun W (hW:Qa wr W)=>fD.o nm W (aU.o.trans (hW.mono aW))) hx jK kG;have hqB:QB<wr.heap.size:=uE;have HQ:=zHi hQ;clear tp hx jK gI kK kG ng r1 r2 r3 r4 uF b1 b2 b3 b4 b5 b6 ci ac so hB io aa hQ;go_upto_region 12 with fail
       obtain⟨WP,Aq⟩:=Qd (wr.alloc (.cells #[.string nm,.int .i64 nu,.int .i64 de] 59))
       have gP:WP.heap[wr.heap.size]?=some (.cells #[.string nm,.int .i64 nu,.int .i64 de] 59):=by rw[Aq];exact zat _ _ _ rfl
       have wj:Qa wr WP:=by rw[Aq];exact Bw
       rw[<-Aq];have tL:=zHi wj;have cT:=wj.size;have kI:=zab gP;obtain⟨s0,s1,s2⟩:WP.cell? ⟨wr.heap.size,0,none⟩=some (.string nm)/\WP.cell? ⟨wr.heap.size,1,none⟩=some (.int .i64 nu)/\WP.cell? ⟨wr.heap.size,2,none⟩=some (.int .i64 de):=by
        simp only[World.cell?,gP];exact⟨rfl,rfl,rfl⟩
       obtain⟨⟨x0,x1,x2,x3,x4,x5,x6⟩,_⟩:=au.o WP (HB.o.trans (wj.mono Mcq));have hqW:QB<WP.heap.size:=Mcq;obtain⟨GQ,GP⟩:=yH2 ((wj.block _ uE).trans HQ.o) gP;clear Aq gP wj d0 d1 d2 d3 d4 d5 d6 e0 e1 e2 e3 j4 p0 p1 p2;cases cH:zeb s nm n
       ·rw[cH]at kP ax;have dW:Hid (Z=zcu s n (zan (ts.drop (k+1))) ys q):=MdH;clear cH;go_wp2_with (go_at_call 159;go_must(refine(kP.o _ (by have:=tL.o;exact Bw)).mono ?_);rintro e wq ⟨rfl,z,rfl⟩)
        go_round
        case rel=>exact⟨k+1,ys,q,ak.o,by go_num,dW,zHi oC.o.skip,(eo.o.keep tL.o).keep (n:=WP.heap.size) (zaq WP z),zby GQ.o,zaZ (HB.o.trans (tL.o.mono Mcq)) z⟩
        case measure=>have:=ak.o;simp only[intOf];omega
       ·rw[cH]at kP ax;have dW:Hid (Z=zcu s n (zan (ts.drop (k+1))) (za5 ys nm r) (q-r)):=MdH;have Cx:=zHi (oC.o.give tU.o);clear cH
        go_upto_region 14 with(first
         |(go_at_call 159;go_must(refine(kP.o _ (by have:=tL.o;exact Bw)).mono ?_);rintro e wq ⟨rfl,z,rfl⟩)
         |(go_at_call 119;go_must(refine(eD.o _ (by have:=tL.o;exact Bw)).mono ?_);rintro e w5 ⟨v5,rfl,o5,b5⟩))
        obtain⟨YB,yd,rfl,_,_⟩:=o5.sl zai;have ET:=b5.size;have ub:=(b5.block QB McA).trans (zby (z:=z) GQ.o);have CE:=(b5.block wr.heap.size McA).trans (zby (z:=z) GP.o);have bn:=zHi (HB.o.trans ((zaZ tL.o z |>.trans (b5.mono McA)).mono Mcq));have kX:=zHi (o5.base_le (show QB<=(WP.ext z).heap.size by simp[zae];omega));have h5l:=zab CE;have h5m:=zab ub;obtain⟨y0,y1⟩:=zbj ub;have f0:=frz ub;obtain⟨-,s1,s2⟩:=cF3 CE;clear o5 b5 CE ET;go_wp2_with (go_at_call 123;go_must(refine(eM.o _).mono ?_);rintro e wq ⟨rfl,z5,rfl⟩)
        go_round
        case rel=>exact⟨k+1,za5 ys nm r,q-r,ak.o,by go_num,dW,Cx,((kX.o.kept (za2 _ _ _ _) ub Mcu).kept (za2 _ _ _ _) (Joins.block_setCell (i:=0) ub _) Mcu).keep (zaq _ z5),zby (zeO ub),zaZ (zaN (zaN bn.o Qc _) Qc _) z5⟩
        case measure=>have:=ak.o;simp only[intOf];omega
      ·have ar:¬(k:Int)<(ts.length:Int):=Mcq;have hx:=HX.o;have jK:=FG.o;rw[List.drop_of_length_le Mcq]at hx jK;have ax:Hid (Z=(ys,q)):=Md9;obtain⟨oC,rQ,HQ⟩:=yH3 jK so hQ;clear hx jK ac so hQ hB io;go_wp2_with fail
       go_meet
       exact⟨YA,yc,ys,q,rfl,ax,oC,rQ.o,HQ.o,HB.o⟩
 case rest=>
  obtain⟨YA,yc,ys,q,rfl,JT,lY,hY,hQ,hB⟩:=hcut;clear d0 d1 d2 d3 d4 d5 d6 e0 e1 e2 e3;have hr:=HR.o;rw[JT.o]at hr;simp only at hr;obtain⟨b1,b2,b3,b4,b5,b6⟩:=lY.o.bounds;have pH:=zgS lY.o.good lY.o.names;have tJ:ys.length<=90000:=by have:=cv.o.2.2.2;omega
  have io:Qa w wc:=aC.o.trans (hB.mono Mcq);obtain⟨q0,q1⟩:=zbj hQ;have N9:=zab hQ;obtain⟨Gz,kp,aU⟩:=yH3 hY tJ io;by_cases hqz:q=0
  ·have Ev:(q.num==0)=true:=by rw[hqz];rfl
   have cE:Hid (R=some ys):=by show _=_;rw[hr,if_pos (by simpa using hqz)]
   clear hr hqz b1 b2 b3 b4 b5 b6 pH tJ hB hY io;go_wp2_with fail
   go_ret2
   exact⟨YA,yc,ys,false,rfl,Gz.o,aU.o,by have:=kp.o;omega,.inl ⟨cE.o,rfl⟩⟩
  ·have Ev:(q.num==0)=false:=by
    have:q.num≠0:=fun e=>hqz (Rat.num_eq_zero.1 e)
    simpa using this
   rw[if_neg (by simpa using hqz)]at hr;obtain⟨sp,ck⟩:∃sp,sp=if zeb s (zaM s n) n then zaM s n else⟨#[]⟩:=⟨_,rfl⟩
   rw[<-ck]at hr;have yW:sp∈L:=by
    rw[ck];split
    ·exact cv.o.2.1
    ·exact cv.o.2.2.1
   obtain⟨rS,aE,bA,Cn,Cm,bU,kP⟩:=yH7 hB (show 0<=q/\q<=1/\zaL q from⟨b1,b2,b5⟩) hr yW ck (fun W (hW:Qa wc W)=>fT.o W (io.trans (hW.mono io.size))) (fun x W (hW:Qa wc W)=>fD.o x W (io.trans (hW.mono io.size)));obtain⟨⟨d0,d1,d2,d3,d4,d5,d6⟩,e0,e1,e2,e3⟩:=au.o wc hB;have Nt:w.heap.size<wc.heap.size:=Mcq;have Nu:LB<wc.heap.size:=Mcq;have HQ:=zHi hQ;clear hr hqz b1 b2 b3 b4 b5 b6 pH tJ hB hY io ck yW hQ;obtain⟨WC,ul⟩:=Qd wc
   subst ul;go_upto_region 18 with(go_at_call 130;go_must(refine(bU.o _ Bw).mono ?_);rintro e wq ⟨rfl,z3,rfl⟩)
   have kL:=Cm.o;have F2:=zHi (fun W hW=>kP.o (zaM s n) W hW);generalize zaM s n=sq at*;go_upto_if 83 with(go_at_call 159;go_must(refine(F2.o _ Bw).mono ?_);rintro e wq ⟨rfl,z4,rfl⟩)
   go_cut [14]from 79 to 84 (fun v wc=>v=.string sp/\(WC.ext z3).ext z4=wc)
   case first=>
    cases cH:zeb s sq n
    ·rw[cH]at kL;simp only[Bool.false_eq_true,if_false]at kL;exact MbB
    ·rw[cH]at kL;simp only[if_true]at kL;exact MbB
   case rest=>
    obtain⟨rfl,rfl⟩:=hcut;obtain⟨WD,Du⟩:=Qd ((WC.ext z3).ext z4)
    have dp:Qa WC WD:=by rw[Du];exact Bw
    rw[<-Du];clear Du d0 d1 d2 d3 d4 d5 d6 e0 e1 e2 e3 q0 q1 kL F2 bU kP;have L2:=dp.size;have gQ:=(dp.block QB N9).trans HQ.o;have cw:=rS.o.trans (dp.mono Mcq);have aY:=aU.o.trans (dp.mono aU.o.size);obtain⟨⟨d0,d1,d2,d3,d4,d5,d6⟩,e0,e1,e2,e3⟩:=au.o WD cw;obtain⟨q0,q1⟩:=zbj gQ;have I8:=zab gQ;obtain⟨lR,FJ,dh,rK,kY,GQ⟩:=yH6 (fun W (hW:Qa WD W)=>cX.o W (aY.trans (hW.mono aY.size))) (Gz.o.keep dp) cw aY (lY.o.hd.parts lY.o.bounds.2.2.2.1) gQ;clear dp gQ cw aY;by_cases hlz:ls.length=0
    ·have ci:((ls.length:Int)==0)=true:=by rw[hlz];rfl
     have cE:Hid (R=some (za5 ys sp q)):=by
      show _=_;have hT:T=[]:=List.eq_nil_of_length_eq_zero (by rw[jN.o];exact hlz);rw[bA.o,hT];rfl
     obtain⟨eD,om⟩:=yH2 (fun W (hW:Qa WD W)=>zcW ys sp q YA yc W (by have:=kp.o;omega) kY.o aE.o.2.2 (FJ.o.keep hW)) (zc0 sp q ys);generalize za5 ys sp q=gv at*;unfold zaD at eD;clear hlz;go_upto_region 21 with(go_at_call 160;go_must(refine(lR.o _ Bw).mono ?_);rintro e w6 ⟨v6,rfl,o6,b6⟩;obtain⟨KA,kc,rfl,_,_⟩:=o6.sl zaH;clear o6)
     have oE:=b6.size;have tt:=(b6.block QB I8).trans GQ.o;obtain⟨x0,x1⟩:=zbj tt;have bR:=zHi b6;clear d0 d1 d2 d3 d4 d5 d6 e0 e1 e2 e3 q0 q1 tt b6;go_wp2_with (go_at_call 119;go_must(refine(eD.o _ bR.o).mono ?_);rintro e w7 ⟨v7,rfl,o7,b7⟩;obtain⟨GV,gc,rfl,aD,_⟩:=o7.sl zai;obtain⟨dl,cr⟩:=yH2 aD (bR.o.trans (b7.mono oE));clear o7 b7 aD)
     go_ret2
     exact⟨GV,gc,gv,false,rfl,dl.o,rK.o.trans (cr.o.mono rK.o.size),by have:=kp.o;have:=om.o;omega,.inl ⟨cE.o,rfl⟩⟩
    ·have ci:((ls.length:Int)==0)=false:=by
      have:(ls.length:Int)≠0:=by omega
      simpa using this
     have hT:¬T.isEmpty=true:=by
      intro e;rw[List.isEmpty_iff]at e;have:=jN.o;rw[e]at this;exact hlz this.symm
     obtain⟨own,out2,ac,cj,tu⟩:∃(own:Rat) (out2:Parts),own=(if noB sp=true then 0 else q*Rat.divInt law.num law.den)/\out2=(if noB sp=true then ys else za5 ys sp own)/\R=if(q-own==0)=true then some out2 else zeJ (q-own) T out2:=
      ⟨_,_,rfl,rfl,by
        rw[bA.o,if_neg hT];unfold zeJ
        rw[<-zh9]⟩
     obtain⟨k1,k2,k3,k4,k5,k6⟩:=own_key sp jh.o lY.o.good lY.o.isN lY.o.rN aE.o.1 aE.o.2.1
     have BS:Hid (Hd out2 L/\0<=q-own/\q-own<=1/\zaL (q-own)/\sumQ out2+(q-own)=1/\out2.length<=90001):=zHi (by
      have dS:=lY.o.sum;cases hn:noB sp
      ·rw[hn]at ac cj;simp only[Bool.false_eq_true,if_false]at ac cj;rw[cj,ac];refine⟨⟨k3,k4,ziR lY.o.names Cn.o⟩,by grind,by have:=aE.o.2.1;grind,k6,by rw[zbU];grind,?_⟩;have:=zc0 sp (q*Rat.divInt law.num law.den) ys;have:=kp.o;omega
      ·rw[hn]at ac cj;simp only[if_true]at ac cj;rw[cj,ac];have e:q-0=q:=McN;rw[e]
       exact⟨lY.o.hd,aE.o.1,aE.o.2.1,aE.o.2.2,dS,by have:=kp.o;omega⟩)
     obtain⟨lW,eo,Fu,BR⟩:=yH4 tu ac cj (show 0<ls.length/\zaL (q*Rat.divInt law.num law.den) from⟨by omega,k5⟩);clear hlz hT ac cj tu k1 k2 k3 k4 k5 k6;go_upto_region 22 with(go_at_call 160;go_must(refine(lR.o _ Bw).mono ?_);rintro e w6 ⟨v6,rfl,o6,b6⟩;obtain⟨KA,kc,rfl,_,_⟩:=o6.sl zaH;clear o6)
     have oE:=b6.size;have tt:=(b6.block QB I8).trans GQ.o;have sD:=dh.o.trans (b6.mono Mcq);have GC:=FJ.o.keep b6;clear d0 d1 d2 d3 d4 d5 d6 e0 e1 e2 e3 q0 q1;obtain⟨bR,Fy,FI⟩:=yH3 sD tt GC;have JZ:=zab tt;obtain⟨⟨d0,d1,d2,d3,d4,d5,d6⟩,e0,e1,e2,e3⟩:=au.o w6 sD;obtain⟨q0,q1⟩:=zbj tt;have h6l:LB<w6.heap.size:=Mcq;clear b6 tt sD GC;go_upto_if 96 with fail
     go_cut [10,15]from 95 to 107 (fun v10 _ wc=>∃(ZA:Option Addr) (zc:Nat),v10=.slice ZA out2.length zc/\Sl wc 3 zaa ZA out2/\wc.heap[QB]?=some (.cells #[.int .i64 (q-own).num,.int .i64 (q-own).den] 57)/\Below QB W2 wc)
     case first=>
      cases hn:noB sp
      ·have w2:¬sp.toList=[]:=by simpa using(show sp.toList.isEmpty=false from hn)
       have y2:sp.toList.isEmpty=false:=hn;have y3:(!sp.toList.isEmpty)=true:=by rw[y2];rfl
       rw[y3];have ac:=eo.o;have cj:=Fu.o;rw[hn]at ac cj;simp only[Bool.false_eq_true,if_false]at ac cj;obtain⟨r1,r2,r3,r4⟩:=zbl jh.o;have sY:=BR.o.2;rw[<-ac]at sY;obtain⟨je,eM,eD⟩:=yH3 (fun W=>zgB q (Rat.divInt law.num law.den) W aE.o.2.2 (zc8 Mcu Mcu (zer jh.o) r3 r4)) (fun W=>zhG q own W aE.o.2.2 sY) (fun W (hW:Qa w6 W)=>zcW ys sp own YA yc W (by have:=kp.o;omega) kY.o sY (FI.o.keep hW));rw[<-ac]at je;rw[<-cj]at eD;unfold zaD at je eM eD;rw[r1,r2]at je;clear hn ac cj r1 r2 r3 r4 sY;go_upto_region 24 with(go_at_call 122;go_must(refine(je.o _).mono ?_);rintro e wq ⟨rfl,z6,rfl⟩)
       obtain⟨OB,mh⟩:=Qd (w6.heap.size+z6.os.size)
       obtain⟨WO,Ap⟩:=Qd ((w6.ext z6).alloc (.cells #[.int .i64 (own).num,.int .i64 (own).den] 57))
       have gO:WO.heap[OB]?=some (.cells #[.int .i64 (own).num,.int .i64 (own).den] 57):=by rw[Ap];exact zat _ _ _ (by rw[mh];simp[zae])
       have DH:Qa w6 WO:=by rw[Ap];exact zad (zaq w6 z6) _
       rw[<-Ap,<-mh];clear Ap mh d0 d1 d2 d3 d4 d5 d6 e0 e1 e2 e3 q0 q1;obtain⟨o0,o1⟩:=zbj gO;have Ku:=DH.size;have wK:=zab gO;obtain⟨Bp,GO⟩:=yH2 DH gO;clear gO DH;go_upto_region 25 with(go_at_call 119;go_must(refine(eD.o _ (by have:=Bp.o;exact Bw)).mono ?_);rintro e w7 ⟨v7,rfl,o7,b7⟩)
       obtain⟨GV,gc,rfl,_,_⟩:=o7.sl zai;have wa:=b7.size;have uc:=(b7.block QB Mcq).trans ((Bp.o.block QB JZ).trans Fy.o);have CG:=(b7.block OB wK).trans GO.o;have cr:=zHi (bR.o.trans ((Bp.o.trans (b7.mono Ku)).mono Mcq));have vH:=zHi (o7.base_le (show QB<=WO.heap.size by omega));have h7l:=zab CG;have h7m:=zab uc;obtain⟨y0,y1⟩:=zbj uc;obtain⟨y2,y3⟩:=zbj CG;have f0:=frz uc;clear o7 b7 CG o0 o1;go_wp2_with (go_at_call 123;go_must(refine(eM.o _).mono ?_);rintro e wq ⟨rfl,z5,rfl⟩)
       go_meet
       exact⟨GV,gc,rfl,(ziM zai (((vH.o.kept (za2 _ _ _ _) uc Mcu).kept (za2 _ _ _ _) (Joins.block_setCell (i:=0) uc _) Mcu).keep (zaq _ z5))).1,zby (zeO uc),zaZ (zaN (zaN cr.o Qc _) Qc _) z5⟩
      ·have w2:sp.toList=[]:=by simpa using(show sp.toList.isEmpty=true from hn)
       have y2:sp.toList.isEmpty=true:=hn;have y3:(!sp.toList.isEmpty)=false:=by rw[y2];rfl
       rw[y3];have ac:=eo.o;have cj:=Fu.o;rw[hn]at ac cj;simp only[if_true]at ac cj;have ve:Hid (q-own=q/\out2=ys):=zHi ⟨by rw[ac];grind,cj⟩;clear hn ac cj;go_wp2_with fail
       go_meet
       exact⟨YA,yc,by rw[ve.o.2],by rw[ve.o.2];exact FI.o,by rw[ve.o.1];exact Fy.o,bR.o⟩
     case rest=>
      obtain⟨ZA,zc,rfl,Dx,hQ,hB⟩:=hcut;clear d0 d1 d2 d3 d4 d5 d6 e0 e1 e2 e3 q0 q1;obtain⟨kk1,kk2,kk3,kk4,kk5,kk6⟩:=BS.o;have Na:=zab hQ;have aY:=aC.o.trans (hB.mono Mcq);obtain⟨CD,qN⟩:=yH2 Dx aY;have Nv:w.heap.size<wc.heap.size:=Mcq;have Nw:LB<wc.heap.size:=Mcq;obtain⟨⟨d0,d1,d2,d3,d4,d5,d6⟩,e0,e1,e2,e3⟩:=au.o wc hB;obtain⟨q0,q1⟩:=zbj hQ;have Jk:=zHi kk6;by_cases hz:q-own=0
      ·have nA:¬(0:Int)<(q-own).num:=by rw[hz];decide
       have cE:Hid (R=some out2):=by show _=_;rw[lW.o,if_pos Mdz]
       have ca:=zHi (fun W (hW:Qa wc W)=>zdN out2 ZA zc W Mcq (CD.o.keep hW));rw[kk1.small]at ca;clear hz kk1 kk2 kk3 kk4 kk5 kk6 hB hQ Dx aY;go_wp2_with (go_at_call 124;go_must(refine(ca.o _ Bw).mono ?_);rintro e wq ⟨rfl,rfl⟩)
       go_ret2
       exact⟨ZA,zc,out2,false,rfl,CD.o,qN.o,by have:=Jk.o;omega,.inl ⟨cE.o,rfl⟩⟩
      ·have Iv:0<q-own:=McN;have nA:(0:Int)<(q-own).num:=zkz.1 Iv;have EE:R=zeJ (q-own) T out2:=by rw[lW.o,if_neg Mdz]
       have bU:=zHi (fun W (hW:Qa wc W)=>rB.o (q-own) ZA zc out2 W (aY.trans (hW.mono aY.size)) (CD.o.keep hW) kk1 kk2 kk4 McN BR.o.1)
       have zF:Hid (∀xs,R=some xs->zaG xs=false):=zHi (fun xs hx=>by
        rw[EE]at hx;unfold zeJ at hx;split at hx
        ·cases hx
        ·exact(ze4 (Rat.mul_nonneg kk2 (zhR (by rw[jN.o];exact BR.o.1)).2.2.1) kk1.good kk1.small hx).2)
       rw[<-EE]at bU;clear hz Iv EE kk1 kk2 kk3 kk4 kk5 kk6 hB hQ Dx aY;go_upto_region 28 with(go_at_call 161;go_must(refine(bU.o _ Bw).mono ?_);rintro e w8 ⟨XA,xc,xs,rfl,x1,x2,x3,x4⟩)
       obtain⟨ca,iQ,ax,dW,iR⟩:=yH5 (fun W (hW:Qa w8 W)=>zdN xs XA xc W Mcq (x1.keep hW)) x1 (qN.o.trans (x2.mono qN.o.size)) x3 x4;clear x1 x2 x3 x4 d0 d1 d2 d3 d4 d5 d6 e0 e1 e2 e3 q0 q1;cases hlg:zaG xs
       ·rw[hlg]at ca;go_wp2_with (go_at_call 124;go_must(refine(ca.o _ Qb).mono ?_);rintro e wq ⟨rfl,rfl⟩)
        go_ret2
        rcases iR.o with h|⟨h1,h2⟩
        ·exact⟨XA,xc,xs,false,rfl,iQ.o,ax.o,dW.o,.inl ⟨h,rfl⟩⟩
        ·rw[hlg]at h2;cases h2
       ·rw[hlg]at ca;go_wp2_with (go_at_call 124;go_must(refine(ca.o _ Qb).mono ?_);rintro e wq ⟨rfl,rfl⟩)
        go_ret2
        rcases iR.o with h|⟨h1,h2⟩
        ·have:=zF.o xs h;rw[hlg]at this;cases this
        ·exact⟨XA,xc,xs,true,rfl,iQ.o,ax.o,dW.o,.inr ⟨h1,rfl⟩⟩
theorem slw_list{α β:Type}{W:World}{size:Nat}{R:World->α->List Value->Prop}{f:β->List Value}{pr:β->α}{G:β->Prop}(hR:∀x cs,R W x cs->∃y,pr y=x/\G y/\f y=cs){A:Option Addr}{xs:List α}(h:SlW W size R A xs):
 ∃ys:List β,ys.map pr=xs/\(∀y∈ys,G y)/\Sl W size f A ys:=by
 by_cases h0:xs=[]
 ·subst h0;exact⟨[],rfl,by simp,fun h=>absurd h Mcv⟩
 ·have hl:0<xs.length:=List.length_pos_iff.2 h0;obtain⟨b,off,hA,hb,hc⟩:=h hl;have aH:∀n,n<=xs.length->∃ys:List β,ys.map pr=xs.take n/\(∀y∈ys,G y)/\∀k y,ys[k]?=some y->∀j u,(f y)[j]?=some u->W.cell? ⟨b,off+k*size+j,none⟩=some u:=by
   intro n;induction n with
   |zero=>intro _;exact⟨[],by simp,by simp,by simp⟩
   |succ n ih=>
    intro hn;obtain⟨ys,h1,h2,h3⟩:=ih Mcq;obtain⟨cs,hr,ah⟩:=hc n _ (List.getElem?_eq_getElem (show n<xs.length by omega));obtain⟨y,e1,e2,e3⟩:=hR _ _ hr;have ae:ys.length=n:=by
     have:=congrArg List.length h1;simp at this;omega
    refine⟨ys++[y],?_,?_,?_⟩
    ·rw[List.map_append,h1,List.take_add_one,List.getElem?_eq_getElem (show n<xs.length by omega)];simp[e1]
    ·intro z hz;rcases List.mem_append.1 hz with hz|hz
     ·exact h2 z hz
     ·rw[List.mem_singleton.1 hz];exact e2
    ·intro k z hk;by_cases jz:k<n
     ·rw[List.getElem?_append_left Mcq]at hk;exact h3 k z hk
     ·have fZ:k=n:=by
       exact MbL
      subst fZ;rw[List.getElem?_append_right Mcq,ae]at hk;simp at hk;subst hk;intro j u hu;exact ah j u (by rw[<-e3];exact hu)
  obtain⟨ys,h1,h2,h3⟩:=aH xs.length Qc;rw[List.take_length]at h1;exact⟨ys,h1,h2,fun _=>⟨b,off,hA,hb,h3⟩⟩
theorem slw_back{α β:Type}{W:World}{size:Nat}{R:World->α->List Value->Prop}{f:β->List Value}{pr:β->α}{G:β->Prop}(hG:∀y,G y->R W (pr y) (f y)){A:Option Addr}{xs:List α}{ys:List β}(h:Sl W size f A ys)(hm:ys.map pr=xs)(hg:∀y∈ys,G y):SlW W size R A xs:=fun hl=>by
 subst hm;obtain⟨b,off,hA,hb,hc⟩:=h Mez;refine⟨b,off,hA,hb,fun k x hk=>?_⟩;rw[List.getElem?_map]at hk;obtain⟨y,hy,rfl⟩:=Option.map_eq_some_iff.1 hk;exact⟨f y,hG y (hg y (List.mem_of_getElem? hy)),fun j u hu=>hc k y hy j u hu⟩
structure GX where
 g:Grave
 H:Option Addr
 hc:Nat
 D:Option Addr
 dc:Nat
def GX.cells(x:GX):List Value:=[.string x.g.place,.int .i64 x.g.cls,.int .i64 x.g.fin,.slice x.H x.g.holders.length x.hc,.slice x.D x.g.died.length x.dc]
theorem zcX(x:GX):x.cells.length=5:=rfl
theorem zjW(x:GX):∀u∈x.cells,u.oneCell'=true:=by simp[GX.cells,Value.oneCell']
def GX.ok(W:World)(x:GX):Prop:=Sl W 3 zaa x.H x.g.holders/\Sl W 1 sC x.D x.g.died
theorem GX.ok.keep{W W':World}{x:GX}{n:Nat}(h:x.ok W)(hB:Below n W W')(hn:W.heap.size<=n:=by first|exact Qc|omega):x.ok W':=⟨h.1.keep hB hn,h.2.keep hB hn⟩
theorem zpf{W:World}{A:Option Addr}{gs:List Grave}(h:SlW W 5 zia A gs):∃xs:List GX,xs.map (·.g)=gs/\(∀x∈xs,x.ok W)/\Sl W 5 GX.cells A xs:=
 slw_list (fun x cs hr=>by
  obtain⟨H,hc,D,dc,rfl,h1,h2⟩:=hr
  exact⟨⟨x,H,hc,D,dc⟩,rfl,⟨h1,h2⟩,rfl⟩) h
theorem slw_gx{W:World}{A:Option Addr}{gs:List Grave}{xs:List GX}(h:Sl W 5 GX.cells A xs)(hm:xs.map (·.g)=gs)(hg:∀x∈xs,x.ok W):SlW W 5 zia A gs:=
 slw_back (fun y hy=>⟨y.H,y.hc,y.D,y.dc,rfl,hy.1,hy.2⟩) h hm hg
theorem zhw:ElTy Tryz.prog 33 161 5 80:=zdC (z:=.agg #[.string ⟨#[]⟩,.int .i64 0,.int .i64 0,.slice none 0 0,.slice none 0 0]) Mcs Mcs rfl Mcu
structure RowC (W:World) (e:TypeId) (g o size:Nat) (css:List (List Value)):Prop where
 len:∀c∈css,c.length=size
 row:∃cur,W.heap[g]?=some (.cells cur e (0,0))/\o+css.length*size<=cur.size/\∀k c,css[k]?=some c->∀j u,c[j]?=some u->cur[o+k*size+j]?=some u
section
variable {W W':World} {e:TypeId} {g o size:Nat} {css:List (List Value)}
theorem RowC.at(h:RowC W e g o size css){k:Nat}{c:List Value}(hk:css[k]?=some c){j:Nat}{u:Value}(hj:c[j]?=some u):W.cell? ⟨g,o+k*size+j,none⟩=some u:=by
 obtain⟨cur,h1,_,h3⟩:=h.row;simp only[World.cell?,h1];exact h3 k c hk j u hj
theorem RowC.lt(h:RowC W e g o size css):g<W.heap.size:=by
 obtain⟨cur,h1,_⟩:=h.row;exact zab h1
theorem RowC.frz(h:RowC W e g o size css):∀j,W.frozen? ⟨g,j,none⟩=false:=by
 obtain⟨cur,h1,_⟩:=h.row;exact Go.Proofs.YtmfbdfejhdkiaaaGreatDoor.frz h1
theorem RowC.block(h:RowC W e g o size css)(hb:W'.heap[g]?=W.heap[g]?):RowC W' e g o size css:=by
 obtain⟨cur,h1,h2⟩:=h.row;exact⟨h.len,cur,hb.trans h1,h2⟩
theorem RowC.keep{n:Nat}(h:RowC W e g o size css)(hB:Below n W W')(hn:W.heap.size<=n:=by first|exact Qc|omega):RowC W' e g o size css:=h.block (hB.block g (Nat.lt_of_lt_of_le h.lt hn))
theorem RowC.sl{α:Type}{f:α->List Value}{xs:List α}(h:RowC W e g o size css)(hc:css=xs.map f):Sl W size f (some ⟨g,o,none⟩) xs:=fun _=>
 ⟨g,o,rfl,h.lt,fun k x hk j u hu=>h.at (k:=k) (by rw[hc,List.getElem?_map,hk];rfl) hu⟩
theorem OwnS.row{α:Type}{base n cap:Nat}{f:α->List Value}{xs:List α}(ae:∀x,(f x).length=size)(h:OwnS W base e size f (.slice (some ⟨g,o,none⟩) n cap) xs):RowC W e g o size (xs.map f):=by
 rcases h with⟨h,_⟩|⟨g',o',c',cur,h,hb,hg,hc,hm,hs,hx⟩
 ·cases h
 ·simp only[Value.slice.injEq,Option.some.injEq,Addr.mk.injEq,and_true]at h;obtain⟨⟨rfl,rfl⟩,rfl,rfl⟩:=h;refine⟨fun c hc=>?_,cur,hg,?_,fun k c hk j u hu=>?_⟩
  ·obtain⟨x,_,rfl⟩:=List.mem_map.1 hc;exact ae x
  ·rw[List.length_map];exact Nat.le_trans (Nat.add_le_add_left (Nat.mul_le_mul_right _ hc) _) hs
  ·rw[List.getElem?_map]at hk;obtain⟨x,cW,rfl⟩:=Option.map_eq_some_iff.1 hk;have:=hx (k*size+j) u (zeW f size ae xs k x cW j u hu);rw[Nat.add_assoc];exact this
theorem RowC.set(h:RowC W e g o size css){i j:Nat}{c:List Value}{u:Value}(hi:css[i]?=some c)(hj:j<size):RowC (W.setCell ⟨g,o+i*size+j,none⟩ u) e g o size (css.set i (c.set j u)):=by
 obtain⟨cur,h1,h2,h3⟩:=h.row;have bj:=h.len c (List.mem_of_getElem? hi);have fg:i<css.length:=(List.getElem?_eq_some_iff.1 hi).1;have aM:o+i*size+j<cur.size:=by
  have:(i+1)*size<=css.length*size:=Nat.mul_le_mul_right _ fg;rw[Nat.add_mul]at this;omega
 have hb:=Joins.block_setCell (i:=o+i*size+j) h1 u;refine⟨fun d hd=>?_,_,hb,?_,fun k d hk m v hm=>?_⟩
 ·rcases List.mem_or_eq_of_mem_set hd with hd|rfl
  ·exact h.len d hd
  ·rw[List.length_set];exact bj
 ·rw[List.length_set];simpa using h2
 ·rw[List.getElem?_set]at hk;by_cases ar:i=k
  ·subst ar;rw[if_pos rfl,if_pos fg]at hk;simp only[Option.some.injEq]at hk;subst hk;rw[List.getElem?_set]at hm;by_cases hjm:j=m
   ·subst hjm;rw[if_pos rfl,if_pos Mcq]at hm;simp only[Option.some.injEq]at hm;subst hm;simp[aM]
   ·rw[if_neg hjm]at hm;have:=h3 i c hi m v hm;rw[Array.getElem?_setIfInBounds_ne Mcq];exact this
  ·rw[if_neg ar]at hk;have kF:m<size:=by
    have:=(List.getElem?_eq_some_iff.1 hm).1;rw[h.len d (List.mem_of_getElem? hk)]at this;exact this
   have ag:o+i*size+j≠o+k*size+m:=by
    intro he;have mH:i*size+j=k*size+m:=Mcq;rcases Nat.lt_or_gt_of_ne ar with aa|aa
    ·have:(i+1)*size<=k*size:=Nat.mul_le_mul_right _ aa;rw[Nat.add_mul]at this;omega
    ·have:(k+1)*size<=i*size:=Nat.mul_le_mul_right _ aa;rw[Nat.add_mul]at this;omega
   rw[Array.getElem?_setIfInBounds_ne ag];exact h3 k d hk m v hm
end
def StAt(w:World)(laws:List Law)(s:St)(a0 a1 a2 a3 a4 a5 a6:Value):Prop:=
 ∃(wd rd:List Deed) (LA CA MA DA WA RA GA:Option Addr) (c0 c1 c2 c3 c4 c5 c6:Nat),a0=.slice LA laws.length c0/\a1=.slice CA s.children.length c1/\a2=.slice MA s.marriages.length c2/\a3=.slice DA s.dead.length c3/\a4=.slice WA wd.length c4/\a5=.slice RA rd.length c5/\a6=.slice GA s.graves.length c6/\
  StIn w laws s wd rd LA CA MA DA WA RA GA c0 c1 c2 c3 c4 c5 c6/\StLink s wd rd
def zcR:Value->Bool
 | .slice ..=>true
 |_=>false
theorem zeK{a:Value}(h:zcR a=true):∃A n c,a=.slice A n c:=by
 cases a<;>first|exact⟨_,_,_,rfl⟩|cases h
theorem zcS{a0 a1 a2 a3 a4 a5 a6:Value}(h:([a0,a1,a2,a3,a4,a5,a6].all zcR)=true):(∃A n c,a0=.slice A n c)/\(∃A n c,a1=.slice A n c)/\(∃A n c,a2=.slice A n c)/\(∃A n c,a3=.slice A n c)/\(∃A n c,a4=.slice A n c)/\(∃A n c,a5=.slice A n c)/\(∃A n c,a6=.slice A n c):=by
 simp only[List.all_cons,Bool.and_eq_true]at h;obtain⟨h0,h1,h2,h3,h4,h5,h6,_⟩:=h;exact⟨zeK h0,zeK h1,zeK h2,zeK h3,zeK h4,zeK h5,zeK h6⟩
def zfR(w:World)(laws:List Law)(R:St×Int)(e:Ending)(w':World):Prop:=
 ∃a0 a1 a2 a3 a4 a5 a6,e=.returned (.tuple #[.agg #[a0,a1,a2,a3,a4,a5,a6],.int .i64 R.2])/\([a0,a1,a2,a3,a4,a5,a6].all zcR)=true/\Qa w w'/\(R.2=0->StAt w' laws R.1 a0 a1 a2 a3 a4 a5 a6)
theorem zpg{fn:Func}{p q:Tmp}{a:TypeId}(h:fn.results= #[.cell p a,.tmp q])(tmps:Array Value)(P:Program)(w:World):
 (results fn tmps).run P w=((asAddr (tmps.getD p undef)).run P w).andThen fun x w₁=>((loadVar a x).run P w₁).andThen fun v w₂=> .ok (.tuple #[v,tmps.getD q undef]) w₂:=by
 exact Mbu
section
variable {w:World} {B:Nat} {x0 x1 x2 x3 x4 x5 x6 y:Value}
theorem zb8{fn:Func}{p q:Tmp}(h:fn.results= #[.cell p 35,.tmp q])(tmps:Array Value)(hp:tmps.getD p undef=.pointer (some ⟨B,0,none⟩))(hq:tmps.getD q undef=y)
 (hx:w.heap[B]?=some (.cells #[x0,x1,x2,x3,x4,x5,x6] 35)):(results fn tmps).run Tryz.prog w=.ok (.tuple #[.agg #[x0,x1,x2,x3,x4,x5,x6],y]) w:=by
 obtain⟨h0,h1,h2,h3,h4,h5,h6⟩:=zaK hx;clear hx;rw[zpg h,hp,hq];go_simp
theorem zph{fn:Func}{p:Tmp}(h:fn.results= #[.cell p 35])(tmps:Array Value)(hp:tmps.getD p undef=.pointer (some ⟨B,0,none⟩))
 (hx:w.heap[B]?=some (.cells #[x0,x1,x2,x3,x4,x5,x6] 35)):(results fn tmps).run Tryz.prog w=.ok (.agg #[x0,x1,x2,x3,x4,x5,x6]) w:=by
 obtain⟨h0,h1,h2,h3,h4,h5,h6⟩:=zaK hx;exact Mbl
end
theorem RowC.ne{W:World}{e:TypeId}{g o size b j:Nat}{u:Value}{css:List (List Value)}(h:RowC W e g o size css)(ag:g≠b):RowC (W.setCell ⟨b,j,none⟩ u) e g o size css:=by
 obtain⟨cur,h1,h2⟩:=h.row;exact⟨h.len,cur,J_ne ag h1,h2⟩
theorem zcH{n b:Nat}{w W:World}{a0 a1 a2 a3 a4 a5 a6:Value}(h:Below n w W)(hb:n<=b):Below n w (((((((W.setCell ⟨b,0,none⟩ a0).setCell ⟨b,1,none⟩ a1).setCell ⟨b,2,none⟩ a2).setCell ⟨b,3,none⟩ a3).setCell ⟨b,4,none⟩ a4).setCell ⟨b,5,none⟩ a5).setCell ⟨b,6,none⟩ a6):=
 zaN (zaN (zaN (zaN (zaN (zaN (zaN h hb _) hb _) hb _) hb _) hb _) hb _) hb _
theorem RowC.ne7{W:World}{e:TypeId}{g o size b:Nat}{a0 a1 a2 a3 a4 a5 a6:Value}{css:List (List Value)}(h:RowC W e g o size css)(ag:g≠b):RowC (((((((W.setCell ⟨b,0,none⟩ a0).setCell ⟨b,1,none⟩ a1).setCell ⟨b,2,none⟩ a2).setCell ⟨b,3,none⟩ a3).setCell ⟨b,4,none⟩ a4).setCell ⟨b,5,none⟩ a5).setCell ⟨b,6,none⟩ a6) e g o size css:=
 ((((((h.ne ag).ne ag).ne ag).ne ag).ne ag).ne ag).ne ag
theorem zjX(W:World)(base:Nat)(h:base<=W.heap.size):OwnS (W.alloc (.cells #[] 161)) base 161 5 GX.cells (.slice (some ⟨W.heap.size,0,none⟩) 0 0) []:=
 OwnS.of_own zcX (World.ownsRow_made W #[] 0 h (Nat.zero_le _) Mcv)
def zgT(w:World)(laws:List Law)(s:St)(wd rd:List Deed)(LA CA MA DA WA RA GA:Option Addr)(c0 c1 c2 c3 c4 c5 c6:Nat)(gxs:List GX)(i:Nat)(x:GX)(e:Ending)(w':World):Prop:=
 ∃(ga go c:Nat),e=.returned (.agg #[.slice LA laws.length c0,.slice CA s.children.length c1,.slice MA s.marriages.length c2,.slice DA s.dead.length c3,.slice WA wd.length c4,.slice RA rd.length c5,.slice (some ⟨ga,go,none⟩) s.graves.length c])/\RowC w' 161 ga go 5 ((gxs.set i x).map GX.cells)/\Qa w w'
theorem ziY(laws:List Law)(s:St)(wd rd:List Deed)(LA CA MA DA WA RA GA:Option Addr)(c0 c1 c2 c3 c4 c5 c6:Nat)(xs:List GX)(i:Nat)(x:GX)(w:World)(hm:xs.map (·.g)=s.graves)(bv:Sl w 5 GX.cells GA xs)(hf:StFew s wd rd)(hi:i<s.graves.length):
 Calls Tryz.prog 125 #[.agg #[.slice LA laws.length c0,.slice CA s.children.length c1,.slice MA s.marriages.length c2,.slice DA s.dead.length c3,.slice WA wd.length c4,.slice RA rd.length c5,.slice GA s.graves.length c6],.int .i64 i,.agg x.cells.toArray] w (zgT w laws s wd rd LA CA MA DA WA RA GA c0 c1 c2 c3 c4 c5 c6 xs i x):=by
 have bX:xs.length=s.graves.length:=by rw[<-hm,List.length_map]
 have Lk:=hf.graves;have cd:=zHi bv;unfold zgT GX.cells;rw[<-bX]at hi Lk⊢;have iS:=zHi bX;clear hm bv hf bX;go_enter Tryz.func125,Tryz.ntmps125
 go_upto_region 1 with fail
 obtain⟨W0,am⟩:=Qd (((w.alloc (.cells #[.slice LA laws.length c0,.slice CA s.children.length c1,.slice MA s.marriages.length c2,.slice DA s.dead.length c3,.slice WA wd.length c4,.slice RA rd.length c5,.slice GA xs.length c6] 35)).alloc (.cells #[.string x.g.place,.int .i64 x.g.cls,.int .i64 x.g.fin,.slice x.H x.g.holders.length x.hc,.slice x.D x.g.died.length x.dc] 161)).alloc (.cells #[.slice none 0 0,.slice none 0 0,.slice none 0 0,.slice none 0 0,.slice none 0 0,.slice none 0 0,.slice none 0 0] 35))
 have g0:W0.heap[w.heap.size]?=some (.cells #[.slice LA laws.length c0,.slice CA s.children.length c1,.slice MA s.marriages.length c2,.slice DA s.dead.length c3,.slice WA wd.length c4,.slice RA rd.length c5,.slice GA xs.length c6] 35):=Mdv;have g1:W0.heap[w.heap.size+1]?=some (.cells #[.string x.g.place,.int .i64 x.g.cls,.int .i64 x.g.fin,.slice x.H x.g.holders.length x.hc,.slice x.D x.g.died.length x.dc] 161):=by rw[am];exact zal (zat _ _ _ Mcv)
 have g2:W0.heap[w.heap.size+2]?=some (.cells #[.slice none 0 0,.slice none 0 0,.slice none 0 0,.slice none 0 0,.slice none 0 0,.slice none 0 0,.slice none 0 0] 35):=by rw[am];exact zat _ _ _ Mcv
 have aS:Qa w W0:=Mc1;rw[<-am];clear am;obtain⟨s0,s1,s2,s3,s4,s5,s6⟩:=zaK g0;have l2:=zab g2;have l0:w.heap.size<W0.heap.size:=Mcq;have aj:=zHi aS;have m8:=aS.size;clear aS
 go_upto_region 2 with(at_builtin
                       go_loud(refine zas (v:=.slice (some ⟨W0.heap.size,0,none⟩) 0 0) (n:=0) (m:=xs.length) rfl _ _ rfl zhw zcX zjW rfl (xs:=[]) (ys:=xs) (zjX W0 W0.heap.size Qc) rfl rfl rfl (cd.o.keep (aj.o.trans (Below.mono (B:=W0.heap.size) Bw m8))) Mc9 Mcq Mcv ?_)
                       intro v2 w2 h1 h2 h3;rw[List.nil_append]at h1;have e0:w2.heap[w.heap.size]?=_:=(h2.block w.heap.size Mcw (by simp[za6];omega)).trans (zal g0);have e1:w2.heap[w.heap.size+1]?=_:=(h2.block (w.heap.size+1) Mcw (by simp[za6];omega)).trans (zal g1);have e2:w2.heap[w.heap.size+2]?=_:=(h2.block (w.heap.size+2) Mcw (by simp[za6];omega)).trans (zal g2);have bC:Qa W0 w2:=Below.grown (zad Qb _) h2 Mcv Mdj;have fA:=h1.ge;obtain⟨V2,c2',rfl,_,_⟩:=h1.sl zcX;obtain⟨ga,go,rfl⟩:∃ga go,V2=some ⟨ga,go,none⟩:=by
                        rcases h1 with⟨he,h0⟩|⟨g',o',_,_,he,_⟩
                        ·rw[h0]at hi;exact absurd hi Mcv
                        ·simp only[Value.slice.injEq]at he;exact⟨g',o',he.1⟩
                       have AC:=(fA ga rfl).1;have aX:=OwnS.row zcX h1;have f6:=frz e0 6;obtain⟨y0,y1,y2,y3,y4,y5,y6⟩:=zaK e0
                       clear h1 h2 h3 fA)
 obtain⟨W3,bo⟩:=Qd (w2.setCell ⟨w.heap.size,6,none⟩ (.slice (some ⟨ga,go,none⟩) xs.length c2'))
 have b0:W3.heap[w.heap.size]?=some (.cells #[.slice LA laws.length c0,.slice CA s.children.length c1,.slice MA s.marriages.length c2,.slice DA s.dead.length c3,.slice WA wd.length c4,.slice RA rd.length c5,.slice (some ⟨ga,go,none⟩) xs.length c2'] 35):=by
  rw[bo];have:=Joins.block_setCell (i:=6) e0 (.slice (some ⟨ga,go,none⟩) xs.length c2');simpa using this
 have b1:W3.heap[w.heap.size+1]?=some (.cells #[.string x.g.place,.int .i64 x.g.cls,.int .i64 x.g.fin,.slice x.H x.g.holders.length x.hc,.slice x.D x.g.died.length x.dc] 161):=by rw[bo];exact J_ne Mcq e1
 have b2:W3.heap[w.heap.size+2]?=some (.cells #[.slice none 0 0,.slice none 0 0,.slice none 0 0,.slice none 0 0,.slice none 0 0,.slice none 0 0,.slice none 0 0] 35):=by rw[bo];exact J_ne Mcq e2
 have r3:RowC W3 161 ga go 5 (xs.map GX.cells):=by rw[bo];exact aX.ne Mcq
 have eP:Qa w W3:=by rw[bo];exact zaN (aj.o.trans (bC.mono m8)) Mcv _
 rw[<-bo];clear bo aX e0 e1 e2 bC f6 y0 y1 y2 y3 y4 y5 y6 s0 s1 s2 s3 s4 s5 s6 g0 g1 g2;obtain⟨s0,s1,s2,s3,s4,s5,s6⟩:=zaK b0;obtain⟨v0,v1,v2,v3,v4⟩:=zeg b1;have aK:(xs.map GX.cells)[i]?=some (xs[i]).cells:=by rw[List.getElem?_map,List.getElem?_eq_getElem hi];rfl
 have i7:∀j u,(xs[i]).cells[j]?=some u->W3.cell? ⟨ga,go+i*5+j,none⟩=some u:=fun j u hu=>r3.at aK hu
 have rf:=r3.frz;have q0:=i7 0 _ rfl;have q1:=i7 1 _ rfl;have q2:=i7 2 _ rfl;have q3:=i7 3 _ rfl;have q4:=i7 4 _ rfl;simp only[Nat.add_zero]at q0;have t0:RowC (W3.setCell ⟨ga,go+i*5,none⟩ (.string x.g.place)) 161 ga go 5 _:=r3.set (j:=0) (u:=.string x.g.place) aK Mcu;have te:i<(xs.map GX.cells).length:=by rw[List.length_map];exact hi
 have t1:=t0.set (i:=i) (j:=1) (u:=.int .i64 x.g.cls) (c:=(xs[i]).cells.set 0 (.string x.g.place)) (by rw[List.getElem?_set_self te]) Mcu;have t2:=t1.set (i:=i) (j:=2) (u:=.int .i64 x.g.fin) (c:=((xs[i]).cells.set 0 (.string x.g.place)).set 1 (.int .i64 x.g.cls)) (by rw[List.getElem?_set_self (by rw[List.length_set];exact te)]) Mcu;have t3:=t2.set (i:=i) (j:=3) (u:=.slice x.H x.g.holders.length x.hc) (c:=(((xs[i]).cells.set 0 (.string x.g.place)).set 1 (.int .i64 x.g.cls)).set 2 (.int .i64 x.g.fin)) (by rw[List.getElem?_set_self (by rw[List.length_set,List.length_set];exact te)]) Mcu;have t4:=t3.set (i:=i) (j:=4) (u:=.slice x.D x.g.died.length x.dc) (c:=((((xs[i]).cells.set 0 (.string x.g.place)).set 1 (.int .i64 x.g.cls)).set 2 (.int .i64 x.g.fin)).set 3 (.slice x.H x.g.holders.length x.hc)) (by rw[List.getElem?_set_self (by rw[List.length_set,List.length_set,List.length_set];exact te)]) Mcu;have xE:(i:Int)<(xs.length:Int):=Mcq;have eG:(0:Int)<=(i:Int):=Mcq;obtain⟨T4,R3,aJ,B0,B2⟩:=yH5 t4 r3 eP b0 b2;have aD:w.heap.size≠ga:=Mcq;have sR:ga≠w.heap.size:=Mcq;have dr:ga≠w.heap.size+2:=Mcq;have mN:w.heap.size+2≠ga:=Mcq;clear t0 t1 t2 t3 t4 r3 eP b0 b1 b2 i7 te;go_upto_region 3 with fail
 obtain⟨W4,fu⟩:=Qd (((((W3.setCell ⟨ga,go+i*5,none⟩ (.string x.g.place)).setCell ⟨ga,go+i*5+1,none⟩ (.int .i64 x.g.cls)).setCell ⟨ga,go+i*5+2,none⟩ (.int .i64 x.g.fin)).setCell ⟨ga,go+i*5+3,none⟩ (.slice x.H x.g.holders.length x.hc)).setCell ⟨ga,go+i*5+4,none⟩ (.slice x.D x.g.died.length x.dc))
 have t4:=T4.o;rw[<-fu]at t4⊢;have b0:W4.heap[w.heap.size]?=some (.cells #[.slice LA laws.length c0,.slice CA s.children.length c1,.slice MA s.marriages.length c2,.slice DA s.dead.length c3,.slice WA wd.length c4,.slice RA rd.length c5,.slice (some ⟨ga,go,none⟩) xs.length c2'] 35):=by rw[fu];exact J_ne aD (J_ne aD (J_ne aD (J_ne aD (J_ne aD B0.o))))
 have b2:W4.heap[w.heap.size+2]?=some (.cells #[.slice none 0 0,.slice none 0 0,.slice none 0 0,.slice none 0 0,.slice none 0 0,.slice none 0 0,.slice none 0 0] 35):=by rw[fu];exact J_ne mN (J_ne mN (J_ne mN (J_ne mN (J_ne mN B2.o))))
 have FR:Qa w W4:=by rw[fu];exact zaN (zaN (zaN (zaN (zaN aJ.o Mdq _) Mdq _) Mdq _) Mdq _) Mdq _
 have aQ:(xs.set i x).map GX.cells=(((((xs.map GX.cells).set i ((xs[i]).cells.set 0 (.string x.g.place))).set i (((xs[i]).cells.set 0 (.string x.g.place)).set 1 (.int .i64 x.g.cls))).set i ((((xs[i]).cells.set 0 (.string x.g.place)).set 1 (.int .i64 x.g.cls)).set 2 (.int .i64 x.g.fin))).set i (((((xs[i]).cells.set 0 (.string x.g.place)).set 1 (.int .i64 x.g.cls)).set 2 (.int .i64 x.g.fin)).set 3 (.slice x.H x.g.holders.length x.hc))).set i ((((((xs[i]).cells.set 0 (.string x.g.place)).set 1 (.int .i64 x.g.cls)).set 2 (.int .i64 x.g.fin)).set 3 (.slice x.H x.g.holders.length x.hc)).set 4 (.slice x.D x.g.died.length x.dc)):=by
  simp only[List.set_set,List.map_set];rfl
 rw[<-aQ]at t4;obtain⟨T5,eB⟩:=yH2 t4 FR;clear t4 aQ T4 R3 aJ B0 B2 fu FR s0 s1 s2 s3 s4 s5 s6 v0 v1 v2 v3 v4 q0 q1 q2 q3 q4 rf aK;obtain⟨s0,s1,s2,s3,s4,s5,s6⟩:=zaK b0;obtain⟨r0,r1,r2,r3,r4,r5,r6⟩:=zaK b2;have rf:=frz b2;go_wp2_with fail
 refine bodyPost_ret (v:=.agg #[.slice LA laws.length c0,.slice CA s.children.length c1,.slice MA s.marriages.length c2,.slice DA s.dead.length c3,.slice WA wd.length c4,.slice RA rd.length c5,.slice (some ⟨ga,go,none⟩) xs.length c2']) ?_ rfl ?_
 ·exact zph rfl _ rfl (zc9 b2)
 ·have jQ:=zcH (a0:=.slice LA laws.length c0) (a1:=.slice CA s.children.length c1) (a2:=.slice MA s.marriages.length c2) (a3:=.slice DA s.dead.length c3) (a4:=.slice WA wd.length c4) (a5:=.slice RA rd.length c5) (a6:=.slice (some ⟨ga,go,none⟩) xs.length c2') eB.o (show w.heap.size<=w.heap.size+2 by omega);exact⟨ga,go,c2',by first|rfl|rw[iS.o],T5.o.ne7 dr,jQ⟩
theorem zmf{W:World}{e t:TypeId}{g o size b:Nat}{css:List (List Value)}{cs:Array Value}{fr:Nat×Nat}(h:RowC W e g o size css)(hb:W.heap[b]?=some (.cells cs t fr))(ag:t≠e):g≠b:=fun he=>by
 obtain⟨cur,h1,_⟩:=h.row;rw[he,hb]at h1;simp only[Option.some.injEq,Obj.cells.injEq]at h1;exact ag h1.2.1
theorem znn(laws:List Law)(s:St)(wd rd:List Deed)(LA CA MA DA WA RA GA:Option Addr)(c0 c1 c2 c3 c4 c5 c6:Nat)(gxs:List GX)(i:Nat)(hm:gxs.map (·.g)=s.graves){w:World}(bs:∀x∈gxs,x.ok w)(y:GX)(W:World)(ga go c:Nat)(h:StIn w laws s wd rd LA CA MA DA WA RA GA c0 c1 c2 c3 c4 c5 c6)(hk:StLink s wd rd)(hB:Qa w W)(hr:RowC W 161 ga go 5 ((gxs.set i y).map GX.cells))(hy:y.ok W):
 StAt W laws (s.withGrave i y.g) (.slice LA laws.length c0) (.slice CA s.children.length c1) (.slice MA s.marriages.length c2) (.slice DA s.dead.length c3) (.slice WA wd.length c4) (.slice RA rd.length c5) (.slice (some ⟨ga,go,none⟩) s.graves.length c):=by
 have h':=h.keep hB;refine⟨wd,rd,LA,CA,MA,DA,WA,RA,some ⟨ga,go,none⟩,c0,c1,c2,c3,c4,c5,c,rfl,rfl,rfl,rfl,rfl,rfl,?_,⟨h'.laws,h'.kids,h'.marr,h'.dead,h'.wills,h'.ren,?_,h'.deadc⟩,⟨hk.wills,hk.shares,hk.ren,hk.tos⟩⟩
 ·unfold St.withGrave;rw[List.length_set]
 ·refine slw_gx (hr.sl rfl) (by unfold St.withGrave;rw[List.map_set,hm]) fun x hx=>?_
  rcases List.mem_or_eq_of_mem_set hx with hx|rfl
  ·exact(bs x hx).keep hB
  ·exact hy
theorem ddF{W:World}{a b c:Nat}{x0 x1 x2 x3 x4 x5 x6 y0 y1 y2 y3 y4 y5 y6 z0 z1 z2 z3 z4 z5 z6:Value}{t t' u:TypeId}{f f':Nat×Nat}(h:W.heap[a]?=some (.cells #[x0,x1,x2,x3,x4,x5,x6] t f)/\W.heap[b]?=some (.cells #[y0,y1,y2,y3,y4,y5,y6] t' f')/\W.heap[c]?=some (.cells #[z0,z1,z2,z3,z4,z5,z6] u (0,0))):
 (W.heap[a]?=some (.cells #[x0,x1,x2,x3,x4,x5,x6] t f)/\W.heap[b]?=some (.cells #[y0,y1,y2,y3,y4,y5,y6] t' f')/\W.heap[c]?=some (.cells #[z0,z1,z2,z3,z4,z5,z6] u (0,0)))/\(W.cell? ⟨a,0,none⟩=some x0/\W.cell? ⟨a,1,none⟩=some x1/\W.cell? ⟨a,2,none⟩=some x2/\W.cell? ⟨a,3,none⟩=some x3/\W.cell? ⟨a,4,none⟩=some x4/\W.cell? ⟨a,5,none⟩=some x5/\W.cell? ⟨a,6,none⟩=some x6)/\(W.cell? ⟨b,0,none⟩=some y0/\W.cell? ⟨b,1,none⟩=some y1/\W.cell? ⟨b,2,none⟩=some y2/\W.cell? ⟨b,3,none⟩=some y3/\W.cell? ⟨b,4,none⟩=some y4/\W.cell? ⟨b,5,none⟩=some y5/\W.cell? ⟨b,6,none⟩=some y6)/\(W.cell? ⟨c,0,none⟩=some z0/\W.cell? ⟨c,1,none⟩=some z1/\W.cell? ⟨c,2,none⟩=some z2/\W.cell? ⟨c,3,none⟩=some z3/\W.cell? ⟨c,4,none⟩=some z4/\W.cell? ⟨c,5,none⟩=some z5/\W.cell? ⟨c,6,none⟩=some z6)/\(∀j,W.frozen? ⟨c,j,none⟩=false)/\a<W.heap.size/\b<W.heap.size/\c<W.heap.size:=
 ⟨h,zaK h.1,zaK h.2.1,zaK h.2.2,frz h.2.2,zab h.1,zab h.2.1,zab h.2.2⟩
theorem dd_boxes{w:World}(o0 o1 o2:Obj):Hid (Qa w (((w.alloc o0).alloc o1).alloc o2))/\Hid (∀W,Below (((w.alloc o0).alloc o1).alloc o2).heap.size (((w.alloc o0).alloc o1).alloc o2) W->W.heap[w.heap.size]?=some o0/\W.heap[w.heap.size+1]?=some o1/\W.heap[w.heap.size+2]?=some o2):=by
 refine⟨by show Below _ _ _;exact Bw,fun W hB=>⟨?_,?_,?_⟩⟩
 ·exact(hB.block _ Mcw).trans (zal (zal (zat _ _ _ rfl)))
 ·exact(hB.block _ Mcv).trans (zal (zat _ _ _ Mcv))
 ·exact(hB.block _ Mcv).trans (zat _ _ _ Mcv)
theorem zeL{w W0:World}{o0 o1 o2:Obj}(h:((w.alloc o0).alloc o1).alloc o2=W0):Hid (Qa w W0)/\Hid (∀W,Qa W0 W->W.heap[w.heap.size]?=some o0/\W.heap[w.heap.size+1]?=some o1/\W.heap[w.heap.size+2]?=some o2):=by
 subst h;exact dd_boxes _ _ _
theorem ziZ{s:St}{pl:ByteArray}{day:Int}(h:zaS s pl day=none):zk1 s.graves pl day= -1:=by rw[znV,h]
theorem zez{s:St}{pl:ByteArray}{day:Int}{i:Nat}(h:zaS s pl day=some i):zk1 s.graves pl day=i:=by rw[znV,h]
theorem gx_at{xs:List GX}{gs:List Grave}{i:Nat}{g:Grave}(hm:xs.map (·.g)=gs)(hg:gs[i]?=some g):∃(hi:i<xs.length),xs[i].g=g:=by
 rw[<-hm,List.getElem?_map]at hg;obtain⟨x,hx,rfl⟩:=Option.map_eq_some_iff.1 hg;obtain⟨hi,rfl⟩:=List.getElem?_eq_some_iff.1 hx;exact⟨hi,rfl⟩
theorem zpi(laws:List Law)(s:St)(wd rd:List Deed)(LA CA MA DA WA RA GA:Option Addr)(c0 c1 c2 c3 c4 c5 c6:Nat)(d:Deed)(B:Option Addr)(c:Nat)(w:World)(h:StIn w laws s wd rd LA CA MA DA WA RA GA c0 c1 c2 c3 c4 c5 c6)(hk:StLink s wd rd)(hf:StFew s wd rd)(hd:OkD d)(hS:Sl w 3 RPart.cells B d.to)(bH:∀g∈s.graves,g.fin<=200000):Calls Tryz.prog 76 #[.agg #[.slice LA laws.length c0,.slice CA s.children.length c1,.slice MA s.marriages.length c2,.slice DA s.dead.length c3,.slice WA wd.length c4,.slice RA rd.length c5,.slice GA s.graves.length c6],d.v B c] w (zfR w laws (zdb s d)):=by
 obtain⟨R,hR⟩:=Qd (zdb s d)
 rw[<-hR];obtain⟨gxs,hm,bs,bv⟩:=zpf h.graves;obtain⟨HM,cY,cd,ra⟩:=yH4 hm bs bv bH;clear hm bs bv bH;obtain⟨H,HK,HF,HD,HS,HR⟩:=yH6 (fun W (hB:Qa w W)=>h.keep hB) hk hf hd (fun W (hB:Qa w W)=>hS.keep hB) hR;unfold Deed.v;clear h hk hf hd hS hR;go_enter Tryz.func76,Tryz.ntmps76
 go_upto_region 1 with fail
 generalize am:World.alloc (World.alloc (World.alloc w _) _) _=W0;obtain⟨aj,au⟩:=zeL am;clear am;have aw:=aj.o.size;obtain⟨⟨xs0,xd0,xr0⟩,⟨s0,s1,s2,s3,s4,s5,s6⟩,⟨d0,d1,d2,d3,d4,d5,d6⟩,⟨r0,r1,r2,r3,r4,r5,r6⟩,rf,ls,ld,lr⟩:=ddF (au.o W0 Qb);have eC:=zHi (fun W (hB:Qa W0 W)=>zlZ d.place d.day W (H.o W (aj.o.trans (hB.mono aw))) HF.o);have hr:=HR.o;unfold zdb at hr;cases aK:zaS s d.place d.day with
 |none=>
  exact Mco
 |some i=>
  rw[aK]at hr;rw[zez aK]at eC;obtain⟨g,cK,cz,AB⟩:=ziK aK;simp only[cz]at hr;obtain⟨hi,ns⟩:=gx_at HM.o cK;have fg:i<s.graves.length:=MdU;have nw:=cY.o _ (List.getElem_mem hi);have rL:=zHi (fun(y:GX) W (hB:Qa W0 W)=>ziY laws s wd rd LA CA MA DA WA RA GA c0 c1 c2 c3 c4 c5 c6 gxs i y W HM.o (cd.o.keep (aj.o.trans (hB.mono aw))) HF.o fg);obtain⟨km,aA⟩:=yH2 (znn laws s wd rd LA CA MA DA WA RA GA c0 c1 c2 c3 c4 c5 c6 gxs i HM.o cY.o) (fun W (hB:Qa W0 W)=>H.o W (aj.o.trans (hB.mono aw)));go_upto_region 2 with(go_at_call 116;go_must(refine(eC.o _ Qb).mono ?_);rintro e wq ⟨rfl,z1,rfl⟩)
  obtain⟨W1,aP⟩:=Qd (W0.ext z1)
  have aO:Qa W0 W1:=Mdk;rw[<-aP];clear aP;clear xs0 xd0 xr0 s0 s1 s2 s3 s4 s5 s6 d0 d1 d2 d3 d4 d5 d6 r0 r1 r2 r3 r4 r5 r6 rf ls ld lr;obtain⟨⟨xs0,xd0,xr0⟩,⟨s0,s1,s2,s3,s4,s5,s6⟩,⟨d0,d1,d2,d3,d4,d5,d6⟩,⟨r0,r1,r2,r3,r4,r5,r6⟩,rf,ls,ld,lr⟩:=ddF (au.o W1 (aO));have xa:=aO.size;have eX:=aj.o.trans (aO.mono aw);obtain⟨gb,gof,mg,cL,ah⟩:=(cd.o.keep eX).at hi;generalize gxs[i]=x at*;subst ns;subst mg;have i0:=ah 0 _ rfl;have i1:=ah 1 _ rfl;have i2:=ah 2 _ rfl;have i3:=ah 3 _ rfl;have i4:=ah 4 _ rfl;simp only[Nat.add_zero]at i0;have xE:(i:Int)<(s.graves.length:Int):=Mcq;have eG:(0:Int)<=(i:Int):=Mcq;have aM:¬(i:Int)<0:=Mcq;clear ah;go_upto_region 5 with fail
  obtain⟨W2,cF⟩:=Qd (W1.alloc (.cells #[.string x.g.place,.int .i64 x.g.cls,.int .i64 x.g.fin,.slice x.H x.g.holders.length x.hc,.slice x.D x.g.died.length x.dc] 161))
  have gG:W2.heap[W1.heap.size]?=some (.cells #[.string x.g.place,.int .i64 x.g.cls,.int .i64 x.g.fin,.slice x.H x.g.holders.length x.hc,.slice x.D x.g.died.length x.dc] 161):=Mes;have aC:Hid (Qa W0 W2):=MdC;have l8:W1.heap.size<W2.heap.size:=zab gG;have uS:=zHi eX;obtain⟨GB,jl⟩:=Qd W1.heap.size
  rw[<-cF,<-jl];rw[<-jl]at gG l8;have iY:W0.heap.size<=GB:=Mcq;clear cF jl aO eX i0 i1 i2 i3 i4;clear xs0 xd0 xr0 s0 s1 s2 s3 s4 s5 s6 d0 d1 d2 d3 d4 d5 d6 r0 r1 r2 r3 r4 r5 r6 rf ls ld lr;obtain⟨g0,g1,g2,g3,g4⟩:=zeg gG;by_cases oY:x.g.fin<0
  ·have HE:Hid (R=(s,15)):=by show _=_;rw[hr,if_pos (by simpa using oY)]
   clear hr;go_upto_region 6 with fail
   obtain⟨⟨xs0,xd0,xr0⟩,⟨s0,s1,s2,s3,s4,s5,s6⟩,⟨d0,d1,d2,d3,d4,d5,d6⟩,⟨r0,r1,r2,r3,r4,r5,r6⟩,rf,ls,ld,lr⟩:=ddF (au.o W2 (aC.o));have aZ:=aC.o;exact Mf
  ·rw[if_neg (by simpa using oY)]at hr;have f9:=ra.o x.g (List.mem_of_getElem? cK);have Bh:=zHi (fun W=>zjV x.g.fin d.years W Mcq f9 HD.o.years.1 HD.o.years.2);have g2f:=frz gG;obtain⟨⟨xs0,xd0,xr0⟩,⟨s0,s1,s2,s3,s4,s5,s6⟩,⟨d0,d1,d2,d3,d4,d5,d6⟩,⟨r0,r1,r2,r3,r4,r5,r6⟩,rf,ls,ld,lr⟩:=ddF (au.o W2 (aC.o));have GG:=zHi gG;generalize zcg x.g.fin d.years=af at*;go_upto_region 8 with(go_at_call 118;go_must(refine(Bh.o _).mono ?_);rintro e wq ⟨rfl,z2,rfl⟩)
   clear xs0 xd0 xr0 s0 s1 s2 s3 s4 s5 s6 d0 d1 d2 d3 d4 d5 d6 r0 r1 r2 r3 r4 r5 r6 rf ls ld lr;obtain⟨W3,bo⟩:=Qd ((W2.setCell ⟨GB,2,none⟩ (.int .i64 af)).ext z2)
   have gG3:W3.heap[GB]?=some (.cells #[.string x.g.place,.int .i64 x.g.cls,.int .i64 af,.slice x.H x.g.holders.length x.hc,.slice x.D x.g.died.length x.dc] 161):=by
    rw[bo];exact Mbt
   have eP:Qa W0 W3:=by rw[bo];exact zaZ (zaN aC.o iY _) z2
   rw[<-bo];clear bo g0 g1 g2 g3 g4 g2f;obtain⟨g0,g1,g2,g3,g4⟩:=zeg gG3;have vZ:=eP.size;have cg:=zab gG3;obtain⟨⟨xs0,xd0,xr0⟩,⟨s0,s1,s2,s3,s4,s5,s6⟩,⟨d0,d1,d2,d3,d4,d5,d6⟩,⟨r0,r1,r2,r3,r4,r5,r6⟩,rf,ls,ld,lr⟩:=ddF (au.o W3 (eP));by_cases oN:af<0
   ·have HE:Hid (R=(s,2)):=by show _=_;rw[hr,if_pos (by simpa using oN)]
    clear hr;go_upto_region 9 with fail
    have aZ:=eP;exact Mf
   ·have HE:Hid (R=(s.withGrave i {x.g with fin:=af},0)):=by show _=_;rw[hr,if_neg (by simpa using oN)]
    have lZ:=zHi (rL.o {x with g:= {x.g with fin:=af}} W3 eP);unfold GX.cells zgT at lZ;dsimp only at lZ;have aJ:=zHi eP;clear hr aK;go_upto_region 10 with fail
    go_wp2_with (go_at_call 125
                 go_must(refine(lZ.o).mono ?_)
                 rintro e w5 ⟨ga,go,gc,rfl,aX,aq⟩;have aV:=aJ.o.trans (aq.mono vZ);obtain⟨_,_,xr5⟩:=au.o w5 aV;obtain⟨t0,t1,t2,t3,t4,t5,t6⟩:=zaK xr5;have tf:=frz xr5;obtain⟨bB,bR⟩:=yH2 aX aV
                 clear aX aq aV)
    rw[HE.o];refine bodyPost_ret (zb8 rfl _ rfl rfl (zc9 xr5)) rfl ?_;have cy:=zcH (a0:=.slice LA laws.length c0) (a1:=.slice CA s.children.length c1) (a2:=.slice MA s.marriages.length c2) (a3:=.slice DA s.dead.length c3) (a4:=.slice WA wd.length c4) (a5:=.slice RA rd.length c5) (a6:=.slice (some ⟨ga,go,none⟩) s.graves.length gc) (aj.o.trans (bR.o.mono aw)) (show w.heap.size<=w.heap.size+2 by omega);exact⟨_,_,_,_,_,_,_,rfl,rfl,cy,fun _=>km.o {x with g:= {x.g with fin:=af}} _ ga go gc (H.o w Qb) HK.o cy (bB.o.ne7 (zmf bB.o xr5 Mcu)) (nw.keep cy)⟩

/- The law TopSharesAreOne, walked. -/
import Derived.Test.YtmfbdfejhdkiaaaGreatDoorNL
set_option linter.all false
set_option maxRecDepth 100000
set_option maxHeartbeats 4000000
namespace Go.Proofs.YtmfbdfejhdkiaaaGreatDoor
open Go.RowKit Go.Shelf
attribute [local go_sem] World.cell?_alloc_mark zae za4 zao za8 zav zaw zax zay zaz za0 za1
attribute [local go_sem] zap zac
theorem top_parts{ls:List Law}{ds:List Deed}{pl:ByteArray}{dy:Int}(h:zct ls ds [pl] dy=0):PartsOk (hOn ls ds pl dy):=by
 obtain⟨_,hg⟩:=zna h;exact zoW hg pl dy
def zkS(xs:Parts)(v:Value)(W:World):Prop:= ∃A c,v=.tuple #[.slice A xs.length c,.int .i64 0]/\Sl W 3 zaa A xs
theorem zpy(xs:Parts):zoE (zkS xs):=fun _ W z ⟨A,c,h,k⟩=>⟨A,c,h,k.keep (zaq W z)⟩
def zmq(xs:Parts)(v:Value)(W:World):Prop:= ∃A c,v=.slice A xs.length c/\Sl W 3 zaa A xs
theorem zn0(xs:Parts):zoE (zmq xs):=fun _ W z ⟨A,c,h,k⟩=>⟨A,c,h,k.keep (zaq W z)⟩
def TenAt(ls:List Law)(es:List Deed)(pl:ByteArray)(W:World)(A:Option Addr)(n:Nat):Prop:= ∃txs,n=txs.length/\TopTen ls es pl txs/\Sl W 2 TX.cells A txs/\∀x∈txs,Sl W 3 zaa x.A x.hs
theorem TenAt.keep{ls:List Law}{es:List Deed}{pl:ByteArray}{W V:World}{A:Option Addr}{n:Nat}(h:TenAt ls es pl W A n)(hB:Qa W V):TenAt ls es pl V A n:=by
 obtain⟨txs,h1,h2,h3,h4⟩:=h;exact⟨txs,h1,h2,h3.keep hB,fun x hx=>(h4 x hx).keep hB⟩
def wTen(ls:List Law)(es:List Deed)(pl:ByteArray)(v:Value)(W:World):Prop:= ∃A n c,v=.tuple #[.slice A n c,.int .i64 0]/\TenAt ls es pl W A n
theorem mono_wTen(ls:List Law)(es:List Deed)(pl:ByteArray):zoE (wTen ls es pl):=fun _ W z ⟨A,n,c,h,k⟩=>⟨A,n,c,h,k.keep (zaq W z)⟩
def wTen1(ls:List Law)(es:List Deed)(pl:ByteArray)(v:Value)(W:World):Prop:= ∃A n c,v=.slice A n c/\TenAt ls es pl W A n
theorem zpz(ls:List Law)(es:List Deed)(pl:ByteArray):zoE (wTen1 ls es pl):=fun _ W z ⟨A,n,c,h,k⟩=>⟨A,n,c,h,k.keep (zaq W z)⟩
theorem zmr{s:ByteArray}(h:zaE s=true):s.size<=100000:=by
 unfold zaE at h;simp only[Bool.and_eq_true,decide_eq_true_eq]at h;omega
theorem top_lens{d:Deed}(h:OkD d)(hp:d.place.size<=100000)(ht:d.to.length<=100000):zdE d:=by
 refine⟨hp,?_,fun p hx=>zmr (h.names p hx),ht⟩;by_cases hk:d.kind=0\/d.kind=3
 ·rw[noB_nil (h.grantor hk)];exact Nat.zero_le _
 ·exact zmr (h.frm hk)
def plAt(p:ByteArray):Nat->ByteArray
 |0=>⟨#[97,49]⟩
 |1=>⟨#[97,50]⟩
 |_=>p
theorem plAt_name{p:ByteArray}(h:zaE p=true):∀k,zaE (plAt p k)=true
 |0=>by kernel_rfl
 |1=>by kernel_rfl
 |_+2=>h
theorem plAt_size{p:ByteArray}(h:p.size<=20):∀k,(plAt p k).size<=20
 |0=>by show 2<=20;omega
 |1=>by show 2<=20;omega
 |_+2=>h
theorem zkT{w w':World}{ls:List Law}{ds:List Deed}{pl:ByteArray}{dy:Int}{e:Ending}{hs:Parts}(h:zgi w ls ds pl dy e w')(h0:zct ls ds [pl] dy=0)(h1:hOn ls ds pl dy=hs):Qa w w'/\∃A c,e=.returned (.tuple #[.slice A hs.length c,.int .i64 0])/\Sl w' 3 zaa A hs:=by
 subst h1;obtain⟨hb,⟨hx,_⟩|⟨_,A,c,he,_,hS⟩⟩:=h
 ·exact absurd h0 hx
 ·exact⟨hb,A,c,he,hS⟩
theorem zgp(ls:List Law)(ds:List Deed)(d:Deed)(LA:Option Addr)(n nc:Nat)(DA:Option Addr)(m mc:Nat)(B:Option Addr)(c:Nat)(w:World)(hL:Laid2 w)(hR:RightsIn w ls ds LA n nc DA m mc)(ao:d.to.length<=c)(hS:Sl w 3 RPart.cells B d.to)(GZ:d.frm.size<=9223372036854775807)(nU:∀p∈d.to,p.name.size<=9223372036854775807):
 Calls Tryz.prog 3 #[.agg #[.slice LA n nc,.slice DA m mc],d.v B c] w (Ret w (.bool true)):=by
 obtain⟨rfl,rfl⟩:n=ls.length/\m=ds.length:=⟨hR.ln,hR.dn⟩
 obtain⟨HL,HR,rb,dj,zv,Fs,Fb⟩:=yH7 hL hR (fun W (h:Qa w W)=>few_any ls ds LA ls.length nc DA ds.length mc W (hR.keep h)) (fun W (h:Qa w W)=>(hS.keep h:Sl W 3 RPart.cells B d.to)) ao nU GZ;unfold Deed.v;clear hL hR hS ao nU GZ;go_enter Tryz.func3,Tryz.ntmps3
 go_upto_region 1 with fail
 obtain⟨W0,am⟩:=Qd ((w.alloc (.cells #[.slice LA ls.length nc,.slice DA ds.length mc] 25)).alloc (.cells #[.int .i64 d.kind,.int .i64 d.day,.string d.place,.string d.frm,.slice B d.to.length c,.int .i64 d.cls,.int .i64 d.years] 28))
 have b0:W0.heap[w.heap.size]?=some (.cells #[.slice LA ls.length nc,.slice DA ds.length mc] 25):=MdM;have q0:W0.heap[w.heap.size+1]?=some (.cells #[.int .i64 d.kind,.int .i64 d.day,.string d.place,.string d.frm,.slice B d.to.length c,.int .i64 d.cls,.int .i64 d.years] 28):=by rw[am];exact zat _ _ _ Mcv
 have aS:Qa w W0:=Mc1;rw[<-am];have aj:=zHi aS;clear am aS;go_upto_region 3 with(go_at_call 4;go_must(refine(zkR _ (HL.o.keep aj.o)).mono ?_);rintro e wq ⟨rfl,z0,rfl⟩)
 have c0:(W0.ext z0).heap[w.heap.size]?=some (.cells #[.slice LA ls.length nc,.slice DA ds.length mc] 25):=zby b0;have c1:(W0.ext z0).heap[w.heap.size+1]?=some (.cells #[.int .i64 d.kind,.int .i64 d.day,.string d.place,.string d.frm,.slice B d.to.length c,.int .i64 d.cls,.int .i64 d.years] 28):=zby q0;have dC:Qa w (W0.ext z0):=zaZ aj.o z0;generalize W0.ext z0=W1 at*;have aE:=zHi dC;clear b0 q0 aj dC;obtain⟨r0,r1⟩:=zbj c0;obtain⟨e0,e1,e2,e3,e4,e5,e6⟩:=zaK c1;have l0:=zab c0;have l1:=zab c1;cases sN:fewP ls ds
 ·rw[sN]at rb;clear sN;exact Maa
 obtain⟨bs,td,sI,tC⟩:=few_lens sN;rw[sN]at rb;clear sN;by_cases fP:10<d.to.length
 ·have EP:(10:Int)<(d.to.length:Int):=Mcq;clear bs td sI tC fP;exact Maa
 have EP:¬(10:Int)<(d.to.length:Int):=Mcq;by_cases kI:20<d.place.size
 ·have yF:(20:Int)<(d.place.size:Int):=Mcq;clear bs td sI tC fP kI;exact Maa
 have yF:¬(20:Int)<(d.place.size:Int):=Mcq;have cJ:zno d:=⟨by omega,Fb.o,Fs.o,by omega⟩
 obtain⟨gX,fS,Cd⟩:=yH3 (fun W (h:Qa w W)=>zpj ls ds d LA ls.length nc DA ds.length mc B c W (HR.o.keep h) (HL.o.keep h).forms (HL.o.keep h).lens bs Mcq Mcq cJ zv.o (dj.o W h)) (fun W (h:Qa w W)=>znr ls ds 200000 LA ls.length nc DA ds.length mc W (HR.o.keep h) bs Mcq) (fun W (h:Qa w W)=>(HR.o.keep h:RightsIn W ls ds LA ls.length nc DA ds.length mc));have yA:zdE d\/zfN ls ds d≠0:=by
  by_cases hE:zfN ls ds d=0
  ·exact .inl (top_lens (zgV hE).1 Mcq Mcq)
  ·exact .inr hE
 have cu:=zHi (fun W (h:Qa w W)=>zdo d.place W Mcq);obtain⟨es,eZ⟩:=Qd (zjh ds d (zfN ls ds d))
 have yB:∀x∈es,zdE x:=fun x hx=>by
  rw[eZ]at hx;unfold zjh at hx;split at hx
  ·rename_i hE
   rcases List.mem_append.1 hx with h|h
   ·exact bs x h
   ·rw[List.mem_singleton.1 h];exact yA.resolve_right (fun h=>h hE)
  ·exact bs x hx
 have fY:es.length<=15:=by have:=more_len ds d (zfN ls ds d);rw[eZ];omega
 obtain⟨Fa,BC,vg⟩:=yH3 fY yB eZ;unfold znq at fS;unfold Deed.v at gX;have cY:=zHi bs;clear bs td sI tC HR fP cJ yA kI fY yB eZ Fb Fs dj zv;go_upto_region 5 with(go_at_call 5;go_must(refine(rb.o _ Men).mono ?_);rintro e wq ⟨rfl,z,rfl⟩)
 have g0:(W1.ext z).heap[w.heap.size]?=some (.cells #[.slice LA ls.length nc,.slice DA ds.length mc] 25):=zby c0;have g1:(W1.ext z).heap[w.heap.size+1]?=some (.cells #[.int .i64 d.kind,.int .i64 d.day,.string d.place,.string d.frm,.slice B d.to.length c,.int .i64 d.cls,.int .i64 d.years] 28):=zby c1;have bx:Qa w (W1.ext z):=zaZ aE.o z;generalize W1.ext z=W2 at*;obtain⟨aC,G0,G1⟩:=yH3 bx g0 g1;clear c0 c1 r0 r1 e0 e1 e2 e3 e4 e5 e6 l0 l1 aE rb bx;obtain⟨r0,r1⟩:=zbj g0;have l0:=zab g0;have l1:=zab g1;clear g0 g1;obtain⟨Q,hQ⟩:=Qd (zaB ls ds 200000)
 have HQ:=zHi hQ;rw[<-hQ]at fS;clear hQ;obtain⟨st,kk,er⟩:=Q;simp only at fS
 go_upto_region 6 with(
  go_at_call 6
  go_must(refine(fS.o _ aC.o).mono ?_)
  rintro e w3 ⟨b0,b1,b2,b3,b4,b5,b6,rfl,be,av,_⟩;obtain⟨⟨A0,m0,q0,rfl⟩,⟨A1,m1,q1,rfl⟩,⟨A2,m2,q2,rfl⟩,⟨A3,m3,q3,rfl⟩,⟨A4,m4,q4,rfl⟩,⟨A5,m5,q5,rfl⟩,⟨A6,m6,q6,rfl⟩⟩:=zcS be;have aJ:=zHi av
  clear av be)
 obtain⟨W3,bo⟩:=Qd (w3.alloc (.cells #[.slice A0 m0 q0,.slice A1 m1 q1,.slice A2 m2 q2,.slice A3 m3 q3,.slice A4 m4 q4,.slice A5 m5 q5,.slice A6 m6 q6] 35))
 have av:Qa W2 W3:=by rw[bo];exact zad aJ.o _
 rw[<-bo];have g0:W3.heap[w.heap.size]?=some (.cells #[.slice LA ls.length nc,.slice DA ds.length mc] 25):=(av.block _ (zab G0.o)).trans G0.o;have g1:W3.heap[w.heap.size+1]?=some (.cells #[.int .i64 d.kind,.int .i64 d.day,.string d.place,.string d.frm,.slice B d.to.length c,.int .i64 d.cls,.int .i64 d.years] 28):=(av.block _ (zab G1.o)).trans G1.o;have H3:=zHi (aC.o.trans (av.mono aC.o.size));clear bo r0 r1 l0 l1 aJ fS av aC G0 G1;by_cases fx:er=0;rotate_left 1
 ·have wu:(er != 0)=true:=by simpa using fx
  clear fx;go_wp2_with fail
  go_ret
  exact Ret.of rfl H3.o
 subst fx;obtain⟨r0,r1⟩:=zbj g0;obtain⟨e0,e1,e2,e3,e4,e5,e6⟩:=zaK g1;have l0:=zab g0;have l1:=zab g1;have tX:Hid ((zaB ls ds 200000).2.2=0):=zHi (by rw[<-HQ.o]);clear HQ;obtain⟨E,hE⟩:=Qd (zfN ls ds d)
 have HE:=zHi hE;rw[<-hE]at gX vg;clear hE
 go_upto_region 9 with(
  go_at_call 7
  go_must(refine(gX.o _ H3.o).mono ?_)
  intro e w4 I7;obtain⟨ay,P,p,q,R,r,s,rfl,qH⟩:=next_res I7;clear I7;obtain⟨eB,iR⟩:=yH2 ay qH
  clear ay qH)
 clear gX;obtain⟨W4,fu⟩:=Qd (w4.alloc (.cells #[.slice P p q,.slice R r s] 25))
 obtain⟨gb,cL⟩:=Qd w4.heap.size
 have x4:W4.heap[gb]?=some (.cells #[.slice P p q,.slice R r s] 25):=by rw[fu,cL];exact zat _ _ _ rfl
 have aT:Qa w4 W4:=by rw[fu];exact zad Qb _
 have E0:W3.heap.size<=gb:=by rw[cL];exact eB.o.size
 rw[<-fu,<-cL];obtain⟨zp,HX,BF⟩:=yH3 (eB.o.trans (aT.mono eB.o.size)) (iR.o.keep aT) E0;clear fu cL eB iR aT E0;have CO:=vg.o;unfold zjh at CO;have iJ:=zHi CO;have oT:=zp.o;have r0:=(zah oT l0).trans r0;have r1:=(zah oT l0).trans r1;have l0:w.heap.size<W4.heap.size:=by have:=oT.size;omega
 have lx:=zab x4;have X4:=zHi x4;obtain⟨x0,x1⟩:=zbj x4;have f4:=frz x4;clear CO oT x4 e0 e1 e2 e3 e4 e5 e6 l1;go_upto_if 55 with fail
 go_cut []from 54 to 57 (fun W=>∃P q R s,W.heap[gb]?=some (.cells #[.slice P ls.length q,.slice R es.length s] 25)/\RightsIn W ls es P ls.length q R es.length s/\Qa W3 W)
 case first=>
  by_cases hE:E=0
  ·have wu:(E != 0)=false:=by simpa using hE
   have he:=iJ.o;rw[if_pos hE]at he;have hl:es.length=ds.length+1:=by rw[he];simp
   obtain⟨h,_⟩|⟨_,rfl,rfl,B7⟩:=HX.o
   ·exact absurd hE h
   have HF:=zHi (And.intro he (And.intro hl B7));clear hE he hl B7;go_wp2_with fail
   go_meet
   obtain⟨he,hl,B7⟩:=HF.o;rw[he,List.length_append];exact⟨P,q,R,s,X4.o,B7,zp.o⟩
  ·have wu:(E != 0)=true:=by simpa using hE
   have he:=iJ.o;rw[if_neg hE]at he;have HF:=zHi he;clear hE he;go_wp2_with fail
   go_meet
   rw[HF.o];have hb:=zaN (zaN zp.o (p:=⟨gb,0,none⟩) BF.o (.slice LA ls.length nc)) (p:=⟨gb,1,none⟩) BF.o (.slice DA ds.length mc);exact⟨LA,nc,DA,mc,ziT X4.o,Cd.o _ (H3.o.trans (hb.mono H3.o.size)),hb⟩
 case rest=>
 obtain⟨P,q,R,s,x5,yJ,aq⟩:=hcut;obtain⟨W5,sk⟩:=Qd wc
 subst sk;clear x0 x1 f4 X4 HX zp iJ lx r0 r1 l0;obtain⟨G0,G1,X5,cE,bn⟩:=yH5 ((aq.block _ (zab g0)).trans g0) ((aq.block _ (zab g1)).trans g1) x5 yJ (H3.o.trans (aq.mono H3.o.size));clear x5 yJ aq g0 g1 H3 BF;obtain⟨e0,e1,e2,e3,e4,e5,e6⟩:=zaK G1.o;have l1:=zab G1.o;go_upto_region 12 with fail
 obtain⟨W6,eF⟩:=Qd (W5.alloc (.cells #[.string ⟨#[97,49]⟩,.string ⟨#[97,50]⟩,.string ⟨#[98]⟩] 41))
 obtain⟨pb,AS⟩:=Qd W5.heap.size
 have p6:W6.heap[pb]?=some (.cells #[.string ⟨#[97,49]⟩,.string ⟨#[97,50]⟩,.string ⟨#[98]⟩] 41):=by rw[eF,AS];exact zat _ _ _ rfl
 have aV:Qa W5 W6:=by rw[eF];exact zad Qb _
 have zO:=zHi (show W5.heap.size<=pb by omega);rw[<-eF,<-AS];have e2:=(zah aV l1).trans e2;have lp:=zab p6;have P6:=zHi p6;have f6:=frz p6;obtain⟨-,-,p62⟩:=cF3 p6;have H6:=zHi aV;have l1:w.heap.size+1<W6.heap.size:=Md1;clear eF AS e0 e1 e3 e4 e5 e6 aV p6;have aU:=zHi (bn.o.trans (H6.o.mono bn.o.size));obtain⟨nm,kG⟩:=Qd (zcN d.place)
 have tU:=zHi kG;have nF:Hid (d.place.size<=20):=zHi Mcq;have rl:=zHi (fun W (h:Qa w W)=>(cu.o W h));rw[<-kG]at rl;clear kG cu;go_upto_if 60 with(go_at_call 8;go_must(refine(rl.o _ aU.o).mono ?_);rintro e wq ⟨rfl,rfl⟩)
 go_cut []from 58 to 64 (fun W=>∃p2,zaE p2=true/\p2.size<=20/\W.heap[pb]?=some (.cells #[.string ⟨#[97,49]⟩,.string ⟨#[97,50]⟩,.string p2] 41)/\Qa W5 W)
 case first=>
  cases nm
  ·go_wp2_with fail
   go_meet
   exact⟨⟨#[98]⟩,by kernel_rfl,by decide,P6.o,H6.o⟩
  ·have hp:=tU.o;rw[<-zcw]at hp;have HP:=zHi hp.symm;clear hp;go_wp2_with fail
   go_meet
   refine⟨d.place,HP.o,nF.o,?_,zaN H6.o zO.o _⟩;have:=Joins.block_setCell (i:=2) P6.o (.string d.place);simpa using this
 case rest=>
 obtain⟨p2,pA,bk,p7,bK⟩:=hcut;obtain⟨W7,KR⟩:=Qd wc
 subst KR;obtain⟨jo,cr,P7,Jn,tY⟩:=yH5 bK (bn.o.trans (bK.mono bn.o.size)) p7 pA bk
 have aB:Hid (∀(k:Nat) (pk:ByteArray),k<3->pk=plAt p2 k->∀w',Qa W7 w'->w'.cell? ⟨w.heap.size,0,none⟩=some (.slice LA ls.length nc)/\w'.cell? ⟨w.heap.size,1,none⟩=some (.slice DA ds.length mc)/\w'.cell? ⟨w.heap.size+1,1,none⟩=some (.int .i64 d.day)/\w'.cell? ⟨gb,0,none⟩=some (.slice P ls.length q)/\w'.cell? ⟨gb,1,none⟩=some (.slice R es.length s)/\w'.cell? ⟨pb,k,none⟩=some (.string pk)):=zHi (fun k pk hk uC w' h=>by
  have hb:=jo.o.trans (h.mono jo.o.size);obtain⟨r0,r1⟩:=zbj G0.o;obtain⟨_,e1,_,_,_,_,_⟩:=zaK G1.o;obtain⟨x0,x1⟩:=zbj X5.o;have hp:W7.cell? ⟨pb,k,none⟩=some (.string pk):=by
   subst uC;have h7:=P7.o;match k,hk with
   |0,_=>simp only[World.cell?,h7];rfl
   |1,_=>simp only[World.cell?,h7];rfl
   |2,_=>simp only[World.cell?,h7];rfl
  exact⟨(zah hb (zab G0.o)).trans r0,(zah hb (zab G0.o)).trans r1,(zah hb (zab G1.o)).trans e1,(zah hb (zab X5.o)).trans x0,(zah hb (zab X5.o)).trans x1,(zah h (zab P7.o)).trans hp⟩)
 have Fw:Hid (∀k,zaE (plAt p2 k)=true/\(plAt p2 k).size<=20):=zHi (fun k=>⟨plAt_name pA k,plAt_size bk k⟩);have eu:=zHi (fun pk (hp:pk.size<=20) W (h:Qa W7 W)=>zmp ls es pk P ls.length q R es.length s W (cE.o.keep (jo.o.trans (h.mono jo.o.size))) (HL.o.keep (cr.o.trans (h.mono cr.o.size))).forms (HL.o.keep (cr.o.trans (h.mono cr.o.size))).lens BC.o Mcq (by have:=Fa.o;omega));have Fh:=zHi (fun pk (hp:pk.size<=20) dy W (h:Qa W7 W)=>zgj ls es pk dy P ls.length q R es.length s W (cE.o.keep (jo.o.trans (h.mono jo.o.size))) (HL.o.keep (cr.o.trans (h.mono cr.o.size))).forms (HL.o.keep (cr.o.trans (h.mono cr.o.size))).lens BC.o Mcq);have Ff:=zHi (fun pk (hp:pk.size<=20) dy W (h:Qa W7 W)=>zgj ls ds pk dy LA ls.length nc DA ds.length mc W (Cd.o W (cr.o.trans (h.mono cr.o.size))) (HL.o.keep (cr.o.trans (h.mono cr.o.size))).forms (HL.o.keep (cr.o.trans (h.mono cr.o.size))).lens cY.o Mcq);have jb:(zaB ls es 200000).2.2=0:=by
  rw[vg.o,HE.o];exact more_ok tX.o
 obtain⟨FC,pJ⟩:=yH2 (fun pk (hp:zaE pk=true) txs L hL hl ht=>top_ten (pl:=pk) (txs:=txs) (L:=L) jb hp Fa.o hL hl ht) (fun pk (hp:zaE pk=true) (hE:E=0) (hd:0<d.day)=>znz (ls:=ls) (ds:=ds) (d:=d) (pl:=pk) tX.o hp (HE.o.symm.trans hE) hd);rw[<-HE.o,<-vg.o]at pJ;have Ft:=zHi (fun pk (hp:zaE pk=true)=>(on_at jb Mel Mcs:zct ls es [pk] 0=0));unfold TenApi at eu;clear jb pA bk p7 bK P6 f6 p62 lp e2 l1 rl tU nF H6 aU zO G0 G1 X5 cE bn jo Cd cY BC HL Jn tY P7 tX vg HE;go_upto_block 0 with fail
 go_wp2_with fail
 go_loopw [11,12,13,14,15,16,17,18,19,20,21,22] (fun i _ _ _ _ _ _ _ _ _ _ _ wr=>∃j:Nat,j<=3/\i=.int .i64 j/\Qa W7 wr) (fun i _ _ _ _ _ _ _ _ _ _ _ _=>3-(intOf i).toNat)
 case atStart=>exact⟨0,Nat.zero_le _,rfl,Qb⟩
 case round=>
  obtain⟨k,hk,rfl,mA⟩:=hrel;by_cases aa:k<3
  ·obtain⟨pk,uC⟩:=Qd (plAt p2 k)
   have hs:=aB.o k pk aa uC;obtain⟨pB,cT⟩:=Fw.o k;rw[<-uC]at pB cT;obtain⟨V,hV⟩:=Qd wr
   subst hV;obtain⟨HV,eO,dJ,iQ,iN,vU,qM,kj⟩:=yH8 mA (fun w' (h:Qa V w')=>hs w' (mA.trans (h.mono mA.size))) (fun W (h:Qa W7 W)=>eu.o pk cT W h) (fun dy W (h:Qa W7 W)=>Fh.o pk cT dy W h) (fun dy W (h:Qa W7 W)=>Ff.o pk cT dy W h) (fun txs L hL hl ht=>FC.o pk pB txs L hL hl ht) (fun h1 h2=>pJ.o pk pB h1 h2) (Ft.o pk pB);have ak:=zHi aa;have uy:(k:Int)<3:=Mcq;have aR:(0:Int)<=(k:Int):=Mcq;clear aB Fw eu Fh Ff FC pJ Ft hs pB cT mA uC aa;go_upto_region 17 with fail
   go_cut [12,13]from 68 to 76 (fun v12 v13 W=>∃A n c,v12=.slice A n c/\v13=.int .i64 0/\TenAt ls es pk W A n/\Qa V W)
   case first=>
    apply zcG (n:=8) (E:=[7]) (D:=[]) (V:=vL [vIs (.agg #[.slice P ls.length q,.slice R es.length s]),vIs (.int .i64 k),vIs (.pointer (some ⟨pb,k,none⟩)),vIs (.string pk),wTen ls es pk,wTen ls es pk,wTen1 ls es pk,vIs (.int .i64 0)])
    case hm=>kernel_rfl
    case hht=>kernel_rfl
    case hDE=>decide
    case hQ=>intro d v c a w h;cases d<;>exact h
    case hmono=>exact ziG McV
    case hA=>intro f;simp[zdF,Act.put];rfl
    case hal=>trivial
    case hstep=>
     simp only[List.take_succ_cons,List.take_zero,zd1,and_true];refine⟨?_,?_,?_,?_,?_,?_,?_,?_⟩
     ·exact Mb2
     ·exact Mb2
     ·exact Mb2
     ·exact Mb2
     ·intro f z h;have h0:f 0=.agg #[.slice P ls.length q,.slice R es.length s]:=h ⟨0,.data⟩ Mcv rfl;have h3:f 3=.string pk:=h ⟨3,.data⟩ Mcv rfl;clear h;unfold zdD;go_simp
      refine(dJ.o _ (HV.o.trans ((zaZ (zaF Qb) z).mono HV.o.size))).mono ?_;rintro e wq ⟨hb,⟨hx,_⟩|⟨_,A,c,txs,L,rfl,t1,t2,t3,t4,t5⟩⟩
      ·exact absurd kj.o hx
      ·exact⟨_,rfl,⟨A,txs.length,c,rfl,txs,rfl,vU.o txs L t3 t4 t5,t1,t2⟩,zaU hb⟩
     ·intro f z h;have h4:=h ⟨4,.data⟩ Mcv rfl;exact M8
     ·intro f z h;obtain⟨A,n,c,h5,ht⟩:=h ⟨5,.data⟩ Mcv rfl;clear h;unfold zdD;go_simp
      exact⟨⟨A,n,c,rfl,ht⟩,stays _⟩
     ·intro f z h;obtain⟨A,n,c,h5,ht⟩:=h ⟨5,.data⟩ Mcv rfl;exact M7
    case heag=>
     simp only[zdn,and_true];intro o ho f z h;obtain rfl:=Option.some.inj ho;obtain⟨A,n,c,h5,ht⟩:=h ⟨5,.data⟩ Mcv rfl;exact⟨.int .i64 0,rfl,fun W=>by go_simp⟩
    case hend=>
     intro f z h _;obtain⟨A,n,c,e6,ht⟩:=h 6 Mcu;have e7:f 7=.int .i64 0:=h 7 Mcu;simp only[List.drop_succ_cons,List.drop_zero];rw[e6,e7];obtain⟨kR,jj⟩:=yH2 (show Qa V (V.drew.ext z) from zaZ (zaF Qb) z) ht;clear h e6 e7 ht;generalize V.drew.ext z=U at*;go_wp2_with fail
     go_meet
     exact⟨A,n,c,rfl,rfl,jj.o,kR.o⟩
   case rest=>
    obtain⟨A,nt,ct,rfl,rfl,dA,um⟩:=hcut;obtain⟨V2,KQ⟩:=Qd wc
    subst KQ;obtain⟨txs,rfl,Bb,EQ,Hf⟩:=dA;obtain⟨il,vT,ig,pQ,ko⟩:=yH5 Bb EQ (fun x hx W (h:Qa V2 W)=>((Hf x hx).keep h:Sl W 3 zaa x.A x.hs)) (HV.o.trans (um.mono HV.o.size)) (fun w' (h:Qa V2 w')=>eO.o w' (um.trans (h.mono um.size)));have xL:¬(200:Int)<(txs.length:Int):=by have:=Bb.few;omega
    have ql:=Bb.few;clear Bb EQ Hf um eO HV dJ vU kj;go_upto_block 2 with fail
    go_wp2_with fail
    go_loopw [14,15,16,17,18] (fun i _ _ _ _ wr=>∃j:Nat,j<=txs.length/\i=.int .i64 j/\Qa V2 wr) (fun i _ _ _ _ _=>txs.length-(intOf i).toNat)
    case atStart=>exact⟨0,Nat.zero_le _,rfl,Qb⟩
    case round=>
     obtain⟨j,hj,rfl,mB⟩:=hrel;by_cases bM:j<txs.length
     ·obtain⟨U,hU⟩:=Qd wr
      subst hU;obtain⟨dG,gn,cW,qG⟩:=il.o.day j bM;obtain⟨b,off,rfl,hb,hc⟩:=vT.o.at bM;have c0:V2.cell? ⟨b,off+j*2,none⟩=some (.int .i64 txs[j].day):=hc 0 _ rfl;have c1:V2.cell? ⟨b,off+j*2+1,none⟩=some (.slice txs[j].A txs[j].hs.length txs[j].c):=hc 1 _ rfl;have Hg:=ig.o txs[j] (List.getElem_mem bM);have ci:=il.o.len txs[j].day;rw[gn]at ci;obtain⟨ca,uR,gZ⟩:=yH3 (il.o.last j bM) (fun(i:Nat) (h:i+1=j) (hi:i<txs.length)=>(show txs[i].day<txs[j].day by subst h;exact il.o.asc i bM)) (top_parts dG);rw[gn]at gZ;obtain⟨dy,oW⟩:=Qd (txs[j].day)
      rw[<-oW]at dG gn cW qG c0 uR;clear oW;generalize txs[j].hs=hs at*;generalize txs[j].A=AX at*;generalize txs[j].c=cx at*;obtain⟨HU,nJ⟩:=yH2 mB (pQ.o.trans (mB.mono pQ.o.size));have ji:=zHi (fun w' (h:Qa U w')=>And.intro (ko.o w' (mB.trans (h.mono mB.size))) ((zah (mB.trans (h.mono mB.size)) hb).trans c0))
      have Bt:=zHi (fun(i:Nat) (hi:i<txs.length)=>(show V2.cell? ⟨b,off+i*2,none⟩=some (.int .i64 txs[i].day) by
       obtain⟨b',o',he,_,aI⟩:=vT.o.at hi;cases he
       exact aI 0 _ rfl))
      obtain⟨F7,BO,u7,ua,vw⟩:=yH5 c1 Hg dG gn bM;have bF:(j:Int)<(txs.length:Int):=Mcq;have sW:(0:Int)<=(j:Int):=Mcq;clear hc c0 c1 Hg dG gn mB bM;go_upto_region 23 with fail
      go_cut [15,16]from 89 to 102 (fun v15 v16 W=>∃A9 c9,v15=.slice A9 hs.length c9/\v16=.int .i64 0/\Sl W 3 zaa A9 hs/\Qa U W)
      case first=>
       apply zcG (n:=13) (E:=[12]) (D:=[]) (V:=vL [vIs (.agg #[.slice P ls.length q,.slice R es.length s]),vIs (.int .i64 k),vIs (.pointer (some ⟨pb,k,none⟩)),vIs (.string pk),vIs (.slice (some ⟨b,off,none⟩) txs.length ct),vIs (.int .i64 j),vIs (.pointer (some ⟨b,off+j*2,none⟩)),vIs (.pointer (some ⟨b,off+j*2,none⟩)),vIs (.int .i64 dy),zkS hs,zkS hs,zmq hs,vIs (.int .i64 0)])
       case hm=>kernel_rfl
       case hht=>kernel_rfl
       case hDE=>decide
       case hQ=>intro d v c a w h;cases d<;>exact h
       case hmono=>exact ziG McV
       case hA=>intro f;simp[zdF,Act.put];rfl
       case hal=>trivial
       case hstep=>
        simp only[List.take_succ_cons,List.take_zero,zd1,and_true];refine⟨?_,?_,?_,?_,?_,?_,?_,?_,?_,?_,?_,?_,?_⟩
        ·exact MbW
        ·exact MbW
        ·exact MbW
        ·exact MbW
        ·exact MbW
        ·exact MbW
        ·exact MbW
        ·exact MbW
        ·exact MbW
        ·intro f z h;have h0:f 0=.agg #[.slice P ls.length q,.slice R es.length s]:=h ⟨0,.data⟩ Mcv rfl;have h3:f 3=.string pk:=h ⟨3,.data⟩ Mcv rfl;have hd:f 8=.int .i64 (dy):=h ⟨8,.data⟩ Mcv rfl;clear h;unfold zdD;go_simp
         refine(iQ.o dy _ (Below.trans (nJ.o) ((zaZ (zaF Qb) z).mono (Below.size (nJ.o))))).mono ?_;intro e wq hp;obtain⟨hb,A9,c9,rfl,pE⟩:=zkT hp u7.o ua.o;exact Mbf
        ·intro f z h;have h4:=h ⟨9,.data⟩ Mcv rfl;exact M8
        ·intro f z h;obtain⟨A9,c9,h5,ht⟩:=h ⟨10,.data⟩ Mcv rfl;exact Mac
        ·intro f z h;obtain⟨A9,c9,h5,ht⟩:=h ⟨10,.data⟩ Mcv rfl;exact M7
       case heag=>
        simp only[zdn,and_true];intro o ho f z h;obtain rfl:=Option.some.inj ho;obtain⟨A9,c9,h5,ht⟩:=h ⟨10,.data⟩ Mcv rfl;exact⟨.int .i64 0,rfl,fun W=>by go_simp⟩
       case hend=>
        intro f z h _;obtain⟨A9,c9,e6,ht⟩:=h 11 Mcu;have e7:f 12=.int .i64 0:=h 12 Mcu;exact M4
      case rest=>
       obtain⟨AN,cn,rfl,rfl,hn,eV⟩:=hcut;obtain⟨U2,KK⟩:=Qd wc
       subst KK;have HN:=zHi (fun W (h:Qa U2 W)=>(hn.keep h:Sl W 3 zaa AN hs));have cv:Hid (hs.length<=100000):=zHi Mec;obtain⟨oz,Fc⟩:=yH2 (HU.o.trans (eV.mono HU.o.size)) (fun W (h:Qa U2 W)=>full_any hs AN cn W gZ.o (HN.o W h));have fT:=zHi (fun W (h:Qa U2 W)=>zjd hs AN AX cn cx W (HN.o W h) (BO.o W (oz.o.trans (h.mono oz.o.size))) cv.o);obtain⟨rD,rI⟩:=yH2 (fun w' (h:Qa U2 w')=>ji.o w' (eV.trans (h.mono eV.size))) (pQ.o.trans (oz.o.mono pQ.o.size));have k1:=(zah oz.o hb).trans F7.o;have k0:=(rD.o U2 Qb).2;have lb:b<U2.heap.size:=by have:=oz.o.size;omega
       have aC:=zHi hb;clear hn eV ji F7 gZ HU nJ hb ql ci;go_upto_region 24 with fail
       go_cut [136]from 102 to 135 (fun v W=>v=.bool false/\Qa U2 W)
       case first=>
        by_cases hz:j=0
        ·have hp:decide (0<j)=false:=Mcw;clear hz;exact MS
        ·obtain⟨i9,mP⟩:∃i,j=i+1:=⟨j-1,by omega⟩
         have sU:i9<txs.length:=Mcq;have hp:decide (0<j)=true:=Mcw;have jI:=zny mP Mcq;have eJ:(0:Int)<=(i9:Int):=Mcq;have cN:(i9:Int)<(txs.length:Int):=Mcq;have k9:=(zah oz.o aC.o).trans (Bt.o i9 sU);have iW:=uR.o i9 mP.symm sU;generalize txs[i9].day=d9 at*;have hd8:decide (dy<=d9)=false:=Mcw;clear hz mP iW sU;exact MS
       case rest=>
        obtain⟨rfl,cQ⟩:=hcut;obtain⟨U3,KL⟩:=Qd wc
        subst KL;obtain⟨rJ,vP,zK,oA⟩:=yH4 (rI.o.trans (cQ.mono rI.o.size)) (fun w' (h:Qa U3 w')=>rD.o w' (cQ.trans (h.mono cQ.size))) (fun W (h:Qa U3 W)=>HN.o W (cQ.trans (h.mono cQ.size))) (oz.o.trans (cQ.mono oz.o.size));clear cQ HN rD rI oz Fc fT k0 k1 lb;go_upto_if 141 with fail
        go_cut [17]from 137 to 148 (fun v17 W=>∃q9:Int,v17=.int .i64 q9/\zct ls es [pk] q9=0/\hOn ls es pk q9=hs/\U3=W)
        case first=>
         by_cases bD:j+1<txs.length
         ·have dY:(j:Int)+1<(txs.length:Int):=Mcq;have kn:=(zah oA.o aC.o).trans (Bt.o (j+1) bD);have fW:=(il.o.day (j+1) bD).2.2.1;have bS:=(il.o.day (j+1) bD).2.2.2;have hq:=ca.o (txs[j+1].day-1) (fun _=>rfl) (fun h=>absurd bD h);have ot:=zHi hq;generalize txs[j+1].day=d2 at*;have ka:(0:Int)<=(j:Int)+1:=Mcq;clear bD hq ca uR;go_wp2_with fail
          go_meet
          exact⟨d2-1,rfl,ot.o.1,ot.o.2,rfl⟩
         ·have dY:¬(j:Int)+1<(txs.length:Int):=Mcq;have hq:=ca.o 200000 (fun h=>absurd h bD) (fun _=>rfl);have ot:=zHi hq;clear bD hq ca uR;go_wp2_with fail
          go_meet
          exact⟨200000,rfl,ot.o.1,ot.o.2,rfl⟩
        case rest=>
         obtain⟨q9,rfl,eJ,cN,rfl⟩:=hcut;obtain⟨Cc,nG⟩:=yH2 eJ cN;clear eJ cN ca uR Bt;go_upto_region 29 with fail
         go_cut [16,18]from 149 to 157 (fun v16 v18 W=>∃A9 c9,v18=.slice A9 hs.length c9/\v16=.int .i64 0/\Sl W 3 zaa A9 hs/\Qa U3 W)
         case first=>
          apply zcG (n:=9) (E:=[8]) (D:=[]) (V:=vL [vIs (.agg #[.slice P ls.length q,.slice R es.length s]),vIs (.int .i64 k),vIs (.pointer (some ⟨pb,k,none⟩)),vIs (.string pk),vIs (.int .i64 q9),zkS hs,zkS hs,zmq hs,vIs (.int .i64 0)])
          case hm=>kernel_rfl
          case hht=>kernel_rfl
          case hDE=>decide
          case hQ=>intro d v c a w h;cases d<;>exact h
          case hmono=>exact ziG McV
          case hA=>intro f;simp[zdF,Act.put];rfl
          case hal=>trivial
          case hstep=>
           simp only[List.take_succ_cons,List.take_zero,zd1,and_true];refine⟨?_,?_,?_,?_,?_,?_,?_,?_,?_⟩
           ·exact Mb0
           ·exact Mb0
           ·exact Mb0
           ·exact Mb0
           ·exact Mb0
           ·intro f z h;have h0:f 0=.agg #[.slice P ls.length q,.slice R es.length s]:=h ⟨0,.data⟩ Mcv rfl;have h3:f 3=.string pk:=h ⟨3,.data⟩ Mcv rfl;have hd:f 4=.int .i64 (q9):=h ⟨4,.data⟩ Mcv rfl;clear h;unfold zdD;go_simp
            refine(iQ.o q9 _ (Below.trans (rJ.o) ((zaZ (zaF Qb) z).mono (Below.size (rJ.o))))).mono ?_;intro e wq hp;obtain⟨hb,A9,c9,rfl,pE⟩:=zkT hp Cc.o nG.o;exact Mbf
           ·intro f z h;have h4:=h ⟨5,.data⟩ Mcv rfl;exact M8
           ·intro f z h;obtain⟨A9,c9,h5,ht⟩:=h ⟨6,.data⟩ Mcv rfl;exact Mac
           ·intro f z h;obtain⟨A9,c9,h5,ht⟩:=h ⟨6,.data⟩ Mcv rfl;exact M7
          case heag=>
           simp only[zdn,and_true];intro o ho f z h;obtain rfl:=Option.some.inj ho;obtain⟨A9,c9,h5,ht⟩:=h ⟨6,.data⟩ Mcv rfl;exact⟨.int .i64 0,rfl,fun W=>by go_simp⟩
          case hend=>
           intro f z h _;obtain⟨A9,c9,e6,ht⟩:=h 7 Mcu;have e7:f 8=.int .i64 0:=h 8 Mcu;simp only[List.drop_succ_cons,List.drop_zero];rw[e6,e7];obtain⟨kR,jj⟩:=yH2 (show Qa U3 (U3.drew.ext z) from zaZ (zaF Qb) z) ht;clear h e6 e7 ht;generalize U3.drew.ext z=U9 at*;exact Map
         case rest=>
          obtain⟨AT,c11,rfl,rfl,yg,oQ⟩:=hcut;obtain⟨U4,KM⟩:=Qd wc
          subst KM;have fT:=zHi (fun W (h:Qa U4 W)=>zjd hs AT AN c11 cn W (yg.keep h) (zK.o W (oQ.trans (h.mono oQ.size))) cv.o);have Cs:=zHi (oA.o.trans (oQ.mono oA.o.size));clear yg oQ zK vP rJ oA;go_wp2_with (go_at_call 12;go_must(refine(fT.o _ Qb).mono ?_);rintro e wq ⟨rfl,zz,rfl⟩)
          go_roundw
          case rel=>exact⟨j+1,by have:=vw.o;omega,by go_num,zaZ Cs.o zz⟩
          case measure=>have:=vw.o;simp only[intOf];omega
     ·have Eh:¬((j:Int)<(txs.length:Int)):=Mcq;obtain⟨U,hU⟩:=Qd wr
      subst hU;obtain⟨nJ,ji⟩:=yH2 (pQ.o.trans (mB.mono pQ.o.size)) (fun w' (h:Qa U w')=>ko.o w' (mB.trans (h.mono mB.size)));have ed:=(ji.o U Qb).2.2.1;have lu:=zkH ed;have jN:=zHi il.o.len;clear bM mB vT ig il ko ql xL;by_cases hE:E=0;rotate_left 1
      ·have wu:(E==0)=false:=by simpa using hE
       exact MaD
      ·have wu:(E==0)=true:=by simpa using hE
       by_cases jU:0<d.day;rotate_left 1
       ·exact MaD
       ·obtain⟨aN,aO,bC⟩:=qM.o hE jU;obtain⟨fW,bS⟩:=zoj (ziN aN).2;have ci:=jN.o (d.day-1);rw[bC]at ci;obtain⟨hh,Ec⟩:=Qd (hOn ls ds pk (d.day-1))
        rw[<-Ec]at bC ci;obtain⟨aj,aE,aC,aJ⟩:=yH4 aN aO bC Ec.symm;have cv:Hid (hh.length<=100000):=zHi Mec;have zd:IntKind.i64.wrap (d.day-1)=d.day-1:=Mdb;have dM:d.day<=200001:=Mcq;clear aN aO bC Ec ci hE qM jN;go_upto_region 33 with fail
        go_cut [19,20]from 173 to 183 (fun v19 v20 W=>∃A9 c9,v19=.slice A9 hh.length c9/\v20=.int .i64 0/\Sl W 3 zaa A9 hh/\Qa U W)
        case first=>
         apply zcG (n:=11) (E:=[10]) (D:=[]) (V:=vL [vIs (.agg #[.slice LA ls.length nc,.slice DA ds.length mc]),vIs (.int .i64 k),vIs (.pointer (some ⟨pb,k,none⟩)),vIs (.string pk),vIs (.pointer (some ⟨w.heap.size+1,1,none⟩)),vIs (.int .i64 d.day),vIs (.int .i64 (d.day-1)),zkS hh,zkS hh,zmq hh,vIs (.int .i64 0)])
         case hm=>kernel_rfl
         case hht=>kernel_rfl
         case hDE=>decide
         case hQ=>intro d v c a w h;cases d<;>exact h
         case hmono=>exact ziG McV
         case hA=>intro f;simp[zdF,Act.put];rfl
         case hal=>trivial
         case hstep=>
          simp only[List.take_succ_cons,List.take_zero,zd1,and_true];refine⟨?_,?_,?_,?_,?_,?_,?_,?_,?_,?_,?_⟩
          ·exact MbZ
          ·exact MbZ
          ·exact MbZ
          ·exact MbZ
          ·exact MbZ
          ·exact MbZ
          ·exact Mah
          ·intro f z h;have h0:f 0=.agg #[.slice LA ls.length nc,.slice DA ds.length mc]:=h ⟨0,.data⟩ Mcv rfl;have h3:f 3=.string pk:=h ⟨3,.data⟩ Mcv rfl;have hd:f 6=.int .i64 (d.day-1):=h ⟨6,.data⟩ Mcv rfl;clear h;unfold zdD;go_simp
           refine(iN.o (d.day-1) _ (Below.trans (nJ.o) ((zaZ (zaF Qb) z).mono (Below.size (nJ.o))))).mono ?_;intro e wq hp;obtain⟨hb,A9,c9,rfl,pE⟩:=zkT hp aj.o aJ.o;exact Mbf
          ·exact Mci
          ·exact Mcf
          ·exact Mcg
         case heag=>
          exact Mao
         case hend=>
          intro f z h _;obtain⟨A9,c9,e6,ht⟩:=h 9 Mcu;have e7:f 10=.int .i64 0:=h 10 Mcu;exact M4
        case rest=>
         obtain⟨AW,c12,rfl,rfl,yh,oR⟩:=hcut;obtain⟨U5,KN⟩:=Qd wc
         subst KN;obtain⟨Fp,lX,vQ⟩:=yH3 (fun W (h:Qa U5 W)=>(yh.keep h:Sl W 3 zaa AW hh)) (nJ.o.trans (oR.mono nJ.o.size)) (fun w' (h:Qa U5 w')=>ji.o w' (oR.trans (h.mono oR.size)));clear yh oR nJ ji ed lu;go_upto_region 34 with fail
         go_cut [21,22]from 184 to 194 (fun v21 v22 W=>∃A9 c9,v21=.slice A9 hh.length c9/\v22=.int .i64 0/\Sl W 3 zaa A9 hh/\Qa U5 W)
         case first=>
          apply zcG (n:=11) (E:=[10]) (D:=[]) (V:=vL [vIs (.agg #[.slice P ls.length q,.slice R es.length s]),vIs (.int .i64 k),vIs (.pointer (some ⟨pb,k,none⟩)),vIs (.string pk),vIs (.pointer (some ⟨w.heap.size+1,1,none⟩)),vIs (.int .i64 d.day),vIs (.int .i64 (d.day-1)),zkS hh,zkS hh,zmq hh,vIs (.int .i64 0)])
          case hm=>kernel_rfl
          case hht=>kernel_rfl
          case hDE=>decide
          case hQ=>intro d v c a w h;cases d<;>exact h
          case hmono=>exact ziG McV
          case hA=>intro f;simp[zdF,Act.put];rfl
          case hal=>trivial
          case hstep=>
           simp only[List.take_succ_cons,List.take_zero,zd1,and_true];refine⟨?_,?_,?_,?_,?_,?_,?_,?_,?_,?_,?_⟩
           ·exact MbY
           ·exact MbY
           ·exact MbY
           ·exact MbY
           ·exact MbY
           ·exact MbY
           ·exact Mah
           ·intro f z h;have h0:f 0=.agg #[.slice P ls.length q,.slice R es.length s]:=h ⟨0,.data⟩ Mcv rfl;have h3:f 3=.string pk:=h ⟨3,.data⟩ Mcv rfl;have hd:f 6=.int .i64 (d.day-1):=h ⟨6,.data⟩ Mcv rfl;clear h;unfold zdD;go_simp
            refine(iQ.o (d.day-1) _ (Below.trans (lX.o) ((zaZ (zaF Qb) z).mono (Below.size (lX.o))))).mono ?_;intro e wq hp;obtain⟨hb,A9,c9,rfl,pE⟩:=zkT hp aE.o aC.o;exact Mbf
           ·exact Mci
           ·exact Mcf
           ·exact Mcg
          case heag=>
           exact Mao
          case hend=>
           intro f z h _;obtain⟨A9,c9,e6,ht⟩:=h 9 Mcu;have e7:f 10=.int .i64 0:=h 10 Mcu;simp only[List.drop_succ_cons,List.drop_zero];rw[e6,e7];obtain⟨kR,jj⟩:=yH2 (show Qa U5 (U5.drew.ext z) from zaZ (zaF Qb) z) ht;clear h e6 e7 ht;generalize U5.drew.ext z=U9 at*;exact Map
         case rest=>
          obtain⟨AI,c13,rfl,rfl,yj,oS⟩:=hcut;obtain⟨U6,KO⟩:=Qd wc
          subst KO;have fT:=zHi (fun W (h:Qa U6 W)=>zjd hh AW AI c12 c13 W (Fp.o W (oS.trans (h.mono oS.size))) (yj.keep h) cv.o);have Ct:=zHi (lX.o.trans (oS.mono lX.o.size));clear yj oS Fp vQ lX;go_wp2_with (go_at_call 12;go_must(refine(fT.o _ Qb).mono ?_);rintro e wq ⟨rfl,zz,rfl⟩)
          go_roundw
          case rel=>exact⟨k+1,by have:=ak.o;omega,by go_num,zaZ Ct.o zz⟩
          case measure=>have:=ak.o;simp only[intOf];omega
  ·have AR:¬(k:Int)<3:=Mcq;have tM:=zHi (cr.o.trans (mA.mono cr.o.size));clear aa mA;go_wp2_with fail
   go_ret
   exact Ret.of rfl tM.o

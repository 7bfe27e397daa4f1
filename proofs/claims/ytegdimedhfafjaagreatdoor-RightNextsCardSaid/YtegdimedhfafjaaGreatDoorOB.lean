import Derived.Test.YtegdimedhfafjaaGreatDoorO9
import Derived.Test.YtegdimedhfafjaaGreatDoorE5
import Derived.Test.YtegdimedhfafjaaGreatDoorE1
set_option linter.all false
set_option maxRecDepth 100000
set_option maxHeartbeats 4000000
namespace Go.Proofs.YtegdimedhfafjaaGreatDoor
open Go.RowKit
attribute [local go_sem] World.cell?_alloc_mark zaf za5 zao za8 zav zaw zax zay zaz za0 za1
structure FewS (k:Nat) (s:St):Prop where
 graves:s.graves.length<=k
 kids:s.children.length<=k
 marr:s.marriages.length<=k
 dead:s.dead.length<=k
 ren:s.renounce.length<=k
 wills:∀n,(zbw s n).length<=8
 held:∀g∈s.graves,g.holders.length<=80*k/\g.died.length<=k/\g.fin<=200000
theorem zkD(day years:Int):zce day years<=200000:=by
 unfold zce zbU;simp only;split
 ·decide
 ·split
  ·rename_i h
   have:=(zf1.1 h).2;omega
  ·decide
theorem zfC:FewS 0 zb3:=⟨Nat.le_refl _,Nat.le_refl _,Nat.le_refl _,Nat.le_refl _,Nat.le_refl _,fun n=>by simp[zb3,zbw],by simp[zb3]⟩
theorem FewS.up{k:Nat}{s:St}(h:FewS k s):FewS (k+1) s:=
 ⟨Nat.le_succ_of_le h.graves,Nat.le_succ_of_le h.kids,Nat.le_succ_of_le h.marr,Nat.le_succ_of_le h.dead,Nat.le_succ_of_le h.ren,h.wills,fun g hg=>by have:=h.held g hg;exact⟨by omega,by omega,this.2.2⟩⟩
theorem zdT(l:Parts)(n:ByteArray):(zat l n).length<=l.length:=List.length_filter_le _ _
theorem zkE{own:Rat}:∀ {l out o:Parts},zb9 own l out=some o->o.length<=out.length+l.length
 | [],out,o,h=>by
   rw[zb9]at h;cases h;simp
 |p::l,out,o,h=>by
  rw[zb9]at h;split at h
  ·cases h
  split at h
  ·cases h
  have:=zkE h;have h2:=zcw p.1 (own*p.2) out;simp;omega
theorem FewS.withG{k:Nat}{s:St}{i:Nat}{g g':Grave}(h:FewS k s)(hi:s.graves[i]?=some g)(h1:g'.holders.length<=80*k+80)(h2:g'.died.length<=k+1)(h3:g'.fin<=200000):FewS (k+1) (s.withGrave i g'):=by
 refine {h.up with graves:= ?_,held:=fun x hx=>?_}
 ·unfold St.withGrave;simp only[List.length_set];exact Nat.le_succ_of_le h.graves
 ·unfold St.withGrave at hx;rcases List.mem_or_eq_of_mem_set hx with hx|rfl
  ·exact h.up.held x hx
  ·exact⟨by omega,h2,h3⟩
theorem zjO{s:St}{pl:ByteArray}{day:Int}{i:Nat}(h:zaP s pl day=some i):∃g,s.graves[i]?=some g/\s.graves.getD i zgl=g/\g∈s.graves:=by
 obtain⟨g,h1,_⟩:=zcf h;exact⟨g,h1,zf2 h1,List.mem_of_getElem? h1⟩
theorem zkF{laws:List Law}{s s':St}{d:Deed}{last:Int}{k:Nat}(h:FewS k s)(hk:k<60)(hG:GoodSt s last)(hd:OkD d)(hl:last<=d.day)(aY:zaA laws=0)(ht:zbp laws s d=(s',0)):FewS (k+1) s':=by
 have nM:=hd.len;have bQ:=hd.kind;unfold zbp at ht;split at ht
 ·unfold zcH at ht;split at ht
  ·simp at ht
  split at ht
  ·simp at ht
  split at ht
  ·simp at ht
  simp only[Prod.mk.injEq,and_true]at ht;rw[<-ht];refine {h.up with graves:= ?_,held:=fun g hg=>?_}
  ·have:=h.graves;simp;omega
  ·rcases List.mem_append.1 hg with hg|hg
   ·exact h.up.held g hg
   ·rw[List.mem_singleton.1 hg];have:=zfj d.to [];simp only[List.length_nil]at this⊢;refine⟨by omega,Nat.zero_le _,?_⟩;split
    ·exact zkD _ _
    ·decide
 split at ht
 ·unfold zbr at ht;split at ht
  ·simp at ht
  rename_i i hi
  obtain⟨g,cf,cw,su⟩:=zjO hi;rw[cw]at ht;simp only at ht;split at ht
  ·simp at ht
  split at ht
  ·simp at ht
  split at ht
  ·simp at ht
  split at ht
  ·simp at ht
  split at ht
  ·simp at ht
  rename_i out ho
  simp only[Prod.mk.injEq,and_true]at ht;rw[<-ht];have h1:=zkE ho;have h2:=zcw d.frm (zag g.holders d.frm*(1-sumQ (zam d.to))) (zat g.holders d.frm);have h3:=zdT g.holders d.frm;have h4:=h.held g su;have h5:(zam d.to).length=d.to.length:=by unfold zam;simp
  exact h.withG cf MdR MdR MdR
 split at ht
 ·unfold zba at ht;split at ht
  ·simp at ht
  rename_i i hi
  obtain⟨g,cf,cw,su⟩:=zjO hi;rw[cw]at ht;simp only at ht;split at ht
  ·simp at ht
  split at ht
  ·simp at ht
  simp only[Prod.mk.injEq,and_true]at ht;rw[<-ht];have h3:=zdT g.holders d.frm;have h4:=h.held g su;exact h.withG cf (by simp only[List.length_map];omega) MdR MdR
 split at ht
 ·unfold zcV at ht;split at ht
  ·simp at ht
  rename_i i hi
  obtain⟨g,cf,cw,su⟩:=zjO hi;rw[cw]at ht;simp only at ht;split at ht
  ·simp at ht
  split at ht
  ·simp at ht
  simp only[Prod.mk.injEq,and_true]at ht;rw[<-ht];have h4:=h.held g su;exact h.withG cf MdR MdR (zkD _ _)
 split at ht
 ·unfold zgS at ht;split at ht
  ·simp at ht
  simp only[Prod.mk.injEq,and_true]at ht;rw[<-ht];refine {h.up with wills:=fun n=>?_};rw[zfS];split
  ·unfold zam;simpa using nM
  ·exact h.wills n
 split at ht
 ·unfold zbA at ht;split at ht
  ·simp at ht
  split at ht
  ·simp at ht
  simp only[Prod.mk.injEq,and_true]at ht;rw[<-ht];exact {h.up with ren:=by have:=h.ren;simp;omega}
 split at ht
 ·unfold zc7 at ht;split at ht
  ·simp at ht
  split at ht
  ·simp at ht
  split at ht
  ·simp at ht
  simp only[Prod.mk.injEq,and_true]at ht;rw[<-ht];exact {h.up with kids:=by have:=h.kids;simp;omega}
 split at ht
 ·unfold zdn at ht;split at ht
  ·simp at ht
  split at ht
  ·simp at ht
  simp only[Prod.mk.injEq,and_true]at ht;rw[<-ht];exact {h.up with marr:=by have:=h.marr;simp;omega}
 ·unfold zdJ at ht;split at ht
  ·simp at ht
  split at ht
  ·simp at ht
  rename_i gs aK
  simp only[Prod.mk.injEq,and_true]at ht;rw[<-ht];obtain⟨ag,gZ⟩:=zm4 aK;refine {h.up with graves:=by have:=h.graves;simp only;omega,dead:=by have:=h.dead;simp;omega,held:=fun x hx=>?_};obtain⟨i,hi⟩:=List.mem_iff_getElem?.1 hx;obtain⟨g,g1,g2⟩:=gZ i x hi;have h4:=h.held g (List.mem_of_getElem? g1);rcases g2 with⟨rfl,_⟩|⟨_,hs,out,e1,e2,rfl⟩
  ·exact h.up.held x (List.mem_of_getElem? g1)
  ·have h1:=zkE e2;have h3:=zdT g.holders d.frm;have bO:=zfb aY d.day;have bP:=ze6 (hG.wills d.frm) bO e1;have jx:=(zfW (s:=s) (n:=d.frm) (hG.wills d.frm) bO).1 hs e1;have kV:=ziK (s:=s) (law:=zbb laws d.day) (n:=d.frm) (by rw[jx];exact bP.1);rw[jx]at kV;have:=h.wills d.frm;have:=h.kids;simp only[List.length_append,List.length_singleton]at*;exact⟨by omega,by omega,h4.2.2⟩
section
open Go.Shelf
attribute [local go_sem] zaq zad
end
def nAnn:ByteArray:=⟨#[97,110,110]⟩
def nBob:ByteArray:=⟨#[98,111,98]⟩
def nCat:ByteArray:=⟨#[99,97,116]⟩
def nDan:ByteArray:=⟨#[100,97,110]⟩
def nA1:ByteArray:=⟨#[97,49]⟩
def n0:ByteArray:=⟨#[]⟩
def zcj:List Law:=[⟨0,false,1,4⟩,⟨50000,true,1,2⟩]
def famD(k:Nat):Deed:=match k with
 |0=>⟨6,0,n0,nAnn,[⟨nBob,0,0⟩],0,0⟩
 |1=>⟨6,0,n0,nAnn,[⟨nCat,0,0⟩],0,0⟩
 |2=>⟨7,0,n0,nAnn,[⟨nDan,0,0⟩],0,0⟩
 |3=>⟨0,100,nA1,n0,[⟨nAnn,1,1⟩],1,0⟩
 |_=>⟨8,200,n0,nAnn,[],0,0⟩
def zbI:List Deed:=[famD 0,famD 1,famD 2,famD 3,famD 4]
def fam1:St:=⟨[(nAnn,nBob)],[],[],[],[],[]⟩
def fam2:St:=⟨[(nAnn,nBob),(nAnn,nCat)],[],[],[],[],[]⟩
def fam3:St:=⟨[(nAnn,nBob),(nAnn,nCat)],[(nAnn,nDan)],[],[],[],[]⟩
def fam4:St:=⟨[(nAnn,nBob),(nAnn,nCat)],[(nAnn,nDan)],[],[],[],[⟨nA1,1,-1,[(nAnn,1)],[]⟩]⟩
def zgD:Parts:=[(nBob,Rat.divInt 3 8),(nCat,Rat.divInt 3 8),(nDan,Rat.divInt 1 4)]
def fam5:St:=⟨[(nAnn,nBob),(nAnn,nCat)],[(nAnn,nDan)],[nAnn],[],[],[⟨nA1,1,-1,zgD,[nAnn]⟩]⟩
theorem fam_laws:zaA zcj=0:=by kernel_rfl
open Classical in
theorem fam_0:zbT zcj zb3 0 0 (famD 0)=(fam1,0):=by
 have h1:za3 (famD 0)=0:=Mcn;have h2:¬Desc zb3 (zbg (famD 0)) (famD 0).frm:=zic rfl;unfold zbT;rw[h1];show(if(0 != 0)=true then _ else if decide (60<=0)=true then _ else if decide ((0:Int)<0)=true then _ else zc7 zb3 (famD 0))=_;unfold zc7;rw[decide_eq_false h2];rfl
open Classical in
theorem fam_1:zbT zcj fam1 1 0 (famD 1)=(fam2,0):=by
 have h1:za3 (famD 1)=0:=Mcn;have h2:¬Desc fam1 (zbg (famD 1)) (famD 1).frm:=zic Mcn;unfold zbT;rw[h1];show(if(0 != 0)=true then _ else if decide (60<=1)=true then _ else if decide ((0:Int)<0)=true then _ else zc7 fam1 (famD 1))=_;unfold zc7;rw[decide_eq_false h2];have e1:(zai fam1 (famD 1).frm).any (zae (zbg (famD 1)))=false:=Mcn;have e2:decide (2<=(zbR fam1 (zbg (famD 1))).length)=false:=Mcn;rw[e1,e2];rfl
theorem fam_2:zbT zcj fam2 2 0 (famD 2)=(fam3,0):=by kernel_rfl
theorem fam_3:zbT zcj fam3 3 0 (famD 3)=(fam4,0):=by kernel_rfl
theorem fam_4:zbT zcj fam4 4 100 (famD 4)=(fam5,0):=by kernel_rfl
theorem zhk(upto:Int)(h:200<=upto):zaQ zcj zbI upto=(fam5,5,0):=by
 have q0:decide ((famD 0).day<=upto)=true:=MdF;have q1:decide ((famD 1).day<=upto)=true:=MdF;have q2:decide ((famD 2).day<=upto)=true:=MdF;have q3:decide ((famD 3).day<=upto)=true:=by show decide ((100:Int)<=upto)=true;simp;omega
 have q4:decide ((famD 4).day<=upto)=true:=by show decide ((200:Int)<=upto)=true;simp;omega
 have z:¬((0:Int) != 0)=true:=Mco;unfold zaQ zbI;rw[fam_laws,if_neg z];rw[zaU,fam_0,if_neg z,q0,if_pos rfl];show zaU zcj upto _ fam1 fam1 1 0=_;rw[zaU,fam_1,if_neg z,q1,if_pos rfl];show zaU zcj upto _ fam2 fam2 2 0=_;rw[zaU,fam_2,if_neg z,q2,if_pos rfl];show zaU zcj upto _ fam3 fam3 3 0=_;rw[zaU,fam_3,if_neg z,q3,if_pos rfl];show zaU zcj upto _ fam4 fam4 4 100=_;rw[zaU,fam_4,if_neg z,q4,if_pos rfl];rfl
def zfq:List Rec:=[⟨1,nAnn,n0,n0,5,0,0,0⟩,⟨0,nBob,n0,n0,9,0,0,0⟩,⟨0,nAnn,n0,n0,7,0,0,0⟩,⟨3,nAnn,n0,nA1,4,0,1,2⟩,⟨3,nBob,n0,nA1,4,0,2,3⟩]
theorem recs5_ok:zfx zfq=0:=by kernel_rfl
section
open Go.Shelf
attribute [local go_sem] zaq zad
def zgE(w:World)(xs:Parts)(e:Ending)(w':World):Prop:= ∃v,e=.returned v/\OwnS w' w.heap.size 62 3 zaa v xs/\Below w.heap.size w w'
theorem zda{w:World}{b:Nat}{t:TypeId}{fr:Nat×Nat}{x:ByteArray×Rat}(h:w.heap[b]?=some (.cells #[.string x.1,.int .i64 x.2.num,.int .i64 x.2.den] t fr)):Sl w 3 zaa (some ⟨b,0,none⟩) [x]:=fun _=>
 ⟨b,0,rfl,zab h,fun k y hk j u hu=>by
   match k,hk with
   |0,hk=>
    obtain rfl:x=y:=by simpa using hk
    simp only[World.cell?,h];match j,hu with
    |0,hu|1,hu|2,hu=>exact hu⟩
theorem zoU{l:Parts}{k:Nat}(h:k<l.length):zaF (l.drop k)=(bigQ l[k].2||zaF (l.drop (k+1))):=by
 rw[List.drop_eq_getElem_cons h];rfl
theorem zdH(l:Parts)(A:Option Addr)(c:Nat)(w:World)(hl:l.length<=1000000000)(hS:Sl w 3 zaa A l):Calls Tryz.prog 146 #[.slice A l.length c] w (Ret0 w (.bool (zaF l))):=by
 have HS:=zHi hS;obtain⟨R,hR⟩:∃R,R=zaF l:=⟨_,rfl⟩
 rw[<-hR];have HR:=zHi hR;clear hS hR;go_enter Tryz.func146,Tryz.ntmps146
 go_upto_region 2 with fail
 go_loopw [3] (fun i wr=>∃k:Nat,k<=l.length/\i=.int .i64 k/\w=wr/\Hid (R=zaF (l.drop k))) (fun i _=>l.length-(intOf i).toNat)
 case atStart=>exact⟨0,Nat.zero_le _,rfl,rfl,HR.o⟩
 case round=>
  obtain⟨k,hk,rfl,rfl,HX⟩:=hrel;by_cases aa:k<l.length
  ·obtain⟨b,off,rfl,hb,ah⟩:=HS.o.at aa;have hx:=HX.o;rw[zoU aa]at hx;obtain⟨av,am⟩:=yH2 hx aa;generalize l[k]=x at*;obtain⟨nm,q⟩:=x;have i2:w.cell? ⟨b,off+k*3+2,none⟩=some (.int .i64 q.den):=ah 2 _ rfl;have au:(k:Int)<(l.length:Int):=Mcm;have aP:(0:Int)<=(k:Int):=Mcm;clear ah hx aa;by_cases hs:1000000000<(q.den:Int)
   ·have HE:Hid (R=true):=by show _=_;rw[av.o];simp[bigQ,hs]
    exact M6
   ·have HE:Hid (R=zaF (l.drop (k+1))):=by show _=_;rw[av.o];simp[bigQ,hs]
    go_wp2_with fail
    exact MK
  ·have au:¬(k:Int)<(l.length:Int):=Mcm;have HE:Hid (R=false):=by show _=_;rw[HX.o,List.drop_of_length_le Mcm];rfl
   exact M6
theorem zhz{l:Parts}{n:ByteArray}{k:Nat}(h:k<l.length):zat (l.take (k+1)) n=zat (l.take k) n++(if zae l[k].1 n then[]else[l[k]]):=by
 unfold zat;rw[List.take_add_one,List.getElem?_eq_getElem h,List.filter_append];simp only[Option.toList_some,List.filter_cons,List.filter_nil];cases zae l[k].1 n<;>rfl
theorem zh0(l:Parts)(n:ByteArray)(A:Option Addr)(c:Nat)(w:World)(hl:l.length<=100000)(hS:Sl w 3 zaa A l):Calls Tryz.prog 143 #[.slice A l.length c,.string n] w (zgE w (zat l n)):=by
 have HS:=zHi hS;unfold zgE;clear hS;go_enter Tryz.func143,Tryz.ntmps143
 go_upto_region 3 with fail
 go_loopw [5,6] (fun v i wr=>∃k:Nat,k<=l.length/\i=.int .i64 k/\OwnS wr w.heap.size 62 3 zaa v (zat (l.take k) n)/\Below w.heap.size w wr) (fun _ i _=>l.length-(intOf i).toNat)
 case atStart=>exact⟨0,Nat.zero_le _,rfl,OwnS.nil,Below.refl _ _⟩
 case round=>
  obtain⟨k,hk,rfl,ae,hB⟩:=hrel;have aE:=hB.size;obtain⟨HO,HB⟩:=yH2 ae hB;by_cases aa:k<l.length
  ·have aj:=zhz (n:=n) aa;have bs:(zat (l.take k) n).length<=100000:=by
    exact MaP
   generalize zat (l.take k) n=xs at*;obtain⟨VA,vc,rfl,_,jV⟩:=ae.sl zan;obtain⟨b,off,rfl,hb,ah⟩:=(HS.o.keep hB).at aa;have am:=zHi aa;generalize l[k]=x at*;obtain⟨nm,q⟩:=x;have i0:wr.cell? ⟨b,off+k*3,none⟩=some (.string nm):=ah 0 _ rfl;have i1:wr.cell? ⟨b,off+k*3+1,none⟩=some (.int .i64 q.num):=ah 1 _ rfl;have i2:wr.cell? ⟨b,off+k*3+2,none⟩=some (.int .i64 q.den):=ah 2 _ rfl;have au:(k:Int)<(l.length:Int):=Mcm;have aP:(0:Int)<=(k:Int):=Mcm;have eZ:=zHi bs;clear ah aa ae hB bs;cases hs:zae nm n
   ·have aH:Hid (zat (l.take (k+1)) n=xs++[(nm,q)]):=Md2;have bo:(nm.toList==n.toList)=false:=hs;clear aj hs
    go_wp2_with (at_builtin
                 go_loud(refine zau (v:=.slice VA xs.length vc) (n:=xs.length) (m:=1) rfl _ _ rfl zdQ zan zcd rfl (xs:=xs) (ys:=[(nm,q)]) (HO.o.keep (n:=wr.heap.size) Bw) rfl rfl rfl (zda (zas _ _ _ rfl)) McV Mc3 Mcr ?_)
                 intro v3 w3 h1 h2 h3;have aC:=Below.grown (B:=w.heap.size) (a:=w) (HB.o.trans (Below.mono (B:=wr.heap.size) (zac (Below.refl _ _) _) aE)) h2 Mcr (fun j hj=>(HO.o.ge j hj).1);obtain⟨H1,aL⟩:=yH2 h1 aC
                 clear h1 h2 h3 aC)
    exact Mae
   ·have aH:Hid (zat (l.take (k+1)) n=xs):=Md2;have bo:(nm.toList==n.toList)=true:=hs;exact MaH
  ·exact MaL
theorem zlN(a b:ByteArray):zae a b=zae b a:=by rw[Bool.eq_iff_iff,za2,za2];exact⟨Eq.symm,Eq.symm⟩
theorem zdx(xs:List ByteArray)(s:ByteArray)(A:Option Addr)(c:Nat)(w:World)(hl:xs.length<=100000)(hc:xs.length<=c)(hS:Sl w 1 sC A xs):
 Calls Tryz.prog 149 #[.slice A xs.length c,.string s] w (Ret0 w (.bool (xs.any (zae s)))):=by
 have HS:=zHi hS;obtain⟨R,hR⟩:∃R,R=(xs.drop 0).any (zae s):=⟨_,rfl⟩
 rw[show xs.any (zae s)=R from by rw[hR];rfl];have HR:=zHi hR;clear hS hR;go_enter Tryz.func149,Tryz.ntmps149
 go_wp2_with fail
 go_loopw [5] (fun i wr=>∃j:Nat,j<=xs.length/\i=.int .i64 j/\w=wr/\Hid (R=(xs.drop j).any (zae s))) (fun i _=>xs.length-(intOf i).toNat)
 case atStart=>exact⟨0,Nat.zero_le _,rfl,rfl,HR.o⟩
 case round=>
  obtain⟨j,hj,rfl,rfl,HX⟩:=hrel;by_cases aa:j<xs.length
  ·obtain⟨b,off,rfl,hb,ah⟩:=HS.o.at aa;have hx:=HX.o;rw[List.drop_eq_getElem_cons aa,List.any_cons]at hx;obtain⟨av,am⟩:=yH2 hx aa;generalize xs[j]=x at*;have x0:w.cell? ⟨b,off+j,none⟩=some (.string x):=McT;have br:(j:Int)<(xs.length:Int):=Mcm;have sB:(0:Int)<=(j:Int):=Mcm;clear hx ah aa;cases he:(x.toList==s.toList)
   ·have mu:zae s x=false:=by rw[zlN];exact he
    have uM:=zHi mu;clear mu;go_wp2_with fail
    go_round
    case rel=>exact⟨j+1,am.o,by go_num,by first|exact True.intro|rfl,by show _=_;rw[av.o,uM.o,Bool.false_or]⟩
    case measure=>have:=am.o;simp only[intOf];omega
   ·have mu:zae s x=true:=by rw[zlN];exact he
    have uM:=zHi mu;clear mu;go_wp2_with fail
    go_ret
    exact⟨by rw[av.o,uM.o,Bool.true_or];rfl,rfl⟩
  ·have q8:¬((j:Int)<(xs.length:Int)):=Mcm;have hx:=HX.o;rw[List.drop_of_length_le Mcm,List.any_nil]at hx;have av:=zHi hx;clear hx;go_wp2_with fail
   go_ret
   exact⟨by rw[av.o];rfl,rfl⟩
theorem zeI(dd:List ByteArray)(n:ByteArray)(LA CA MA DA WA RA GA:Option Addr)(n0 c0 n1 c1 n2 c2 n3 c3 n4 c4 n5 c5 n6 c6:Nat)(w:World)(hl:dd.length<=100000)(hc:dd.length<=c3)(hS:Sl w 1 sC DA dd):
 Calls Tryz.prog 111 #[.agg #[.slice LA n0 c0,.slice CA n1 c1,.slice MA n2 c2,.slice DA dd.length c3,.slice WA n4 c4,.slice RA n5 c5,.slice GA n6 c6],.string n] w (Ret w (.bool (dd.any (zae n)))):=by
 have qK:=zHi (fun W (h:Below w.heap.size w W)=>zdx dd n DA c3 W hl hc (hS.keep h));generalize dd.any (zae n)=R at*;clear hS;go_enter Tryz.func111,Tryz.ntmps111
 go_wp2_with (go_at_call 149;go_must(refine(qK.o _ Bw).mono ?_);rintro e wq ⟨rfl,rfl⟩)
 go_ret
 exact Ret.of rfl Bw
def zde(cs:List (ByteArray×ByteArray))(n:ByteArray):List ByteArray:=(cs.filter fun c=>zae c.1 n).map (·.2)
theorem kids_snoc{cs:List (ByteArray×ByteArray)}{n:ByteArray}{k:Nat}(h:k<cs.length):zde (cs.take (k+1)) n=zde (cs.take k) n++(if zae cs[k].1 n then[cs[k].2]else[]):=by
 unfold zde;rw[List.take_add_one,List.getElem?_eq_getElem h,List.filter_append,List.map_append];simp only[Option.toList_some,List.filter_cons,List.filter_nil];cases zae cs[k].1 n<;>rfl
def zdy(w:World)(xs:List ByteArray)(e:Ending)(w':World):Prop:= ∃v,e=.returned v/\OwnS w' w.heap.size 9 1 sC v xs/\Below w.heap.size w w'
theorem zga{w:World}{b:Nat}{t:TypeId}{fr:Nat×Nat}{x:ByteArray}(h:w.heap[b]?=some (.cells #[.string x] t fr)):Sl w 1 sC (some ⟨b,0,none⟩) [x]:=fun _=>
 ⟨b,0,rfl,zab h,fun k y hk j u hu=>by
   match k,hk with
   |0,hk=>
    obtain rfl:x=y:=by simpa using hk
    simp only[World.cell?,h];match j,hu with
    |0,hu=>exact hu⟩
theorem zgF(cs:List (ByteArray×ByteArray))(n:ByteArray)(LA CA MA DA WA RA GA:Option Addr)(n0 c0 n1 c1 n2 c2 n3 c3 n4 c4 n5 c5 n6 c6:Nat)(w:World)(hl:cs.length<=100000)(hS:Sl w 2 zaR CA cs):
 Calls Tryz.prog 150 #[.agg #[.slice LA n0 c0,.slice CA cs.length c1,.slice MA n2 c2,.slice DA n3 c3,.slice WA n4 c4,.slice RA n5 c5,.slice GA n6 c6],.string n] w (zdy w (zde cs n)):=by
 have fY:=zHi hS;unfold zdy;clear hS;go_enter Tryz.func150,Tryz.ntmps150
 go_upto_region 1 with fail
 obtain⟨W0,ao⟩:∃W0,W0=w.alloc (.cells #[.slice LA n0 c0,.slice CA cs.length c1,.slice MA n2 c2,.slice DA n3 c3,.slice WA n4 c4,.slice RA n5 c5,.slice GA n6 c6] 41):=⟨_,rfl⟩
 have b0:W0.heap[w.heap.size]?=some (.cells #[.slice LA n0 c0,.slice CA cs.length c1,.slice MA n2 c2,.slice DA n3 c3,.slice WA n4 c4,.slice RA n5 c5,.slice GA n6 c6] 41):=Mdi;have aO:Below w.heap.size w W0:=McW;rw[<-ao];obtain⟨ak,HS⟩:=yH2 aO (fY.o.keep aO);obtain⟨-,k1⟩:=cF2 b0;have l0:=zab b0;clear ao b0 aO fY;go_upto_region 3 with fail
 go_loopw [5,6] (fun v i wr=>∃k:Nat,k<=cs.length/\i=.int .i64 k/\OwnS wr W0.heap.size 9 1 sC v (zde (cs.take k) n)/\Below W0.heap.size W0 wr) (fun _ i _=>cs.length-(intOf i).toNat)
 case atStart=>exact⟨0,Nat.zero_le _,rfl,OwnS.nil,Below.refl _ _⟩
 case round=>
  obtain⟨k,hk,rfl,ae,hB⟩:=hrel;have aE:=hB.size;obtain⟨HO,HB⟩:=yH2 ae hB;have d1:wr.cell? ⟨w.heap.size,1,none⟩=some (.slice CA cs.length c1):=(zah hB l0).trans k1;by_cases aa:k<cs.length
  ·have aj:=kids_snoc (n:=n) aa;have bs:(zde (cs.take k) n).length<=100000:=by
    unfold zde;rw[List.length_map];exact MaP
   generalize zde (cs.take k) n=xs at*;obtain⟨VA,vc,rfl,_,jV⟩:=ae.sl zaD;obtain⟨b,off,rfl,hb,ah⟩:=(HS.o.keep hB).at aa;have am:=zHi aa;generalize cs[k]=x at*;obtain⟨nm,kd⟩:=x;have i0:wr.cell? ⟨b,off+k*2,none⟩=some (.string nm):=ah 0 _ rfl;have i1:wr.cell? ⟨b,off+k*2+1,none⟩=some (.string kd):=ah 1 _ rfl;have au:(k:Int)<(cs.length:Int):=Mcm;have aP:(0:Int)<=(k:Int):=Mcm;have eZ:=zHi bs;clear ah aa ae hB bs;cases hs:zae nm n
   ·have aH:Hid (zde (cs.take (k+1)) n=xs):=Md2;have bo:(nm.toList==n.toList)=false:=hs;exact MaH
   ·have aH:Hid (zde (cs.take (k+1)) n=xs++[kd]):=Md2;have bo:(nm.toList==n.toList)=true:=hs;clear aj hs
    go_wp2_with (at_builtin
                 go_loud(refine zau (v:=.slice VA xs.length vc) (n:=xs.length) (m:=1) rfl _ _ rfl zbM zaD zbL rfl (xs:=xs) (ys:=[kd]) (HO.o.keep (n:=wr.heap.size) Bw) rfl rfl rfl (zga (zas _ _ _ rfl)) McV Mc3 Mcr ?_)
                 intro v3 w3 h1 h2 h3;have aC:=Below.grown (B:=W0.heap.size) (a:=W0) (HB.o.trans (Below.mono (B:=wr.heap.size) (zac (Below.refl _ _) _) aE)) h2 Mcr (fun j hj=>(HO.o.ge j hj).1);obtain⟨H1,aL⟩:=yH2 h1 aC
                 clear h1 h2 h3 aC)
    exact Mae
  ·have au:¬(k:Int)<(cs.length:Int):=Mcm;rw[List.take_of_length_le Mcm]at HO;clear ae hB;go_wp2_with fail
   go_ret
   exact⟨_,rfl,HO.o.base_le ak.o.size,ak.o.trans (HB.o.mono ak.o.size)⟩
def ixI{α:Type}(p:α->Bool)(l:List α)(k:Nat):Int:=match(l.drop k).findIdx? p with
 |none=> -1
 |some i=>((k+i:Nat):Int)
theorem ixI_step{α:Type}{p:α->Bool}{l:List α}{k:Nat}(h:k<l.length):ixI p l k=if p l[k]then(k:Int)else ixI p l (k+1):=by
 unfold ixI;rw[List.drop_eq_getElem_cons h,List.findIdx?_cons];cases hs:p l[k]
 ·rw[if_neg Mcp,if_neg Mcp];cases(l.drop (k+1)).findIdx? p with
  |none=>rfl
  |some i=>
   simp only[Option.map_some];omega
 ·rw[if_pos rfl,if_pos rfl];simp
theorem ixI_end{α:Type}{p:α->Bool}{l:List α}{k:Nat}(h:¬k<l.length):ixI p l k= -1:=by
 unfold ixI;rw[List.drop_of_length_le Mcm];rfl
def zlO(place:ByteArray)(day:Int)(g:Grave):Bool:=zae g.place place&&zaT g day
def zkG(gs:List Grave)(place:ByteArray)(day:Int):Int:=ixI (zlO place day) gs 0
theorem zog(s:St)(place:ByteArray)(day:Int):zkG s.graves place day=match zaP s place day with
 |none=> -1
 |some i=>(i:Int):=by
 unfold zkG ixI zaP;rw[List.drop_zero];show(match s.graves.findIdx? (zlO place day)with|none=>(-1:Int)|some i=>((0+i:Nat):Int))=match s.graves.findIdx? (zlO place day)with|none=>(-1:Int)|some i=>(i:Int)
 cases s.graves.findIdx? (zlO place day)with
 |none=>rfl
 |some i=>simp
theorem zoV(gs:List Grave)(place:ByteArray)(day:Int)(LA CA MA DA WA RA GA:Option Addr)(n0 c0 n1 c1 n2 c2 n3 c3 n4 c4 n5 c5 n6 c6:Nat)(w:World)(hl:gs.length<=100000)(hS:SlW w 5 zhY GA gs):
 Calls Tryz.prog 138 #[.agg #[.slice LA n0 c0,.slice CA n1 c1,.slice MA n2 c2,.slice DA n3 c3,.slice WA n4 c4,.slice RA n5 c5,.slice GA gs.length c6],.string place,.int .i64 day] w (Ret w (.int .i64 (zkG gs place day))):=by
 have fY:=zHi hS;obtain⟨R,hR⟩:∃R,R=zkG gs place day:=⟨_,rfl⟩
 rw[<-hR];have HR:=zHi hR;clear hS hR;go_enter Tryz.func138,Tryz.ntmps138
 go_upto_region 1 with fail
 obtain⟨W0,ao⟩:∃W0,W0=w.alloc (.cells #[.slice LA n0 c0,.slice CA n1 c1,.slice MA n2 c2,.slice DA n3 c3,.slice WA n4 c4,.slice RA n5 c5,.slice GA gs.length c6] 41):=⟨_,rfl⟩
 have b0:W0.heap[w.heap.size]?=some (.cells #[.slice LA n0 c0,.slice CA n1 c1,.slice MA n2 c2,.slice DA n3 c3,.slice WA n4 c4,.slice RA n5 c5,.slice GA gs.length c6] 41):=Mdi;have aO:Below w.heap.size w W0:=McW;rw[<-ao];obtain⟨ak,HS⟩:=yH2 aO (fY.o.keep zfQ aO);obtain⟨-,-,-,-,-,-,k1⟩:=cF7 b0;have l0:=zab b0;clear ao b0 aO fY;go_upto_region 2 with fail
 go_loopw [7,8] (fun i _ wr=>∃k:Nat,k<=gs.length/\i=.int .i64 k/\Hid (R=ixI (zlO place day) gs k)/\Below W0.heap.size W0 wr) (fun i _ _=>gs.length-(intOf i).toNat)
 case atStart=>exact⟨0,Nat.zero_le _,rfl,HR.o,Below.refl _ _⟩
 case round=>
  obtain⟨k,hk,rfl,HX,hB⟩:=hrel;have aE:=hB.size;have HB:=zHi hB;have d1:wr.cell? ⟨w.heap.size,6,none⟩=some (.slice GA gs.length c6):=(zah hB l0).trans k1;by_cases aa:k<gs.length
  ·obtain⟨b,off,cs,hA,hb,hr,ah⟩:=(HS.o.keep zfQ hB).at aa;have hx:=HX.o;rw[ixI_step aa]at hx;obtain⟨av,am⟩:=yH2 hx aa;generalize gs[k]=x at*;obtain⟨H,hc,D,dc,rfl,_,_⟩:=hr;obtain⟨pl,cl,fi,hd,di⟩:=x;subst hA;have i0:=ah 0 _ rfl;have i1:=ah 1 _ rfl;have i2:=ah 2 _ rfl;have i3:=ah 3 _ rfl;have i4:=ah 4 _ rfl;simp only[Nat.add_zero]at i0 i1 i2 i3 i4;have au:(k:Int)<(gs.length:Int):=Mcm;have aP:(0:Int)<=(k:Int):=Mcm;clear ah aa hB hx;go_upto_region 5 with fail
   obtain⟨WZ,fg⟩:∃WZ,WZ=wr.alloc (.cells #[.string pl,.int .i64 cl,.int .i64 fi,.slice H hd.length hc,.slice D di.length dc] 189):=⟨_,rfl⟩
   have a0:WZ.heap[wr.heap.size]?=some (.cells #[.string pl,.int .i64 cl,.int .i64 fi,.slice H hd.length hc,.slice D di.length dc] 189):=by rw[fg];exact zas _ _ _ rfl
   have eP:Below W0.heap.size W0 WZ:=by rw[fg];exact zac HB.o _
   rw[<-fg];have fA:=zHi eP;obtain⟨p0,-,p2,p3⟩:=cF4 a0;clear fg a0 eP i0 i1 i2 i3 i4;cases dt:zae pl place
   ·have bo:(pl.toList==place.toList)=false:=dt;exact MQ
   ·have bo:(pl.toList==place.toList)=true:=dt;by_cases hz:0<hd.length
    ·have jb:(0:Int)<(hd.length:Int):=Mcm;have jc:hd.isEmpty=false:=by cases hd<;>simp_all
     by_cases hf:fi<0
     ·exact Mau
     ·by_cases hy:day<fi
      ·exact Mau
      ·exact MQ
    ·have jb:¬(0:Int)<(hd.length:Int):=Mcm;have jc:hd.isEmpty=true:=by cases hd<;>simp_all
     exact MQ
  ·have au:¬(k:Int)<(gs.length:Int):=Mcm;have HE:Hid (R= -1):=by show _=_;rw[HX.o,ixI_end aa]
   clear hB;go_wp2_with fail
   go_ret
   exact Ret.of (zbC HE.o.symm) (ak.o.trans (HB.o.mono ak.o.size))
end
def zeJ(ds:List Deed):Int:=(ds.getLast?.map (·.day)).getD 0
theorem zjP{ds:List Deed}{k:Nat}(h:k<ds.length):zeJ (ds.take (k+1))=ds[k].day:=by
 have e:ds.take (k+1)=ds.take k++[ds[k]]:=by rw[List.take_add_one,List.getElem?_eq_getElem h];rfl
 unfold zeJ;rw[e,List.getLast?_concat];rfl

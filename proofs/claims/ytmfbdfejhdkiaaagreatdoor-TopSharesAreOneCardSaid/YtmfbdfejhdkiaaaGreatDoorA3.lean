/- A region that draws its order: a head that only lays new blocks, in whatever order, and a tail that its edges put behind the head in one order. -/
import Derived.Test.YtmfbdfejhdkiaaaGreatDoorE2
set_option linter.all false
set_option maxRecDepth 100000
set_option maxHeartbeats 4000000
namespace Go.Proofs.YtmfbdfejhdkiaaaGreatDoor
attribute [local go_sem] World.cell?_alloc_mark zae za4 zao za8 zav zaw zax zay zaz za0 za1
section
open Go.RowKit
structure FewS (k:Nat) (s:St):Prop where
 graves:s.graves.length<=k
 kids:s.children.length<=k
 marr:s.marriages.length<=k
 dead:s.dead.length<=k
 ren:s.renounce.length<=k
 wills:∀n,(zbx s n).length<=8
 held:∀g∈s.graves,g.holders.length<=80*k/\g.died.length<=k/\g.fin<=200000
theorem zkB(day years:Int):zcg day years<=200000:=by
 unfold zcg zbF;simp only;split
 ·decide
 ·split
  ·rename_i h
   have:=(zf5.1 h).2;omega
  ·decide
theorem zfD:FewS 0 zbb:=⟨Qc,Qc,Qc,Qc,Qc,fun n=>by simp[zbb,zbx],by simp[zbb]⟩
theorem FewS.up{k:Nat}{s:St}(h:FewS k s):FewS (k+1) s:=
 ⟨Nat.le_succ_of_le h.graves,Nat.le_succ_of_le h.kids,Nat.le_succ_of_le h.marr,Nat.le_succ_of_le h.dead,Nat.le_succ_of_le h.ren,h.wills,fun g hg=>by have:=h.held g hg;exact⟨by omega,by omega,this.2.2⟩⟩
theorem zdY(l:Parts)(n:ByteArray):(zar l n).length<=l.length:=List.length_filter_le _ _
theorem zkC{own:Rat}:∀ {l out o:Parts},zb5 own l out=some o->o.length<=out.length+l.length
 | [],out,o,h=>by
   rw[zb5]at h;cases h;simp
 |p::l,out,o,h=>by
  rw[zb5]at h;split at h
  ·cases h
  split at h
  ·cases h
  have:=zkC h;have h2:=zc0 p.1 (own*p.2) out;simp;omega
theorem FewS.withG{k:Nat}{s:St}{i:Nat}{g g':Grave}(h:FewS k s)(hi:s.graves[i]?=some g)(h1:g'.holders.length<=80*k+80)(h2:g'.died.length<=k+1)(h3:g'.fin<=200000):FewS (k+1) (s.withGrave i g'):=by
 refine {h.up with graves:= ?_,held:=fun x hx=>?_}
 ·unfold St.withGrave;simp only[List.length_set];exact Nat.le_succ_of_le h.graves
 ·unfold St.withGrave at hx;rcases List.mem_or_eq_of_mem_set hx with hx|rfl
  ·exact h.up.held x hx
  ·exact⟨by omega,h2,h3⟩
theorem ziK{s:St}{pl:ByteArray}{day:Int}{i:Nat}(h:zaS s pl day=some i):∃g,s.graves[i]?=some g/\s.graves.getD i zjj=g/\g∈s.graves:=by
 obtain⟨g,h1,_⟩:=zch h;exact⟨g,h1,zgv h1,List.mem_of_getElem? h1⟩
theorem zkD{laws:List Law}{s s':St}{d:Deed}{last:Int}{k:Nat}(h:FewS k s)(hk:k<60)(hG:GoodSt s last)(hd:OkD d)(hl:last<=d.day)(bc:za9 laws=0)(ht:zbk laws s d=(s',0)):FewS (k+1) s':=by
 have fP:=hd.len;have cC:=hd.kind;unfold zbk at ht;split at ht
 ·unfold zcT at ht;split at ht
  ·simp at ht
  split at ht
  ·simp at ht
  split at ht
  ·simp at ht
  simp only[Prod.mk.injEq,and_true]at ht;rw[<-ht];refine {h.up with graves:= ?_,held:=fun g hg=>?_}
  ·have:=h.graves;simp;omega
  ·rcases List.mem_append.1 hg with hg|hg
   ·exact h.up.held g hg
   ·rw[List.mem_singleton.1 hg];have:=zfk d.to [];simp only[List.length_nil]at this⊢;refine⟨by omega,Nat.zero_le _,?_⟩;split
    ·exact zkB _ _
    ·decide
 split at ht
 ·unfold zbs at ht;split at ht
  ·simp at ht
  rename_i i hi
  obtain⟨g,cK,cz,sO⟩:=ziK hi;rw[cz]at ht;simp only at ht;split at ht
  ·simp at ht
  split at ht
  ·simp at ht
  split at ht
  ·simp at ht
  split at ht
  ·simp at ht
  split at ht
  ·simp at ht
  rename_i out ho
  simp only[Prod.mk.injEq,and_true]at ht;rw[<-ht];have h1:=zkC ho;have h2:=zc0 d.frm (zag g.holders d.frm*(1-sumQ (zan d.to))) (zar g.holders d.frm);have h3:=zdY g.holders d.frm;have h4:=h.held g sO;have h5:(zan d.to).length=d.to.length:=by unfold zan;simp
  exact h.withG cK MdR MdR MdR
 split at ht
 ·unfold zba at ht;split at ht
  ·simp at ht
  rename_i i hi
  obtain⟨g,cK,cz,sO⟩:=ziK hi;rw[cz]at ht;simp only at ht;split at ht
  ·simp at ht
  split at ht
  ·simp at ht
  simp only[Prod.mk.injEq,and_true]at ht;rw[<-ht];have h3:=zdY g.holders d.frm;have h4:=h.held g sO;exact h.withG cK (by simp only[List.length_map];omega) MdR MdR
 split at ht
 ·unfold zdb at ht;split at ht
  ·simp at ht
  rename_i i hi
  obtain⟨g,cK,cz,sO⟩:=ziK hi;rw[cz]at ht;simp only at ht;split at ht
  ·simp at ht
  split at ht
  ·simp at ht
  simp only[Prod.mk.injEq,and_true]at ht;rw[<-ht];have h4:=h.held g sO;exact h.withG cK MdR MdR (zkB _ _)
 split at ht
 ·unfold zgZ at ht;split at ht
  ·simp at ht
  simp only[Prod.mk.injEq,and_true]at ht;rw[<-ht];refine {h.up with wills:=fun n=>?_};rw[zfZ];split
  ·unfold zan;simpa using fP
  ·exact h.wills n
 split at ht
 ·unfold zb6 at ht;split at ht
  ·simp at ht
  split at ht
  ·simp at ht
  simp only[Prod.mk.injEq,and_true]at ht;rw[<-ht];exact {h.up with ren:=by have:=h.ren;simp;omega}
 split at ht
 ·unfold zcD at ht;split at ht
  ·simp at ht
  split at ht
  ·simp at ht
  split at ht
  ·simp at ht
  simp only[Prod.mk.injEq,and_true]at ht;rw[<-ht];exact {h.up with kids:=by have:=h.kids;simp;omega}
 split at ht
 ·unfold zdu at ht;split at ht
  ·simp at ht
  split at ht
  ·simp at ht
  simp only[Prod.mk.injEq,and_true]at ht;rw[<-ht];exact {h.up with marr:=by have:=h.marr;simp;omega}
 ·unfold zdP at ht;split at ht
  ·simp at ht
  split at ht
  ·simp at ht
  rename_i gs aD
  simp only[Prod.mk.injEq,and_true]at ht;rw[<-ht];obtain⟨ae,i7⟩:=zm1 aD;refine {h.up with graves:=by have:=h.graves;simp only;omega,dead:=by have:=h.dead;simp;omega,held:=fun x hx=>?_};obtain⟨i,hi⟩:=List.mem_iff_getElem?.1 hx;obtain⟨g,g1,g2⟩:=i7 i x hi;have h4:=h.held g (List.mem_of_getElem? g1);rcases g2 with⟨rfl,_⟩|⟨_,hs,out,e1,e2,rfl⟩
  ·exact h.up.held x (List.mem_of_getElem? g1)
  ·have h1:=zkC e2;have h3:=zdY g.holders d.frm;have bJ:=zfc bc d.day;have bL:=ze5 (hG.wills d.frm) bJ e1;have eZ:=(zgd (s:=s) (n:=d.frm) (hG.wills d.frm) bJ).1 hs e1;have qg:=ziF (s:=s) (law:=zbc laws d.day) (n:=d.frm) (by rw[eZ];exact bL.1);rw[eZ]at qg;have:=h.wills d.frm;have:=h.kids;simp only[List.length_append,List.length_singleton]at*;exact⟨by omega,by omega,h4.2.2⟩
end
section
open Go.RowKit Go.Shelf
attribute [local go_sem] zap zac
def intC(n:Nat):List Value:=[.int .i64 (n:Int)]
end
section
open Go.RowKit
end
section
open Go.RowKit
theorem zdo(s:ByteArray)(w:World)(hs:s.size<=100000):
 Calls Tryz.prog 8 #[.string s] w (Ret0 w (.bool (zcN s))):=by
 go_enter Tryz.func8,Tryz.ntmps8
 by_cases h0:s.size=0
 ·have H0:=zHi h0;have h1:(s.size:Int)<1:=Mcq;clear h0;go_wp2_with fail
  go_ret
  exact⟨by simp[zcN,h1],rfl⟩
 have JU:0<s.size:=Mcq;have hg:(zcZ s).getD 0 0=(s[0].toNat:Int):=by simp only[zcZ,List.getD_eq_getElem?_getD,List.getElem?_map,Array.getElem?_toList];rw[Array.getElem?_eq_getElem JU];rfl
 go_wp2_with (first
  |(go_at_call 25;refine(zj1 _ _).mono ?_;intro e wq hq;rcases Ret0.bools hq with⟨rfl,⟨hb,rfl⟩|⟨hb,rfl⟩⟩<;>clear hq)
  |(go_at_call 26;refine(zkY _ _).mono ?_;intro e wq hq;rcases Ret0.bools hq with⟨rfl,⟨hb,rfl⟩|⟨hb,rfl⟩⟩<;>clear hq))
 ·have HG:=zHi hg;clear hg;go_loop [3] (fun i=>∃k:Nat,1<=k/\k<=s.size/\i=.int .i64 k/\zji ((zcZ s).drop 1)=zji ((zcZ s).drop k)) (fun i=>s.size-(intOf i).toNat)
  case atStart=>exact⟨1,by omega,by omega,rfl,rfl⟩
  case round=>
   obtain⟨k,fZ,hk,rfl,hf⟩:=hrel;by_cases aa:k<s.size
   ·rw[zfT s k aa,show s.data[k]=s[k]from rfl]at hf;have HF:=zHi hf;clear hf;have HL:=zHi aa
    go_wp2_with (first
     |(go_at_call 25;refine(zj1 _ _).mono ?_;intro e wq hq;rcases Ret0.bools hq with⟨rfl,⟨hb,rfl⟩|⟨hb,rfl⟩⟩<;>clear hq)
     |(go_at_call 26;refine(zkY _ _).mono ?_;intro e wq hq;rcases Ret0.bools hq with⟨rfl,⟨hb,rfl⟩|⟨hb,rfl⟩⟩<;>clear hq))
    all_goals first
     |(go_round
       case rel=>exact⟨k+1,by omega,by have:=HL.o;omega,by go_num,by rw[HF.o,zji,if_neg (by simp[*])]⟩
       case measure=>have:=HL.o;simp[intOf];omega)
     |(go_ret
       exact⟨by rw[zcN,HG.o,HF.o,zji];simp[*],rfl⟩)
   ·have mT:(zcZ s).drop k=[]:=List.drop_eq_nil_of_le (by rw[zfz];omega);rw[mT,zji]at hf;clear mT;have HF:=zHi hf;clear hf;go_wp2_with fail
    go_ret
    exact⟨by rw[zcN,HG.o,HF.o];simp[*],rfl⟩
 ·go_ret
  exact⟨by rw[zcN,hg];simp[*],rfl⟩
 ·go_ret
  exact⟨by rw[zcN,hg];simp[*],rfl⟩
end
section
variable {P:Program} {ops:Array Oper} {md:Region.Mode} {C:World->Prop}
end

/- Walk of the reference's sorted. -/
import Derived.Test.YtmfbdfejhdkiaaaGreatDoorWV
import Derived.Test.YtmfbdfejhdkiaaaGreatDoorUF
set_option linter.all false
set_option maxRecDepth 100000
set_option maxHeartbeats 4000000
namespace Go.Proofs.YtmfbdfejhdkiaaaGreatDoor
open Go.RowKit Go.Shelf
attribute [local go_sem] World.cell?_alloc_mark zae za4 zao za8 zav zaw zax zay zaz za0 za1
attribute [local go_sem] zap zac
def posT(out:List ByteArray)(x:ByteArray):Nat:=(out.takeWhile fun y=>zbr y x).length
def insT(out:List ByteArray)(x:ByteArray):List ByteArray:=if(out[posT out x]?.map (fun y=>zaf y x)).getD false then out else out.take (posT out x)++[x]++out.drop (posT out x)
def zdg(l:List ByteArray):List ByteArray:=l.foldl insT []
theorem posT_le(out:List ByteArray)(x:ByteArray):posT out x<=out.length:=by
 unfold posT;exact(List.takeWhile_sublist _).length_le
theorem posT_step{out:List ByteArray}{x:ByteArray}{j:Nat}(h:j<out.length)(hl:zbr out[j] x=true):posT (out.drop j) x=1+posT (out.drop (j+1)) x:=by
 unfold posT;rw[List.drop_eq_getElem_cons h,List.takeWhile_cons,if_pos hl,List.length_cons];omega
theorem posT_stop{out:List ByteArray}{x:ByteArray}{j:Nat}(h:j<out.length)(hl:zbr out[j] x=false):posT (out.drop j) x=0:=by
 unfold posT;rw[List.drop_eq_getElem_cons h,List.takeWhile_cons,if_neg (by simp[hl])];rfl
theorem posT_end{out:List ByteArray}{x:ByteArray}{j:Nat}(h:¬j<out.length):posT (out.drop j) x=0:=by
 unfold posT;rw[List.drop_of_length_le Mcq];rfl
theorem insT_len(out:List ByteArray)(x:ByteArray):(insT out x).length<=out.length+1:=by
 unfold insT;split
 ·omega
 ·simp only[List.length_append,List.length_take,List.length_drop,List.length_singleton];have:=posT_le out x;omega
theorem zlW{l:List ByteArray}{k:Nat}(h:k<l.length):zdg (l.take (k+1))=insT (zdg (l.take k)) l[k]:=by
 unfold zdg;rw[List.take_add_one,List.getElem?_eq_getElem h,List.foldl_append];rfl
theorem ziO(l:List ByteArray):(zdg l).length<=l.length:=by
 have h:∀(l out:List ByteArray),(l.foldl insT out).length<=out.length+l.length:=by
  intro l;induction l with
  |nil=>intro out;simp
  |cons x l ih=>
   intro out;have h1:=ih (insT out x);have h2:=insT_len out x;rw[List.foldl_cons,List.length_cons];omega
 simpa[zdg]using h l []
theorem mem_insT{out:List ByteArray}{x y:ByteArray}:y∈insT out x↔y∈out\/y=x:=by
 unfold insT;split
 ·rename_i h
  refine⟨.inl,fun h1=>h1.elim id fun e=>?_⟩;subst e;cases hg:out[posT out y]? with
  |none=>rw[hg]at h;cases h
  |some z=>
   rw[hg]at h;have hz:z=y:=za3.1 Mdn;rw[<-hz];exact List.mem_of_getElem? hg
 ·have e:out.take (posT out x)++out.drop (posT out x)=out:=List.take_append_drop _ _;constructor
  ·intro h;simp only[List.mem_append,List.mem_singleton]at h;rcases h with(h|h)|h
   ·exact .inl (List.mem_of_mem_take h)
   ·exact .inr h
   ·exact .inl (List.mem_of_mem_drop h)
  ·rintro(h|h)
   ·rw[<-e]at h;simp only[List.mem_append,List.mem_singleton]at h⊢;rcases h with h|h
    ·exact .inl (.inl h)
    ·exact .inr h
   ·subst h;simp
theorem znb{l:List ByteArray}{y:ByteArray}:y∈zdg l↔y∈l:=by
 have h:∀(l out:List ByteArray),y∈l.foldl insT out↔y∈out\/y∈l:=by
  intro l;induction l with
  |nil=>intro out;simp
  |cons x l ih=>
   intro out;rw[List.foldl_cons,ih,mem_insT,List.mem_cons,or_assoc]
 rw[zdg,h];simp
def AscT(l:List ByteArray):Prop:=l.Pairwise fun a b=>zbr a b=true
theorem zlX{x:ByteArray}:∀ {out:List ByteArray},∀y∈out.take (posT out x),zbr y x=true
 | [],y,h=>by simp at h
 |z::out,y,h=>by
  unfold posT at h;rw[List.takeWhile_cons]at h;split at h
  ·rename_i hz
   rw[List.length_cons,List.take_succ_cons,List.mem_cons]at h;rcases h with rfl|h
   ·exact hz
   ·exact zlX y h
  ·simp at h
theorem zlY{x:ByteArray}:∀ {out:List ByteArray},AscT out->(out[posT out x]?.map (fun y=>zaf y x)).getD false=false->∀y∈out.drop (posT out x),zbr x y=true
 | [],_,_,y,h=>by simp at h
 |z::out,ha,hn,y,h=>by
  have l9:=List.pairwise_cons.1 ha;unfold posT at h hn;rw[List.takeWhile_cons]at h hn;split at h
  ·rename_i hz
   rw[if_pos hz]at hn;rw[List.length_cons,List.drop_succ_cons]at h;rw[List.length_cons,List.getElem?_cons_succ]at hn;exact zlY l9.2 hn y h
  ·rename_i hz
   rw[if_neg hz]at hn;have nA:zaf z x=false:=by simpa using hn
   have It:zbr x z=true:=by
    rcases zdx z x with k|k|k
    ·exact absurd k hz
    ·exact absurd (za3.2 k) (by rw[nA];simp)
    ·exact k
   rw[List.length_nil,List.drop_zero,List.mem_cons]at h;rcases h with rfl|h
   ·exact It
   ·exact zb3 It (l9.1 y h)
theorem insT_asc{out:List ByteArray}{x:ByteArray}(h:AscT out):AscT (insT out x):=by
 unfold insT;split
 ·exact h
 ·rename_i hn
  have hd:=zlY h (by simpa using hn);have ht:=zlX (x:=x) (out:=out);unfold AscT;rw[List.append_assoc,List.pairwise_append];refine⟨List.Pairwise.sublist (List.take_sublist _ _) h,?_,fun a ha b hb=>?_⟩
  ·rw[List.singleton_append,List.pairwise_cons];exact⟨hd,List.Pairwise.sublist (List.drop_sublist _ _) h⟩
  ·rw[List.singleton_append,List.mem_cons]at hb;rcases hb with rfl|hb
   ·exact ht a ha
   ·exact zb3 (ht a ha) (hd b hb)
theorem znc(l:List ByteArray):AscT (zdg l):=by
 have h:∀(l out:List ByteArray),AscT out->AscT (l.foldl insT out):=by
  intro l;induction l with
  |nil=>intro out ho;exact ho
  |cons x l ih=>intro out ho;exact ih _ (insT_asc ho)
 exact h l [] List.Pairwise.nil
theorem sl_from{w:World}{b off:Nat}{xs:List ByteArray}(h:Sl w 1 sC (some ⟨b,off,none⟩) xs)(k:Nat):Sl w 1 sC (some ⟨b,off+k,none⟩) (xs.drop k):=fun hl=>by
 rw[List.length_drop]at hl;obtain⟨b',off',hA,hb,hc⟩:=h Mcq;simp only[Option.some.injEq,Addr.mk.injEq,and_true]at hA;obtain⟨rfl,rfl⟩:=hA;refine⟨b,off+k,rfl,hb,fun j x hx u v hu=>?_⟩;rw[List.getElem?_drop]at hx;have:=hc (k+j) x hx u v hu;rw[<-this];congr 2
 omega
theorem zgO(W:World)(base:Nat)(h:base<=W.heap.size):OwnS (W.alloc (.cells #[] 9)) base 9 1 sC (.slice (some ⟨W.heap.size,0,none⟩) 0 0) []:=
 OwnS.of_own zaH (World.ownsRow_made W #[] 0 h (Nat.zero_le _) Mcv)
theorem znd(l:List ByteArray)(A:Option Addr)(c:Nat)(w:World)(hl:l.length<=100000)(hS:Sl w 1 sC A l):Calls Tryz.prog 157 #[.slice A l.length c] w (zd6 w (zdg l)):=by
 have HS:=zHi hS;unfold zd6;clear hS;go_enter Tryz.func157,Tryz.ntmps157
 go_upto_region 3 with fail
 go_loopw [3,4,5] (fun v i _ wr=>∃k:Nat,k<=l.length/\i=.int .i64 k/\OwnS wr w.heap.size 9 1 sC v (zdg (l.take k))/\Qa w wr) (fun _ i _ _=>l.length-(intOf i).toNat)
 case atStart=>exact⟨0,Nat.zero_le _,rfl,OwnS.nil,Qb⟩
 case round=>
  obtain⟨k,hk,rfl,ac,hB⟩:=hrel;obtain⟨WR,mn⟩:=Qd wr
  subst mn;have aW:=hB.size;obtain⟨HO,HB⟩:=yH2 ac hB;by_cases aa:k<l.length
  ·have ai:=zlW aa;have bX:=Nat.le_trans (ziO (l.take k)) (by rw[List.length_take];omega:(l.take k).length<=k);generalize zdg (l.take k)=xs at*;obtain⟨VA,vc,rfl,gH,kf⟩:=ac.sl zaH;have j6:=(HS.o.keep hB).at aa;have ak:=zHi aa;generalize l[k]=x at*;obtain⟨b,off,rfl,hb,ah⟩:=j6;have i0:WR.cell? ⟨b,off+k,none⟩=some (.string x):=Mc7;have ar:(k:Int)<(l.length:Int):=Mcq;have aR:(0:Int)<=(k:Int):=Mcq;have iS:Hid (xs.length<=100000):=Mec;obtain⟨bU,l7⟩:=yH2 (fun(W:World) (h:Qa WR W)=>(show W.cell? ⟨b,off+k,none⟩=some (.string x) from(zah h hb).trans i0)) gH;have hp:=posT_le xs x;have aA:=zHi ai;clear ah aa ac hB bX gH ai i0;go_upto_block 2 with fail
   go_cut [5]from 12 to 28 (fun v wc=>v=.int .i64 (posT xs x:Nat)/\Qa WR wc)
   case first=>
    go_wp2_with fail
    go_loopw [5] (fun v6 wr=>∃j:Nat,j<=xs.length/\v6=.int .i64 j/\Hid (posT xs x=j+posT (xs.drop j) x)/\Qa WR wr) (fun v6 _=>xs.length-(intOf v6).toNat)
    case atStart=>exact⟨0,Nat.zero_le _,rfl,zHi Mcv,Qb⟩
    case round=>
     obtain⟨j,hj,rfl,HP,gB⟩:=hrel;have fE:=zHi gB;have hj9:j<=100000:=Mc4;have i1:=bU.o _ gB;by_cases bM:j<xs.length
     ·obtain⟨b2,off2,hA,bC,d8⟩:=(l7.o.keep gB).at bM;subst hA;have j0:wr.cell? ⟨b2,off2+j,none⟩=some (.string xs[j]):=Md4;have cT:=posT_step (x:=x) bM;have Eu:=posT_stop (x:=x) bM;have vw:=zHi bM;generalize xs[j]=y at*;have bF:(j:Int)<(xs.length:Int):=Mcq;have sW:(0:Int)<=(j:Int):=Mcq;cases j6:zbr y x
      ·have nS:Op.bytesLess y.toList x.toList=false:=j6;have lV:Hid (posT xs x=j):=by show _=_;have:=HP.o;rw[Eu j6]at this;simpa using this
       clear d8 cT Eu gB bM j6;exact Ma3
      ·have nS:Op.bytesLess y.toList x.toList=true:=j6;have lV:Hid (posT xs x=j+1+posT (xs.drop (j+1)) x):=by show _=_;have:=HP.o;rw[cT j6]at this;omega
       clear d8 cT Eu gB bM j6;go_upto_region 6 with fail
       go_quiet (fail)
       go_wp2_with fail
       go_round
       case rel=>exact⟨j+1,vw.o,by go_num,lV,zeh fE.o _⟩
       case measure=>have:=vw.o;simp only[intOf];omega
     ·have bF:¬(j:Int)<(xs.length:Int):=Mcq;have lV:Hid (posT xs x=j):=by show _=_;have:=HP.o;rw[posT_end bM]at this;simpa using this
      clear gB;exact Ma3
   case rest=>
    obtain⟨rfl,iT⟩:=hcut;obtain⟨WC,ul⟩:=Qd wc
    subst ul;have ai:=aA.o;unfold insT at ai;have mJ:∀hp:posT xs x<xs.length,(xs[posT xs x]?.map (fun y=>zaf y x)).getD false=zaf xs[posT xs x] x:=fun hp=>by rw[List.getElem?_eq_getElem hp];rfl
    have xt:¬posT xs x<xs.length->(xs[posT xs x]?.map (fun y=>zaf y x)).getD false=false:=fun hp=>by rw[List.getElem?_eq_none Mcq];rfl
    generalize posT xs x=a at*;generalize(xs[a]?.map (fun y=>zaf y x)).getD false=fnd at*;have i1:=bU.o _ iT;have L1:=iT.size;obtain⟨F3,cO⟩:=yH2 iT ai;clear aA ai;go_upto_region 8 with fail
    go_cut [43]from 29 to 43 (fun v w4=>v=.bool (!fnd)/\Qa WC w4)
    case first=>
     by_cases hal:a<xs.length
     ·obtain⟨b2,off2,hA,bC,d8⟩:=(l7.o.keep iT).at hal;subst hA;have j0:WC.cell? ⟨b2,off2+a,none⟩=some (.string xs[a]):=Md4;have hf:=mJ hal;generalize xs[a]=y at*;have At:(a:Int)<(xs.length:Int):=Mcq;have oN:(0:Int)<=(a:Int):=Mcq;have KW:((a:Int)==(xs.length:Int))=false:=Mcw;subst hf;cases hs:zaf y x
      ·have bk:(y.toList==x.toList)=false:=hs;clear d8 mJ xt iT hal;exact Mar
      ·have bk:(y.toList==x.toList)=true:=hs;clear d8 mJ xt iT hal;exact Mar
     ·have KW:((a:Int)==(xs.length:Int))=true:=Mcw;have hf:=xt hal;subst hf;clear mJ xt iT;exact Mar
    case rest=>
     obtain⟨rfl,hz⟩:=hcut;obtain⟨wr,qF⟩:=Qd wc
     subst qF;have eE:Qa WR wr:=F3.o.trans (hz.mono L1);have EM:=eE.size;obtain⟨aC,dm,vS⟩:=yH3 (HB.o.trans (eE.mono aW)) (HO.o.keep eE) (fun W (h:Qa wr W)=>bU.o W (eE.trans (h.mono EM)));have pE:w.heap.size<=wr.heap.size:=Mcq;clear hz F3 HB HO bU iT i1;cases fnd
     ·have aA:Hid (zdg (l.take (k+1))=xs.take a++[x]++xs.drop a):=by show _=_;rw[cO.o];rfl
      have HB:=aC;have bU:=vS;have HA:Hid (a<=xs.length):=hp;have fI:Hid ((xs.take a).length=a):=by show _=_;rw[List.length_take];omega
      have lI:Hid (xs.length-a=(xs.drop a).length):=by show _=_;rw[List.length_drop]
      clear cO aC vS mJ xt;rcases dm.o with⟨he,dG⟩|⟨g,o,cap,cur,he,cK,cz,_,_,_,_⟩
      ·simp only[Value.slice.injEq]at he;obtain⟨rfl,_,rfl⟩:=he;subst dG;have oN:a=0:=Mel;subst oN;let xs:List ByteArray:=[]
       let a:Nat:=0
       have rE:Hid (∀W,Qa wr W->Sl W 1 sC (none:Option Addr) (xs.take a)):=fun W _=>Sl.nil
       have rA:Hid (∀W,Qa wr W->Sl W 1 sC (none:Option Addr) (xs.drop a)):=fun W _=>Sl.nil
       exact Mb
      ·simp only[Value.slice.injEq,true_and]at he;obtain⟨rfl,rfl⟩:=he;have rE:Hid (∀W,Qa wr W->Sl W 1 sC (some ⟨g,o,none⟩) (xs.take a)):=fun W h=>((l7.o.keep eE).take a).keep h
       have oN:(0:Int)<=(a:Int):=Mcq;have oO:(a:Int)<=(xs.length:Int):=Mcq;have ha2:(a:Int)<=(vc:Int):=Mcq;by_cases ao:a=vc
       ·have GR:xs.drop a=[]:=List.drop_of_length_le Mcq;have rA:Hid (∀(A:Option Addr) W,Qa wr W->Sl W 1 sC A (xs.drop a)):=fun A W _=>by rw[GR];exact Sl.nil
        clear GR cK cz;subst ao;clear eE dm;go_upto_region 9 with fail
        have i1:=bU.o wr Qb;refine zaJ 10 (fun bb w'=>bb=true\/w'.cell? ⟨b,off+k,none⟩=some (.string x)) Mcs (.inr (bU.o _ (zaF Qb))) ?hrest
        case hrest=>
         intro hHeld;refine TkM 5 ?_;refine TkM 6 ?_;refine TkM 7 ?_;refine TkM 8 ?_;refine TkM 1 ?_;refine TkM 2 ?_;refine TkM 3 ?_;refine FrM 11 false ?_;refine FrM 12 false ?_;refine FrM 13 false ?_;refine TwM 0 9 (fun K hK=>?_) fun K hK=>?_
         ·go_simp
          have e0:Qa wr (wr.drew.alloc (.cells #[] 9)):=zad (zaF Qb) _;refine NxM hK (fun hHeld=>?_) (.inr (bU.o _ e0));clear hK K;refine TwM 4 9 (fun K hK=>?_) fun K hK=>?_
          ·refine zak (v:=.slice (some ⟨wr.heap.size,0,none⟩) 0 0) (n:=0) (m:=a) rfl _ _ rfl zbJ zaH zbI rfl (xs:=[]) (ys:=xs.take a) (zgO wr.drew wr.heap.size Qc) rfl rfl (fI.o.symm) (rE.o _ e0) McB McQ McC ?_;intro v4 w4 h1 h2 h3;rw[List.nil_append]at h1;obtain⟨V4,c4,aT,_,_⟩:=h1.sl zaH;rw[fI.o]at aT;subst aT;have ay:Qa wr w4:=Below.grown e0 h2 Mdr (fun j hj=>by simp[za6]at hj;omega);refine NxM hK (fun hHeld=>?_) (.inr (bU.o _ ay));clear hK K;refine OnM 9 false fun K hK=>?_
           go_simp
           have e1:Qa wr (w4.alloc (.cells #[.string x] 9)):=zad ay _;have n1:(w4.alloc (.cells #[.string x] 9)).heap[w4.heap.size]?=some (.cells #[.string x] 9):=zat _ _ _ rfl;have o1:OwnS (w4.alloc (.cells #[.string x] 9)) wr.heap.size 9 1 sC (.slice V4 a c4) (xs.take a):=h1.keep (n:=w4.heap.size) (zad Qb _);refine NxM hK (fun hHeld=>?_) (.inr (bU.o _ e1));clear hK K;refine OnM 10 true fun K hK=>?_
           refine zak (v:=.slice V4 a c4) (n:=a) (m:=1) rfl _ _ rfl zbJ zaH zbI rfl (xs:=xs.take a) (ys:=[x]) (o1) fI.o rfl rfl (zgg n1) McB McQ Mcx ?_;intro v5 w5 g1 g2 g3;obtain⟨A5,c5,eh,_,_⟩:=g1.sl zaH;rw[List.length_append,fI.o]at eh;subst eh;have aq:Qa wr w5:=Below.grown e1 g2 McM (fun j hj=>((o1).ge j hj).1);refine NxM hK fun hHeld=>?_
           clear hK K;refine OnM 14 true fun K hK=>?_
           refine zak (v:=.slice A5 (a+[x].length) c5) (n:=a+[x].length) (m:=0) rfl _ _ rfl zbJ zaH zbI rfl (xs:=xs.take a++[x]) (ys:=xs.drop a) g1 Mem rfl (by rw[<-lI.o];omega) (rA.o _ w5 aq) McP McS (by have:=aq.size;omega) ?_;exact Mg
          ·go_simp
           have e1:Qa wr ((wr.drew.alloc (.cells #[] 9)).alloc (.cells #[.string x] 9)):=zad e0 _;have n1:((wr.drew.alloc (.cells #[] 9)).alloc (.cells #[.string x] 9)).heap[wr.heap.size+1]?=some (.cells #[.string x] 9):=zat _ _ _ Mcv;have m1:OwnS ((wr.drew.alloc (.cells #[] 9)).alloc (.cells #[.string x] 9)) wr.heap.size 9 1 sC (.slice (some ⟨wr.heap.size,0,none⟩) 0 0) []:=(zgO wr.drew wr.heap.size Qc).keep (n:=(wr.drew.alloc (.cells #[] 9)).heap.size) (zad Qb _);refine NxM hK (fun hHeld=>?_) (.inr (bU.o _ e1));clear hK K;refine OnM 4 false fun K hK=>?_
           refine zak (v:=.slice (some ⟨wr.heap.size,0,none⟩) 0 0) (n:=0) (m:=a) rfl _ _ rfl zbJ zaH zbI rfl (xs:=[]) (ys:=xs.take a) (m1) rfl rfl (fI.o.symm) (rE.o _ e1) McB McQ Mcx ?_;intro v4 w4 h1 h2 h3;rw[List.nil_append]at h1;obtain⟨V4,c4,aT,_,_⟩:=h1.sl zaH;rw[fI.o]at aT;subst aT;have ay:Qa wr w4:=Below.grown e1 h2 McM (fun j hj=>by simp[za6]at hj;omega);have n2:w4.heap[wr.heap.size+1]?=some (.cells #[.string x] 9):=(h2.block _ McI Mde).trans n1;exact MbV
         ·go_simp
          have e0:Qa wr (wr.drew.alloc (.cells #[.string x] 9)):=zad (zaF Qb) _;have n0:(wr.drew.alloc (.cells #[.string x] 9)).heap[wr.heap.size]?=some (.cells #[.string x] 9):=zat _ _ _ rfl;refine NxM hK (fun hHeld=>?_) (.inr (bU.o _ e0));clear hK K;refine OnM 0 false fun K hK=>?_
          go_simp
          have e1:Qa wr ((wr.drew.alloc (.cells #[.string x] 9)).alloc (.cells #[] 9)):=zad e0 _;have n1:((wr.drew.alloc (.cells #[.string x] 9)).alloc (.cells #[] 9)).heap[wr.heap.size]?=some (.cells #[.string x] 9):=zal n0;refine NxM hK (fun hHeld=>?_) (.inr (bU.o _ e1));clear hK K;refine OnM 4 false fun K hK=>?_
          have m1:OwnS ((wr.drew.alloc (.cells #[.string x] 9)).alloc (.cells #[] 9)) wr.heap.size 9 1 sC (.slice (some ⟨wr.heap.size+1,0,none⟩) 0 0) []:=by
           exact Mch
          refine zak (v:=.slice (some ⟨wr.heap.size+1,0,none⟩) 0 0) (n:=0) (m:=a) rfl _ _ rfl zbJ zaH zbI rfl (xs:=[]) (ys:=xs.take a) (m1) rfl rfl (fI.o.symm) (rE.o _ e1) McB McQ Mcx ?_;intro v4 w4 h1 h2 h3;rw[List.nil_append]at h1;obtain⟨V4,c4,aT,_,_⟩:=h1.sl zaH;rw[fI.o]at aT;subst aT;have ay:Qa wr w4:=Below.grown e1 h2 McM (fun j hj=>by simp[za6]at hj;omega);have n2:w4.heap[wr.heap.size]?=some (.cells #[.string x] 9):=(h2.block _ McI Mde).trans n1;exact MbV
       ·have rA:Hid (∀W,Qa wr W->Sl W 1 sC (some ⟨g,o+a,none⟩) (xs.drop a)):=fun W h=>(sl_from (l7.o.keep eE) a).keep h
        have GH:¬vc=a:=fun h=>ao h.symm
        clear cK cz;exact Mb
     ·have aA:Hid (zdg (l.take (k+1))=xs):=by show _=_;rw[cO.o];rfl
      go_wp2_with fail
      go_round
      case rel=>exact⟨k+1,ak.o,by go_num,by rw[aA.o];exact dm.o,aC.o⟩
      case measure=>have:=ak.o;simp only[intOf];omega
  ·exact MaS

/- Walk of the reference's sorted. -/
import Derived.Test.YtckkbkdcdkhglaaGreatDoorWV
import Derived.Test.YtckkbkdcdkhglaaGreatDoorUF
set_option linter.unusedSimpArgs false
set_option linter.unusedVariables false
set_option maxRecDepth 100000
set_option maxHeartbeats 4000000
namespace Go.Proofs.YtckkbkdcdkhglaaGreatDoor
open Go.RowKit Go.Shelf
attribute [local go_sem] World.cell?_alloc_mark zag za5 zaq za8 zaw zax zay zaz za0 za1 za2
attribute [local go_sem] zap zad
def posT (out:List ByteArray) (x:ByteArray):Nat:=(out.takeWhile fun y=>zbo y x).length
def insT (out:List ByteArray) (x:ByteArray):List ByteArray:=if(out[posT out x]?.map (fun y=>zae y x)).getD false then out else out.take (posT out x)++[x]++out.drop (posT out x)
def zde (l:List ByteArray):List ByteArray:=l.foldl insT []
theorem posT_le (out:List ByteArray) (x:ByteArray):posT out x<=out.length:=by
 unfold posT;exact(List.takeWhile_sublist _).length_le
theorem posT_step {out:List ByteArray} {x:ByteArray} {j:Nat} (h:j<out.length) (hl:zbo out[j] x=true):posT (out.drop j) x=1+posT (out.drop (j+1)) x:=by
 unfold posT;rw[List.drop_eq_getElem_cons h,List.takeWhile_cons,if_pos hl,List.length_cons];omega
theorem posT_stop {out:List ByteArray} {x:ByteArray} {j:Nat} (h:j<out.length) (hl:zbo out[j] x=false):posT (out.drop j) x=0:=by
 unfold posT;rw[List.drop_eq_getElem_cons h,List.takeWhile_cons,if_neg (by simp[hl])];rfl
theorem posT_end {out:List ByteArray} {x:ByteArray} {j:Nat} (h: ¬j<out.length):posT (out.drop j) x=0:=by
 unfold posT;rw[List.drop_of_length_le Mcl];rfl
theorem insT_len (out:List ByteArray) (x:ByteArray):(insT out x).length<=out.length+1:=by
 unfold insT;split
 ·omega
 ·simp only[List.length_append,List.length_take,List.length_drop,List.length_singleton];have:=posT_le out x;omega
theorem zmi {l:List ByteArray} {k:Nat} (h:k<l.length):zde (l.take (k+1))=insT (zde (l.take k)) l[k]:=by
 unfold zde;rw[List.take_add_one,List.getElem?_eq_getElem h,List.foldl_append];rfl
theorem ziU (l:List ByteArray):(zde l).length<=l.length:=by
 have h: ∀(l out:List ByteArray),(l.foldl insT out).length<=out.length+l.length:=by
  intro l;induction l with
  |nil=>intro out;simp
  |cons x l ih=>
   intro out;have h1:=ih (insT out x);have h2:=insT_len out x;rw[List.foldl_cons,List.length_cons];omega
 simpa[zde]using h l []
theorem mem_insT {out:List ByteArray} {x y:ByteArray}:y∈insT out x↔y∈out\/y=x:=by
 unfold insT;split
 ·rename_i h
  refine⟨.inl,fun h1=>h1.elim id fun e=> ?_⟩;subst e;cases hg:out[posT out y]? with
  |none=>rw[hg]at h;cases h
  |some z=>
   rw[hg]at h;have hz:z=y:=zat.1 Mdx;rw[<-hz];exact List.mem_of_getElem? hg
 ·have e:out.take (posT out x)++out.drop (posT out x)=out:=List.take_append_drop _ _;constructor
  ·intro h;simp only[List.mem_append,List.mem_singleton]at h;rcases h with(h|h)|h
   ·exact .inl (List.mem_of_mem_take h)
   ·exact .inr h
   ·exact .inl (List.mem_of_mem_drop h)
  ·rintro(h|h)
   ·rw[<-e]at h;simp only[List.mem_append,List.mem_singleton]at h⊢;rcases h with h|h
    ·exact .inl (.inl h)
    ·exact .inr h
   ·subst h;simp
theorem znn {l:List ByteArray} {y:ByteArray}:y∈zde l↔y∈l:=by
 have h: ∀(l out:List ByteArray),y∈l.foldl insT out↔y∈out\/y∈l:=by
  intro l;induction l with
  |nil=>intro out;simp
  |cons x l ih=>
   intro out;rw[List.foldl_cons,ih,mem_insT,List.mem_cons,or_assoc]
 rw[zde,h];simp
def AscT (l:List ByteArray):Prop:=l.Pairwise fun a b=>zbo a b=true
theorem zmj {x:ByteArray}: ∀ {out:List ByteArray},∀y∈out.take (posT out x),zbo y x=true
 | [],y,h=>by simp at h
 |z::out,y,h=>by
  unfold posT at h;rw[List.takeWhile_cons]at h;split at h
  ·rename_i hz
   rw[List.length_cons,List.take_succ_cons,List.mem_cons]at h;rcases h with rfl|h
   ·exact hz
   ·exact zmj y h
  ·simp at h
theorem zmk {x:ByteArray}: ∀ {out:List ByteArray},AscT out->(out[posT out x]?.map (fun y=>zae y x)).getD false=false-> ∀y∈out.drop (posT out x),zbo x y=true
 | [],_,_,y,h=>by simp at h
 |z::out,ha,hn,y,h=>by
  have kT:=List.pairwise_cons.1 ha;unfold posT at h hn;rw[List.takeWhile_cons]at h hn;split at h
  ·rename_i hz
   rw[if_pos hz]at hn;rw[List.length_cons,List.drop_succ_cons]at h;rw[List.length_cons,List.getElem?_cons_succ]at hn;exact zmk kT.2 hn y h
  ·rename_i hz
   rw[if_neg hz]at hn;have mW:zae z x=false:=by simpa using hn
   have Gu:zbo x z=true:=by
    rcases zds z x with k|k|k
    ·exact absurd k hz
    ·exact absurd (zat.2 k) (by rw[mW];simp)
    ·exact k
   rw[List.length_nil,List.drop_zero,List.mem_cons]at h;rcases h with rfl|h
   ·exact Gu
   ·exact zb1 Gu (kT.1 y h)
theorem insT_asc {out:List ByteArray} {x:ByteArray} (h:AscT out):AscT (insT out x):=by
 unfold insT;split
 ·exact h
 ·rename_i hn
  have hd:=zmk h (by simpa using hn);have ht:=zmj (x:=x) (out:=out);unfold AscT;rw[List.append_assoc,List.pairwise_append];refine⟨List.Pairwise.sublist (List.take_sublist _ _) h,?_,fun a ha b hb=> ?_⟩
  ·rw[List.singleton_append,List.pairwise_cons];exact⟨hd,List.Pairwise.sublist (List.drop_sublist _ _) h⟩
  ·rw[List.singleton_append,List.mem_cons]at hb;rcases hb with rfl|hb
   ·exact ht a ha
   ·exact zb1 (ht a ha) (hd b hb)
theorem zno (l:List ByteArray):AscT (zde l):=by
 have h: ∀(l out:List ByteArray),AscT out->AscT (l.foldl insT out):=by
  intro l;induction l with
  |nil=>intro out ho;exact ho
  |cons x l ih=>intro out ho;exact ih _ (insT_asc ho)
 exact h l [] List.Pairwise.nil
theorem sl_from {w:World} {b off:Nat} {xs:List ByteArray} (h:Sl w 1 sC (some ⟨b,off,none⟩) xs) (k:Nat):Sl w 1 sC (some ⟨b,off+k,none⟩) (xs.drop k):=fun hl=>by
 rw[List.length_drop]at hl;obtain⟨b',off',hA,hb,hc⟩:=h Mcl;simp only[Option.some.injEq,Addr.mk.injEq,and_true]at hA;obtain⟨rfl,rfl⟩:=hA;refine⟨b,off+k,rfl,hb,fun j x hx u v hu=> ?_⟩;rw[List.getElem?_drop]at hx;have:=hc (k+j) x hx u v hu;rw[<-this];congr 2
 omega
theorem zgD (W:World) (base:Nat) (h:base<=W.heap.size):OwnS (W.alloc (.cells #[] 9)) base 9 1 sC (.slice (some ⟨W.heap.size,0,none⟩) 0 0) []:=
 OwnS.of_own zaB (World.ownsRow_made W #[] 0 h (Nat.zero_le _) Mco)
theorem znp (l:List ByteArray) (A:Option Addr) (c:Nat) (w:World) (hl:l.length<=100000) (hS:Sl w 1 sC A l):Calls Tryz.prog 182 #[.slice A l.length c] w (zd1 w (zde l)):=by
 have HS:=zHi hS;unfold zd1;clear hS;go_enter Tryz.func182,Tryz.ntmps182
 go_upto_region 3 with fail
 go_loopw [3,4,5] (fun v i _ wr=> ∃k:Nat,k<=l.length/\i= .int .i64 k/\OwnS wr w.heap.size 9 1 sC v (zde (l.take k))/\Below w.heap.size w wr) (fun _ i _ _=>l.length-(intOf i).toNat)
 case atStart=>exact⟨0,Nat.zero_le _,rfl,OwnS.nil,Below.refl _ _⟩
 case round=>
  obtain⟨k,hk,rfl,ae,hB⟩:=hrel;obtain⟨WR,ov⟩: ∃WR,WR=wr:=⟨_,rfl⟩
  subst ov;have aK:=hB.size;have HO:=zHi ae;have HB:=zHi hB;by_cases aa:k<l.length
  ·have am:=zmi aa;have bK:=Nat.le_trans (ziU (l.take k)) (by rw[List.length_take];omega:(l.take k).length<=k);generalize zde (l.take k)=xs at*;obtain⟨VA,vc,rfl,jk,kC⟩:=ae.sl zaB;have iT:=(HS.o.keep hB).at aa;have aq:=zHi aa;generalize l[k]=x at*;obtain⟨b,off,rfl,hb,ah⟩:=iT;have i0:WR.cell? ⟨b,off+k,none⟩=some (.string x):=McM;have ar:(k:Int)<(l.length:Int):=Mcl;have aT:(0:Int)<=(k:Int):=Mcl;have fU:Hid (xs.length<=100000):=by show _<=_;omega
   have bY:=zHi (fun(W:World) (h:Below WR.heap.size WR W)=>(show W.cell? ⟨b,off+k,none⟩=some (.string x) from(zah h hb).trans i0));have td:=zHi jk;have hp:=posT_le xs x;have aB:=zHi am;clear ah aa ae hB bK jk am i0;go_upto_block 2 with fail
   go_cut [5]from 12 to 28 (fun v wc=>v= .int .i64 (posT xs x:Nat)/\Below WR.heap.size WR wc)
   case first=>
    go_wp2_with fail
    go_loopw [5] (fun v6 wr=> ∃j:Nat,j<=xs.length/\v6= .int .i64 j/\Hid (posT xs x=j+posT (xs.drop j) x)/\Below WR.heap.size WR wr) (fun v6 _=>xs.length-(intOf v6).toNat)
    case atStart=>exact⟨0,Nat.zero_le _,rfl,zHi Mco,Below.refl _ _⟩
    case round=>
     obtain⟨j,hj,rfl,HP,gA⟩:=hrel;have fI:=zHi gA;have hj9:j<=100000:=Mc8;have i1:=bY.o _ gA;by_cases d9:j<xs.length
     ·obtain⟨b2,off2,hA,bF,cA⟩:=(td.o.keep gA).at d9;subst hA;have j0:wr.cell? ⟨b2,off2+j,none⟩=some (.string xs[j]):=MdX;have eD:=posT_step (x:=x) d9;have De:=posT_stop (x:=x) d9;have DY:=zHi d9;generalize xs[j]=y at*;have cq:(j:Int)<(xs.length:Int):=Mcl;have tQ:(0:Int)<=(j:Int):=Mcl;cases iT:zbo y x
      ·have pH:Op.bytesLess y.toList x.toList=false:=iT;have lQ:Hid (posT xs x=j):=by show _=_;have:=HP.o;rw[De iT]at this;simpa using this
       clear cA eD De gA d9 iT;exact Ma1
      ·have pH:Op.bytesLess y.toList x.toList=true:=iT;have lQ:Hid (posT xs x=j+1+posT (xs.drop (j+1)) x):=by show _=_;have:=HP.o;rw[eD iT]at this;omega
       clear cA eD De gA d9 iT;go_upto_region 6 with fail
       go_quiet (fail)
       go_wp2_with fail
       go_round
       case rel=>exact⟨j+1,DY.o,by go_num,lQ,zd4 fI.o _⟩
       case measure=>have:=DY.o;simp only[intOf];omega
     ·have cq: ¬(j:Int)<(xs.length:Int):=Mcl;have lQ:Hid (posT xs x=j):=by show _=_;have:=HP.o;rw[posT_end d9]at this;simpa using this
      clear gA;exact Ma1
   case rest=>
    obtain⟨rfl,pi⟩:=hcut;obtain⟨WC,tE⟩: ∃WC,WC=wc:=⟨_,rfl⟩
    subst tE;have am:=aB.o;unfold insT at am;have oy: ∀hp:posT xs x<xs.length,(xs[posT xs x]?.map (fun y=>zae y x)).getD false=zae xs[posT xs x] x:=fun hp=>by rw[List.getElem?_eq_getElem hp];rfl
    have wT: ¬posT xs x<xs.length->(xs[posT xs x]?.map (fun y=>zae y x)).getD false=false:=fun hp=>by rw[List.getElem?_eq_none Mcl];rfl
    generalize posT xs x=a at*;generalize(xs[a]?.map (fun y=>zae y x)).getD false=fnd at*;have i1:=bY.o _ pi;have Jt:=pi.size;have DK:=zHi pi;have eW:=zHi am;clear aB am;go_upto_region 8 with fail
    go_cut [43]from 29 to 43 (fun v w4=>v= .bool (!fnd)/\Below WC.heap.size WC w4)
    case first=>
     by_cases jM:a<xs.length
     ·obtain⟨b2,off2,hA,bF,cA⟩:=(td.o.keep pi).at jM;subst hA;have j0:WC.cell? ⟨b2,off2+a,none⟩=some (.string xs[a]):=MdX;have hf:=oy jM;generalize xs[a]=y at*;have hai:(a:Int)<(xs.length:Int):=Mcl;have ow:(0:Int)<=(a:Int):=Mcl;have Jp:((a:Int)==(xs.length:Int))=false:=Mcq;subst hf;cases hs:zae y x
      ·have br:(y.toList==x.toList)=false:=hs;clear cA oy wT pi jM;exact Mar
      ·have br:(y.toList==x.toList)=true:=hs;clear cA oy wT pi jM;exact Mar
     ·have Jp:((a:Int)==(xs.length:Int))=true:=Mcq;have hf:=wT jM;subst hf;clear oy wT pi;exact Mar
    case rest=>
     obtain⟨rfl,hz⟩:=hcut;obtain⟨wr,ud⟩: ∃wr,wr=wc:=⟨_,rfl⟩
     subst ud;have eJ:Below WR.heap.size WR wr:=DK.o.trans (hz.mono Jt);have ym:=eJ.size;have aS:=zHi (HB.o.trans (eJ.mono aK));have dl:=zHi (HO.o.keep eJ);have vm:=zHi (fun W (h:Below wr.heap.size wr W)=>bY.o W (eJ.trans (h.mono ym)));have y8:w.heap.size<=wr.heap.size:=Mcl;clear hz DK HB HO bY pi i1;cases fnd
     ·have aB:Hid (zde (l.take (k+1))=xs.take a++[x]++xs.drop a):=by show _=_;rw[eW.o];rfl
      have HB:=aS;have bY:=vm;have HA:Hid (a<=xs.length):=hp;have eX:Hid ((xs.take a).length=a):=by show _=_;rw[List.length_take];omega
      have oX:Hid (xs.length-a=(xs.drop a).length):=by show _=_;rw[List.length_drop]
      clear eW aS vm oy wT;rcases dl.o with⟨he,dQ⟩|⟨g,o,cap,cur,he,bO,bS,_,_,_,_⟩
      ·simp only[Value.slice.injEq]at he;obtain⟨rfl,_,rfl⟩:=he;subst dQ;have ow:a=0:=by simpa using hp
       subst ow;let xs:List ByteArray:=[]
       let a:Nat:=0
       have qF:Hid (∀W,Below wr.heap.size wr W->Sl W 1 sC (none:Option Addr) (xs.take a)):=fun W _=>Sl.nil
       have vg:Hid (∀W,Below wr.heap.size wr W->Sl W 1 sC (none:Option Addr) (xs.drop a)):=fun W _=>Sl.nil
       exact Mb
      ·simp only[Value.slice.injEq,true_and]at he;obtain⟨rfl,rfl⟩:=he;have qF:Hid (∀W,Below wr.heap.size wr W->Sl W 1 sC (some ⟨g,o,none⟩) (xs.take a)):=fun W h=>((td.o.keep eJ).take a).keep h
       have ow:(0:Int)<=(a:Int):=Mcl;have tF:(a:Int)<=(xs.length:Int):=Mcl;have Jo:(a:Int)<=(vc:Int):=Mcl;by_cases ay:a=vc
       ·have Ft:xs.drop a=[]:=List.drop_of_length_le Mcl;have vg:Hid (∀(A:Option Addr) W,Below wr.heap.size wr W->Sl W 1 sC A (xs.drop a)):=fun A W _=>by rw[Ft];exact Sl.nil
        clear Ft bO bS;subst ay;clear eJ dl;go_upto_region 9 with fail
        have i1:=bY.o wr (Below.refl _ _);refine zaC 10 (fun bb w'=>bb=true\/w'.cell? ⟨b,off+k,none⟩=some (.string x)) Mcm (.inr (bY.o _ (zaM (Below.refl _ _)))) ?hrest
        case hrest=>
         intro hHeld;refine TkM 5 ?_;refine TkM 6 ?_;refine TkM 7 ?_;refine TkM 8 ?_;refine TkM 1 ?_;refine TkM 2 ?_;refine TkM 3 ?_;refine FrM 11 false ?_;refine FrM 12 false ?_;refine FrM 13 false ?_;refine TwM 0 9 (fun K hK=> ?_) fun K hK=> ?_
         ·go_simp
          have e0:Below wr.heap.size wr (wr.drew.alloc (.cells #[] 9)):=zac (zaM (Below.refl _ _)) _;refine NxM hK (fun hHeld=> ?_) (.inr (bY.o _ e0));clear hK K;refine TwM 4 9 (fun K hK=> ?_) fun K hK=> ?_
          ·refine zal (v:= .slice (some ⟨wr.heap.size,0,none⟩) 0 0) (n:=0) (m:=a) rfl _ _ rfl zbK zaB zbJ rfl (xs:=[]) (ys:=xs.take a) (zgD wr.drew wr.heap.size (Nat.le_refl _)) rfl rfl (eX.o.symm) (qF.o _ e0) Mcv McK Mcw ?_;intro v4 w4 h1 h2 h3;rw[List.nil_append]at h1;obtain⟨V4,c4,b8,_,_⟩:=h1.sl zaB;rw[eX.o]at b8;subst b8;have aD:Below wr.heap.size wr w4:=Below.grown e0 h2 Mdl (fun j hj=>by simp[za7]at hj;omega);refine NxM hK (fun hHeld=> ?_) (.inr (bY.o _ aD));clear hK K;refine OnM 9 false fun K hK=> ?_
           go_simp
           have e1:Below wr.heap.size wr (w4.alloc (.cells #[.string x] 9)):=zac aD _;have n1:(w4.alloc (.cells #[.string x] 9)).heap[w4.heap.size]?=some (.cells #[.string x] 9):=zar _ _ _ rfl;have o1:OwnS (w4.alloc (.cells #[.string x] 9)) wr.heap.size 9 1 sC (.slice V4 a c4) (xs.take a):=h1.keep (n:=w4.heap.size) (zac (Below.refl _ _) _);refine NxM hK (fun hHeld=> ?_) (.inr (bY.o _ e1));clear hK K;refine OnM 10 true fun K hK=> ?_
           refine zal (v:= .slice V4 a c4) (n:=a) (m:=1) rfl _ _ rfl zbK zaB zbJ rfl (xs:=xs.take a) (ys:=[x]) (o1) eX.o rfl rfl (zfT n1) Mcv McK Mcs ?_;intro v5 w5 g1 g2 g3;obtain⟨A5,c5,ei,_,_⟩:=g1.sl zaB;rw[List.length_append,eX.o]at ei;subst ei;have aj:Below wr.heap.size wr w5:=Below.grown e1 g2 McG (fun j hj=>((o1).ge j hj).1);refine NxM hK fun hHeld=> ?_
           clear hK K;refine OnM 14 true fun K hK=> ?_
           refine zal (v:= .slice A5 (a+[x].length) c5) (n:=a+[x].length) (m:=0) rfl _ _ rfl zbK zaB zbJ rfl (xs:=xs.take a++[x]) (ys:=xs.drop a) g1 Mec rfl (by rw[<-oX.o];omega) (vg.o _ w5 aj) McI McP (by have:=aj.size;omega) ?_;exact Mi
          ·go_simp
           have e1:Below wr.heap.size wr ((wr.drew.alloc (.cells #[] 9)).alloc (.cells #[.string x] 9)):=zac e0 _;have n1:((wr.drew.alloc (.cells #[] 9)).alloc (.cells #[.string x] 9)).heap[wr.heap.size+1]?=some (.cells #[.string x] 9):=zar _ _ _ Mco;have m1:OwnS ((wr.drew.alloc (.cells #[] 9)).alloc (.cells #[.string x] 9)) wr.heap.size 9 1 sC (.slice (some ⟨wr.heap.size,0,none⟩) 0 0) []:=(zgD wr.drew wr.heap.size (Nat.le_refl _)).keep (n:=(wr.drew.alloc (.cells #[] 9)).heap.size) (zac (Below.refl _ _) _);refine NxM hK (fun hHeld=> ?_) (.inr (bY.o _ e1));clear hK K;refine OnM 4 false fun K hK=> ?_
           refine zal (v:= .slice (some ⟨wr.heap.size,0,none⟩) 0 0) (n:=0) (m:=a) rfl _ _ rfl zbK zaB zbJ rfl (xs:=[]) (ys:=xs.take a) (m1) rfl rfl (eX.o.symm) (qF.o _ e1) Mcv McK Mcs ?_;intro v4 w4 h1 h2 h3;rw[List.nil_append]at h1;obtain⟨V4,c4,b8,_,_⟩:=h1.sl zaB;rw[eX.o]at b8;subst b8;have aD:Below wr.heap.size wr w4:=Below.grown e1 h2 McG (fun j hj=>by simp[za7]at hj;omega);have n2:w4.heap[wr.heap.size+1]?=some (.cells #[.string x] 9):=(h2.block _ McC Mdd).trans n1;exact MbR
         ·go_simp
          have e0:Below wr.heap.size wr (wr.drew.alloc (.cells #[.string x] 9)):=zac (zaM (Below.refl _ _)) _;have n0:(wr.drew.alloc (.cells #[.string x] 9)).heap[wr.heap.size]?=some (.cells #[.string x] 9):=zar _ _ _ rfl;refine NxM hK (fun hHeld=> ?_) (.inr (bY.o _ e0));clear hK K;refine OnM 0 false fun K hK=> ?_
          go_simp
          have e1:Below wr.heap.size wr ((wr.drew.alloc (.cells #[.string x] 9)).alloc (.cells #[] 9)):=zac e0 _;have n1:((wr.drew.alloc (.cells #[.string x] 9)).alloc (.cells #[] 9)).heap[wr.heap.size]?=some (.cells #[.string x] 9):=zak n0;refine NxM hK (fun hHeld=> ?_) (.inr (bY.o _ e1));clear hK K;refine OnM 4 false fun K hK=> ?_
          have m1:OwnS ((wr.drew.alloc (.cells #[.string x] 9)).alloc (.cells #[] 9)) wr.heap.size 9 1 sC (.slice (some ⟨wr.heap.size+1,0,none⟩) 0 0) []:=by
           exact Mcc
          refine zal (v:= .slice (some ⟨wr.heap.size+1,0,none⟩) 0 0) (n:=0) (m:=a) rfl _ _ rfl zbK zaB zbJ rfl (xs:=[]) (ys:=xs.take a) (m1) rfl rfl (eX.o.symm) (qF.o _ e1) Mcv McK Mcs ?_;intro v4 w4 h1 h2 h3;rw[List.nil_append]at h1;obtain⟨V4,c4,b8,_,_⟩:=h1.sl zaB;rw[eX.o]at b8;subst b8;have aD:Below wr.heap.size wr w4:=Below.grown e1 h2 McG (fun j hj=>by simp[za7]at hj;omega);have n2:w4.heap[wr.heap.size]?=some (.cells #[.string x] 9):=(h2.block _ McC Mdd).trans n1;exact MbR
       ·have vg:Hid (∀W,Below wr.heap.size wr W->Sl W 1 sC (some ⟨g,o+a,none⟩) (xs.drop a)):=fun W h=>(sl_from (td.o.keep eJ) a).keep h
        have Fn: ¬vc=a:=fun h=>ay h.symm
        clear bO bS;exact Mb
     ·have aB:Hid (zde (l.take (k+1))=xs):=by show _=_;rw[eW.o];rfl
      go_wp2_with fail
      go_round
      case rel=>exact⟨k+1,aq.o,by go_num,by rw[aB.o];exact dl.o,aS.o⟩
      case measure=>have:=aq.o;simp only[intOf];omega
  ·exact MaO
end Go.Proofs.YtckkbkdcdkhglaaGreatDoor

/- Walk of the reference's sorted. -/
import Derived.Test.YtjhbofabmpfniaaGreatDoorUI
import Derived.Test.YtjhbofabmpfniaaGreatDoorUF
set_option linter.unusedSimpArgs false
set_option linter.unusedVariables false
set_option maxRecDepth 100000
set_option maxHeartbeats 4000000
namespace Go.Proofs.YtjhbofabmpfniaaGreatDoor
open Go.RowKit Go.Shelf
attribute [local go_sem] World.cell?_alloc_mark zae za3 zam za6 zas zat zau zav zaw zax zay
attribute [local go_sem] zaj zac
def posT (out:List ByteArray) (x:ByteArray):Nat:=(out.takeWhile fun y=>zbn y x).length
def insT (out:List ByteArray) (x:ByteArray):List ByteArray:=if(out[posT out x]?.map (fun y=>zaf y x)).getD false then out else out.take (posT out x)++[x]++out.drop (posT out x)
def zdf (l:List ByteArray):List ByteArray:=l.foldl insT []
theorem posT_le (out:List ByteArray) (x:ByteArray):posT out x<=out.length:=by
 unfold posT;exact(List.takeWhile_sublist _).length_le
theorem posT_step {out:List ByteArray} {x:ByteArray} {j:Nat} (h:j<out.length) (hl:zbn out[j] x=true):posT (out.drop j) x=1+posT (out.drop (j+1)) x:=by
 unfold posT;rw[List.drop_eq_getElem_cons h,List.takeWhile_cons,if_pos hl,List.length_cons];omega
theorem posT_stop {out:List ByteArray} {x:ByteArray} {j:Nat} (h:j<out.length) (hl:zbn out[j] x=false):posT (out.drop j) x=0:=by
 unfold posT;rw[List.drop_eq_getElem_cons h,List.takeWhile_cons,if_neg (by simp[hl])];rfl
theorem posT_end {out:List ByteArray} {x:ByteArray} {j:Nat} (h: ¬j<out.length):posT (out.drop j) x=0:=by
 unfold posT;rw[List.drop_of_length_le Mcn];rfl
theorem insT_len (out:List ByteArray) (x:ByteArray):(insT out x).length<=out.length+1:=by
 unfold insT;split
 ·omega
 ·simp only[List.length_append,List.length_take,List.length_drop,List.length_singleton];have:=posT_le out x;omega
theorem zml {l:List ByteArray} {k:Nat} (h:k<l.length):zdf (l.take (k+1))=insT (zdf (l.take k)) l[k]:=by
 unfold zdf;rw[List.take_add_one,List.getElem?_eq_getElem h,List.foldl_append];rfl
theorem ziZ (l:List ByteArray):(zdf l).length<=l.length:=by
 have h: ∀(l out:List ByteArray),(l.foldl insT out).length<=out.length+l.length:=by
  intro l;induction l with
  |nil=>intro out;simp
  |cons x l ih=>
   intro out;have h1:=ih (insT out x);have h2:=insT_len out x;rw[List.foldl_cons,List.length_cons];omega
 simpa[zdf]using h l []
theorem mem_insT {out:List ByteArray} {x y:ByteArray}:y∈insT out x↔y∈out\/y=x:=by
 unfold insT;split
 ·rename_i h
  refine⟨.inl,fun h1=>h1.elim id fun e=> ?_⟩;subst e;cases hg:out[posT out y]? with
  |none=>rw[hg]at h;cases h
  |some z=>
   rw[hg]at h;have hz:z=y:=za2.1 Mde;rw[<-hz];exact List.mem_of_getElem? hg
 ·have e:out.take (posT out x)++out.drop (posT out x)=out:=List.take_append_drop _ _;constructor
  ·intro h;simp only[List.mem_append,List.mem_singleton]at h;rcases h with(h|h)|h
   ·exact .inl (List.mem_of_mem_take h)
   ·exact .inr h
   ·exact .inl (List.mem_of_mem_drop h)
  ·rintro(h|h)
   ·rw[<-e]at h;simp only[List.mem_append,List.mem_singleton]at h⊢;rcases h with h|h
    ·exact .inl (.inl h)
    ·exact .inr h
   ·subst h;simp
theorem znt {l:List ByteArray} {y:ByteArray}:y∈zdf l↔y∈l:=by
 have h: ∀(l out:List ByteArray),y∈l.foldl insT out↔y∈out\/y∈l:=by
  intro l;induction l with
  |nil=>intro out;simp
  |cons x l ih=>
   intro out;rw[List.foldl_cons,ih,mem_insT,List.mem_cons,or_assoc]
 rw[zdf,h];simp
def AscT (l:List ByteArray):Prop:=l.Pairwise fun a b=>zbn a b=true
theorem zmm {x:ByteArray}: ∀ {out:List ByteArray},∀y∈out.take (posT out x),zbn y x=true
 | [],y,h=>by simp at h
 |z::out,y,h=>by
  unfold posT at h;rw[List.takeWhile_cons]at h;split at h
  ·rename_i hz
   rw[List.length_cons,List.take_succ_cons,List.mem_cons]at h;rcases h with rfl|h
   ·exact hz
   ·exact zmm y h
  ·simp at h
theorem zmn {x:ByteArray}: ∀ {out:List ByteArray},AscT out->(out[posT out x]?.map (fun y=>zaf y x)).getD false=false-> ∀y∈out.drop (posT out x),zbn x y=true
 | [],_,_,y,h=>by simp at h
 |z::out,ha,hn,y,h=>by
  have kT:=List.pairwise_cons.1 ha;unfold posT at h hn;rw[List.takeWhile_cons]at h hn;split at h
  ·rename_i hz
   rw[if_pos hz]at hn;rw[List.length_cons,List.drop_succ_cons]at h;rw[List.length_cons,List.getElem?_cons_succ]at hn;exact zmn kT.2 hn y h
  ·rename_i hz
   rw[if_neg hz]at hn;have mV:zaf z x=false:=by simpa using hn
   have GI:zbn x z=true:=by
    rcases zdu z x with k|k|k
    ·exact absurd k hz
    ·exact absurd (za2.2 k) (by rw[mV];simp)
    ·exact k
   rw[List.length_nil,List.drop_zero,List.mem_cons]at h;rcases h with rfl|h
   ·exact GI
   ·exact zb4 GI (kT.1 y h)
theorem insT_asc {out:List ByteArray} {x:ByteArray} (h:AscT out):AscT (insT out x):=by
 unfold insT;split
 ·exact h
 ·rename_i hn
  have hd:=zmn h (by simpa using hn);have ht:=zmm (x:=x) (out:=out);unfold AscT;rw[List.append_assoc,List.pairwise_append];refine⟨List.Pairwise.sublist (List.take_sublist _ _) h,?_,fun a ha b hb=> ?_⟩
  ·rw[List.singleton_append,List.pairwise_cons];exact⟨hd,List.Pairwise.sublist (List.drop_sublist _ _) h⟩
  ·rw[List.singleton_append,List.mem_cons]at hb;rcases hb with rfl|hb
   ·exact ht a ha
   ·exact zb4 (ht a ha) (hd b hb)
theorem znu (l:List ByteArray):AscT (zdf l):=by
 have h: ∀(l out:List ByteArray),AscT out->AscT (l.foldl insT out):=by
  intro l;induction l with
  |nil=>intro out ho;exact ho
  |cons x l ih=>intro out ho;exact ih _ (insT_asc ho)
 exact h l [] List.Pairwise.nil
theorem sl_from {w:World} {b off:Nat} {xs:List ByteArray} (h:Sl w 1 sC (some ⟨b,off,none⟩) xs) (k:Nat):Sl w 1 sC (some ⟨b,off+k,none⟩) (xs.drop k):=fun hl=>by
 rw[List.length_drop]at hl;obtain⟨b',off',hA,hb,hc⟩:=h Mcn;simp only[Option.some.injEq,Addr.mk.injEq,and_true]at hA;obtain⟨rfl,rfl⟩:=hA;refine⟨b,off+k,rfl,hb,fun j x hx u v hu=> ?_⟩;rw[List.getElem?_drop]at hx;have:=hc (k+j) x hx u v hu;rw[<-this];congr 2
 omega
theorem zgJ (W:World) (base:Nat) (h:base<=W.heap.size):OwnS (W.alloc (.cells #[] 9)) base 9 1 sC (.slice (some ⟨W.heap.size,0,none⟩) 0 0) []:=
 OwnS.of_own zaD (World.ownsRow_made W #[] 0 h (Nat.zero_le _) Mcq)
theorem znv (l:List ByteArray) (A:Option Addr) (c:Nat) (w:World) (hl:l.length<=100000) (hS:Sl w 1 sC A l):Calls Tryz.prog 98 #[.slice A l.length c] w (zdz w (zdf l)):=by
 have HS:=zHi hS;unfold zdz;clear hS;go_enter Tryz.func98,Tryz.ntmps98
 go_upto_region 3 with fail
 go_loopw [3,4,5] (fun v i _ wr=> ∃k:Nat,k<=l.length/\i= .int .i64 k/\OwnS wr w.heap.size 9 1 sC v (zdf (l.take k))/\Below w.heap.size w wr) (fun _ i _ _=>l.length-(intOf i).toNat)
 case atStart=>exact⟨0,Nat.zero_le _,rfl,OwnS.nil,Below.refl _ _⟩
 case round=>
  obtain⟨k,hk,rfl,ae,hB⟩:=hrel;obtain⟨WR,oo⟩: ∃WR,WR=wr:=⟨_,rfl⟩
  subst oo;have aE:=hB.size;have HO:=zHi ae;have HB:=zHi hB;by_cases aa:k<l.length
  ·have aj:=zml aa;have bv:=Nat.le_trans (ziZ (l.take k)) (by rw[List.length_take];omega:(l.take k).length<=k);generalize zdf (l.take k)=xs at*;obtain⟨VA,vc,rfl,jo,ka⟩:=ae.sl zaD;have iS:=(HS.o.keep hB).at aa;have am:=zHi aa;generalize l[k]=x at*;obtain⟨b,off,rfl,hb,ah⟩:=iS;have i0:WR.cell? ⟨b,off+k,none⟩=some (.string x):=McO;have ar:(k:Int)<(l.length:Int):=Mcn;have aT:(0:Int)<=(k:Int):=Mcn;have fP:Hid (xs.length<=100000):=by show _<=_;omega
   have bX:=zHi (fun(W:World) (h:Below WR.heap.size WR W)=>(show W.cell? ⟨b,off+k,none⟩=some (.string x) from(zah h hb).trans i0));have td:=zHi jo;have hp:=posT_le xs x;have aD:=zHi aj;clear ah aa ae hB bv jo aj i0;go_upto_block 2 with fail
   go_cut [5]from 12 to 28 (fun v wc=>v= .int .i64 (posT xs x:Nat)/\Below WR.heap.size WR wc)
   case first=>
    go_wp2_with fail
    go_loopw [5] (fun v6 wr=> ∃j:Nat,j<=xs.length/\v6= .int .i64 j/\Hid (posT xs x=j+posT (xs.drop j) x)/\Below WR.heap.size WR wr) (fun v6 _=>xs.length-(intOf v6).toNat)
    case atStart=>exact⟨0,Nat.zero_le _,rfl,zHi Mcq,Below.refl _ _⟩
    case round=>
     obtain⟨j,hj,rfl,HP,gx⟩:=hrel;have fE:=zHi gx;have hj9:j<=100000:=Mc3;have i1:=bX.o _ gx;by_cases cX:j<xs.length
     ·obtain⟨b2,off2,hA,bn,cr⟩:=(td.o.keep gx).at cX;subst hA;have j0:wr.cell? ⟨b2,off2+j,none⟩=some (.string xs[j]):=Md4;have eA:=posT_step (x:=x) cX;have Dw:=posT_stop (x:=x) cX;have Ef:=zHi cX;generalize xs[j]=y at*;have ck:(j:Int)<(xs.length:Int):=Mcn;have tN:(0:Int)<=(j:Int):=Mcn;cases iS:zbn y x
      ·have pJ:Op.bytesLess y.toList x.toList=false:=iS;have lO:Hid (posT xs x=j):=by show _=_;have:=HP.o;rw[Dw iS]at this;simpa using this
       clear cr eA Dw gx cX iS;exact Ma0
      ·have pJ:Op.bytesLess y.toList x.toList=true:=iS;have lO:Hid (posT xs x=j+1+posT (xs.drop (j+1)) x):=by show _=_;have:=HP.o;rw[eA iS]at this;omega
       clear cr eA Dw gx cX iS;go_upto_region 6 with fail
       go_quiet (fail)
       go_wp2_with fail
       go_round
       case rel=>exact⟨j+1,Ef.o,by go_num,lO,zd5 fE.o _⟩
       case measure=>have:=Ef.o;simp only[intOf];omega
     ·have ck: ¬(j:Int)<(xs.length:Int):=Mcn;have lO:Hid (posT xs x=j):=by show _=_;have:=HP.o;rw[posT_end cX]at this;simpa using this
      clear gx;exact Ma0
   case rest=>
    obtain⟨rfl,iN⟩:=hcut;obtain⟨WC,tD⟩: ∃WC,WC=wc:=⟨_,rfl⟩
    subst tD;have aj:=aD.o;unfold insT at aj;have ow: ∀hp:posT xs x<xs.length,(xs[posT xs x]?.map (fun y=>zaf y x)).getD false=zaf xs[posT xs x] x:=fun hp=>by rw[List.getElem?_eq_getElem hp];rfl
    have wQ: ¬posT xs x<xs.length->(xs[posT xs x]?.map (fun y=>zaf y x)).getD false=false:=fun hp=>by rw[List.getElem?_eq_none Mcn];rfl
    generalize posT xs x=a at*;generalize(xs[a]?.map (fun y=>zaf y x)).getD false=fnd at*;have i1:=bX.o _ iN;have JK:=iN.size;have E0:=zHi iN;have cN:=zHi aj;clear aD aj;go_upto_region 8 with fail
    go_cut [43]from 29 to 43 (fun v w4=>v= .bool (!fnd)/\Below WC.heap.size WC w4)
    case first=>
     by_cases jU:a<xs.length
     ·obtain⟨b2,off2,hA,bn,cr⟩:=(td.o.keep iN).at jU;subst hA;have j0:WC.cell? ⟨b2,off2+a,none⟩=some (.string xs[a]):=Md4;have hf:=ow jU;generalize xs[a]=y at*;have hai:(a:Int)<(xs.length:Int):=Mcn;have ou:(0:Int)<=(a:Int):=Mcn;have JG:((a:Int)==(xs.length:Int))=false:=Mcr;subst hf;cases hs:zaf y x
      ·have bp:(y.toList==x.toList)=false:=hs;clear cr ow wQ iN jU;exact Mar
      ·have bp:(y.toList==x.toList)=true:=hs;clear cr ow wQ iN jU;exact Mar
     ·have JG:((a:Int)==(xs.length:Int))=true:=Mcr;have hf:=wQ jU;subst hf;clear ow wQ iN;exact Mar
    case rest=>
     obtain⟨rfl,hz⟩:=hcut;obtain⟨wr,qa⟩: ∃wr,wr=wc:=⟨_,rfl⟩
     subst qa;have eG:Below WR.heap.size WR wr:=E0.o.trans (hz.mono JK);have yk:=eG.size;have aB:=zHi (HB.o.trans (eG.mono aE));have df:=zHi (HO.o.keep eG);have vg:=zHi (fun W (h:Below wr.heap.size wr W)=>bX.o W (eG.trans (h.mono yk)));have xZ:w.heap.size<=wr.heap.size:=Mcn;clear hz E0 HB HO bX iN i1;cases fnd
     ·have aD:Hid (zdf (l.take (k+1))=xs.take a++[x]++xs.drop a):=by show _=_;rw[cN.o];rfl
      have HB:=aB;have bX:=vg;have HA:Hid (a<=xs.length):=hp;have eR:Hid ((xs.take a).length=a):=by show _=_;rw[List.length_take];omega
      have lC:Hid (xs.length-a=(xs.drop a).length):=by show _=_;rw[List.length_drop]
      clear cN aB vg ow wQ;rcases df.o with⟨he,dU⟩|⟨g,o,cap,cur,he,cj,cy,_,_,_,_⟩
      ·simp only[Value.slice.injEq]at he;obtain⟨rfl,_,rfl⟩:=he;subst dU;have ou:a=0:=by simpa using hp
       subst ou;let xs:List ByteArray:=[]
       let a:Nat:=0
       have qK:Hid (∀W,Below wr.heap.size wr W->Sl W 1 sC (none:Option Addr) (xs.take a)):=fun W _=>Sl.nil
       have uY:Hid (∀W,Below wr.heap.size wr W->Sl W 1 sC (none:Option Addr) (xs.drop a)):=fun W _=>Sl.nil
       exact Mb
      ·simp only[Value.slice.injEq,true_and]at he;obtain⟨rfl,rfl⟩:=he;have qK:Hid (∀W,Below wr.heap.size wr W->Sl W 1 sC (some ⟨g,o,none⟩) (xs.take a)):=fun W h=>((td.o.keep eG).take a).keep h
       have ou:(0:Int)<=(a:Int):=Mcn;have tE:(a:Int)<=(xs.length:Int):=Mcn;have JF:(a:Int)<=(vc:Int):=Mcn;by_cases au:a=vc
       ·have FH:xs.drop a=[]:=List.drop_of_length_le Mcn;have uY:Hid (∀(A:Option Addr) W,Below wr.heap.size wr W->Sl W 1 sC A (xs.drop a)):=fun A W _=>by rw[FH];exact Sl.nil
        clear FH cj cy;subst au;clear eG df;go_upto_region 9 with fail
        have i1:=bX.o wr (Below.refl _ _);refine zaC 10 (fun bb w'=>bb=true\/w'.cell? ⟨b,off+k,none⟩=some (.string x)) Mco (.inr (bX.o _ (zaH (Below.refl _ _)))) ?hrest
        case hrest=>
         intro hHeld;refine TkM 5 ?_;refine TkM 6 ?_;refine TkM 7 ?_;refine TkM 8 ?_;refine TkM 1 ?_;refine TkM 2 ?_;refine TkM 3 ?_;refine FrM 11 false ?_;refine FrM 12 false ?_;refine FrM 13 false ?_;refine TwM 0 9 (fun K hK=> ?_) fun K hK=> ?_
         ·go_simp
          have e0:Below wr.heap.size wr (wr.drew.alloc (.cells #[] 9)):=zad (zaH (Below.refl _ _)) _;refine NxM hK (fun hHeld=> ?_) (.inr (bX.o _ e0));clear hK K;refine TwM 4 9 (fun K hK=> ?_) fun K hK=> ?_
          ·refine zak (v:= .slice (some ⟨wr.heap.size,0,none⟩) 0 0) (n:=0) (m:=a) rfl _ _ rfl zbL zaD zbK rfl (xs:=[]) (ys:=xs.take a) (zgJ wr.drew wr.heap.size (Nat.le_refl _)) rfl rfl (eR.o.symm) (qK.o _ e0) Mcx McM Mcy ?_;intro v4 w4 h1 h2 h3;rw[List.nil_append]at h1;obtain⟨V4,c4,b8,_,_⟩:=h1.sl zaD;rw[eR.o]at b8;subst b8;have aC:Below wr.heap.size wr w4:=Below.grown e0 h2 Mdn (fun j hj=>by simp[zaA]at hj;omega);refine NxM hK (fun hHeld=> ?_) (.inr (bX.o _ aC));clear hK K;refine OnM 9 false fun K hK=> ?_
           go_simp
           have e1:Below wr.heap.size wr (w4.alloc (.cells #[.string x] 9)):=zad aC _;have n1:(w4.alloc (.cells #[.string x] 9)).heap[w4.heap.size]?=some (.cells #[.string x] 9):=zar _ _ _ rfl;have o1:OwnS (w4.alloc (.cells #[.string x] 9)) wr.heap.size 9 1 sC (.slice V4 a c4) (xs.take a):=h1.keep (n:=w4.heap.size) (zad (Below.refl _ _) _);refine NxM hK (fun hHeld=> ?_) (.inr (bX.o _ e1));clear hK K;refine OnM 10 true fun K hK=> ?_
           refine zak (v:= .slice V4 a c4) (n:=a) (m:=1) rfl _ _ rfl zbL zaD zbK rfl (xs:=xs.take a) (ys:=[x]) (o1) eR.o rfl rfl (zga n1) Mcx McM Mcu ?_;intro v5 w5 g1 g2 g3;obtain⟨A5,c5,ed,_,_⟩:=g1.sl zaD;rw[List.length_append,eR.o]at ed;subst ed;have aq:Below wr.heap.size wr w5:=Below.grown e1 g2 McI (fun j hj=>((o1).ge j hj).1);refine NxM hK fun hHeld=> ?_
           clear hK K;refine OnM 14 true fun K hK=> ?_
           refine zak (v:= .slice A5 (a+[x].length) c5) (n:=a+[x].length) (m:=0) rfl _ _ rfl zbL zaD zbK rfl (xs:=xs.take a++[x]) (ys:=xs.drop a) g1 Mek rfl (by rw[<-lC.o];omega) (uY.o _ w5 aq) McK McR (by have:=aq.size;omega) ?_;exact Mi
          ·go_simp
           have e1:Below wr.heap.size wr ((wr.drew.alloc (.cells #[] 9)).alloc (.cells #[.string x] 9)):=zad e0 _;have n1:((wr.drew.alloc (.cells #[] 9)).alloc (.cells #[.string x] 9)).heap[wr.heap.size+1]?=some (.cells #[.string x] 9):=zar _ _ _ Mcq;have m1:OwnS ((wr.drew.alloc (.cells #[] 9)).alloc (.cells #[.string x] 9)) wr.heap.size 9 1 sC (.slice (some ⟨wr.heap.size,0,none⟩) 0 0) []:=(zgJ wr.drew wr.heap.size (Nat.le_refl _)).keep (n:=(wr.drew.alloc (.cells #[] 9)).heap.size) (zad (Below.refl _ _) _);refine NxM hK (fun hHeld=> ?_) (.inr (bX.o _ e1));clear hK K;refine OnM 4 false fun K hK=> ?_
           refine zak (v:= .slice (some ⟨wr.heap.size,0,none⟩) 0 0) (n:=0) (m:=a) rfl _ _ rfl zbL zaD zbK rfl (xs:=[]) (ys:=xs.take a) (m1) rfl rfl (eR.o.symm) (qK.o _ e1) Mcx McM Mcu ?_;intro v4 w4 h1 h2 h3;rw[List.nil_append]at h1;obtain⟨V4,c4,b8,_,_⟩:=h1.sl zaD;rw[eR.o]at b8;subst b8;have aC:Below wr.heap.size wr w4:=Below.grown e1 h2 McI (fun j hj=>by simp[zaA]at hj;omega);have n2:w4.heap[wr.heap.size+1]?=some (.cells #[.string x] 9):=(h2.block _ McE Mdg).trans n1;exact MbU
         ·go_simp
          have e0:Below wr.heap.size wr (wr.drew.alloc (.cells #[.string x] 9)):=zad (zaH (Below.refl _ _)) _;have n0:(wr.drew.alloc (.cells #[.string x] 9)).heap[wr.heap.size]?=some (.cells #[.string x] 9):=zar _ _ _ rfl;refine NxM hK (fun hHeld=> ?_) (.inr (bX.o _ e0));clear hK K;refine OnM 0 false fun K hK=> ?_
          go_simp
          have e1:Below wr.heap.size wr ((wr.drew.alloc (.cells #[.string x] 9)).alloc (.cells #[] 9)):=zad e0 _;have n1:((wr.drew.alloc (.cells #[.string x] 9)).alloc (.cells #[] 9)).heap[wr.heap.size]?=some (.cells #[.string x] 9):=zal n0;refine NxM hK (fun hHeld=> ?_) (.inr (bX.o _ e1));clear hK K;refine OnM 4 false fun K hK=> ?_
          have m1:OwnS ((wr.drew.alloc (.cells #[.string x] 9)).alloc (.cells #[] 9)) wr.heap.size 9 1 sC (.slice (some ⟨wr.heap.size+1,0,none⟩) 0 0) []:=by
           exact Mce
          refine zak (v:= .slice (some ⟨wr.heap.size+1,0,none⟩) 0 0) (n:=0) (m:=a) rfl _ _ rfl zbL zaD zbK rfl (xs:=[]) (ys:=xs.take a) (m1) rfl rfl (eR.o.symm) (qK.o _ e1) Mcx McM Mcu ?_;intro v4 w4 h1 h2 h3;rw[List.nil_append]at h1;obtain⟨V4,c4,b8,_,_⟩:=h1.sl zaD;rw[eR.o]at b8;subst b8;have aC:Below wr.heap.size wr w4:=Below.grown e1 h2 McI (fun j hj=>by simp[zaA]at hj;omega);have n2:w4.heap[wr.heap.size]?=some (.cells #[.string x] 9):=(h2.block _ McE Mdg).trans n1;exact MbU
       ·have uY:Hid (∀W,Below wr.heap.size wr W->Sl W 1 sC (some ⟨g,o+a,none⟩) (xs.drop a)):=fun W h=>(sl_from (td.o.keep eG) a).keep h
        have FD: ¬vc=a:=fun h=>au h.symm
        clear cj cy;exact Mb
     ·have aD:Hid (zdf (l.take (k+1))=xs):=by show _=_;rw[cN.o];rfl
      go_wp2_with fail
      go_round
      case rel=>exact⟨k+1,am.o,by go_num,by rw[aD.o];exact df.o,aB.o⟩
      case measure=>have:=am.o;simp only[intOf];omega
  ·exact MaN
end Go.Proofs.YtjhbofabmpfniaaGreatDoor

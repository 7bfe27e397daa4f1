import Derived.Test.YtegdimedhfafjaaGreatDoorWV
import Derived.Test.YtegdimedhfafjaaGreatDoorUF
set_option linter.all false
set_option maxRecDepth 100000
set_option maxHeartbeats 4000000
namespace Go.Proofs.YtegdimedhfafjaaGreatDoor
open Go.RowKit Go.Shelf
attribute [local go_sem] World.cell?_alloc_mark zaf za5 zao za8 zav zaw zax zay zaz za0 za1
attribute [local go_sem] zaq zad
def posT(out:List ByteArray)(x:ByteArray):Nat:=(out.takeWhile fun y=>zbq y x).length
def insT(out:List ByteArray)(x:ByteArray):List ByteArray:=if(out[posT out x]?.map (fun y=>zae y x)).getD false then out else out.take (posT out x)++[x]++out.drop (posT out x)
def zdb(l:List ByteArray):List ByteArray:=l.foldl insT []
theorem posT_le(out:List ByteArray)(x:ByteArray):posT out x<=out.length:=by
 unfold posT;exact(List.takeWhile_sublist _).length_le
theorem posT_step{out:List ByteArray}{x:ByteArray}{j:Nat}(h:j<out.length)(hl:zbq out[j] x=true):posT (out.drop j) x=1+posT (out.drop (j+1)) x:=by
 unfold posT;rw[List.drop_eq_getElem_cons h,List.takeWhile_cons,if_pos hl,List.length_cons];omega
theorem posT_stop{out:List ByteArray}{x:ByteArray}{j:Nat}(h:j<out.length)(hl:zbq out[j] x=false):posT (out.drop j) x=0:=by
 unfold posT;rw[List.drop_eq_getElem_cons h,List.takeWhile_cons,if_neg (by simp[hl])];rfl
theorem posT_end{out:List ByteArray}{x:ByteArray}{j:Nat}(h:¬j<out.length):posT (out.drop j) x=0:=by
 unfold posT;rw[List.drop_of_length_le Mcm];rfl
theorem insT_len(out:List ByteArray)(x:ByteArray):(insT out x).length<=out.length+1:=by
 unfold insT;split
 ·omega
 ·simp only[List.length_append,List.length_take,List.length_drop,List.length_singleton];have:=posT_le out x;omega
theorem zml{l:List ByteArray}{k:Nat}(h:k<l.length):zdb (l.take (k+1))=insT (zdb (l.take k)) l[k]:=by
 unfold zdb;rw[List.take_add_one,List.getElem?_eq_getElem h,List.foldl_append];rfl
theorem ziR(l:List ByteArray):(zdb l).length<=l.length:=by
 have h:∀(l out:List ByteArray),(l.foldl insT out).length<=out.length+l.length:=by
  intro l;induction l with
  |nil=>intro out;simp
  |cons x l ih=>
   intro out;have h1:=ih (insT out x);have h2:=insT_len out x;rw[List.foldl_cons,List.length_cons];omega
 simpa[zdb]using h l []
theorem mem_insT{out:List ByteArray}{x y:ByteArray}:y∈insT out x↔y∈out\/y=x:=by
 unfold insT;split
 ·rename_i h
  refine⟨.inl,fun h1=>h1.elim id fun e=>?_⟩;subst e;cases hg:out[posT out y]? with
  |none=>rw[hg]at h;cases h
  |some z=>
   rw[hg]at h;have hz:z=y:=za2.1 Mc8;rw[<-hz];exact List.mem_of_getElem? hg
 ·have e:out.take (posT out x)++out.drop (posT out x)=out:=List.take_append_drop _ _;constructor
  ·intro h;simp only[List.mem_append,List.mem_singleton]at h;rcases h with(h|h)|h
   ·exact .inl (List.mem_of_mem_take h)
   ·exact .inr h
   ·exact .inl (List.mem_of_mem_drop h)
  ·rintro(h|h)
   ·rw[<-e]at h;simp only[List.mem_append,List.mem_singleton]at h⊢;rcases h with h|h
    ·exact .inl (.inl h)
    ·exact .inr h
   ·subst h;simp
theorem znv{l:List ByteArray}{y:ByteArray}:y∈zdb l↔y∈l:=by
 have h:∀(l out:List ByteArray),y∈l.foldl insT out↔y∈out\/y∈l:=by
  intro l;induction l with
  |nil=>intro out;simp
  |cons x l ih=>
   intro out;rw[List.foldl_cons,ih,mem_insT,List.mem_cons,or_assoc]
 rw[zdb,h];simp
def AscT(l:List ByteArray):Prop:=l.Pairwise fun a b=>zbq a b=true
theorem zmm{x:ByteArray}:∀ {out:List ByteArray},∀y∈out.take (posT out x),zbq y x=true
 | [],y,h=>by simp at h
 |z::out,y,h=>by
  unfold posT at h;rw[List.takeWhile_cons]at h;split at h
  ·rename_i hz
   rw[List.length_cons,List.take_succ_cons,List.mem_cons]at h;rcases h with rfl|h
   ·exact hz
   ·exact zmm y h
  ·simp at h
theorem zmn{x:ByteArray}:∀ {out:List ByteArray},AscT out->(out[posT out x]?.map (fun y=>zae y x)).getD false=false->∀y∈out.drop (posT out x),zbq x y=true
 | [],_,_,y,h=>by simp at h
 |z::out,ha,hn,y,h=>by
  have kQ:=List.pairwise_cons.1 ha;unfold posT at h hn;rw[List.takeWhile_cons]at h hn;split at h
  ·rename_i hz
   rw[if_pos hz]at hn;rw[List.length_cons,List.drop_succ_cons]at h;rw[List.length_cons,List.getElem?_cons_succ]at hn;exact zmn kQ.2 hn y h
  ·rename_i hz
   rw[if_neg hz]at hn;have mX:zae z x=false:=by simpa using hn
   have Hq:zbq x z=true:=by
    rcases zdq z x with k|k|k
    ·exact absurd k hz
    ·exact absurd (za2.2 k) (by rw[mX];simp)
    ·exact k
   rw[List.length_nil,List.drop_zero,List.mem_cons]at h;rcases h with rfl|h
   ·exact Hq
   ·exact zb6 Hq (kQ.1 y h)
theorem insT_asc{out:List ByteArray}{x:ByteArray}(h:AscT out):AscT (insT out x):=by
 unfold insT;split
 ·exact h
 ·rename_i hn
  have hd:=zmn h (by simpa using hn);have ht:=zmm (x:=x) (out:=out);unfold AscT;rw[List.append_assoc,List.pairwise_append];refine⟨List.Pairwise.sublist (List.take_sublist _ _) h,?_,fun a ha b hb=>?_⟩
  ·rw[List.singleton_append,List.pairwise_cons];exact⟨hd,List.Pairwise.sublist (List.drop_sublist _ _) h⟩
  ·rw[List.singleton_append,List.mem_cons]at hb;rcases hb with rfl|hb
   ·exact ht a ha
   ·exact zb6 (ht a ha) (hd b hb)
theorem znw(l:List ByteArray):AscT (zdb l):=by
 have h:∀(l out:List ByteArray),AscT out->AscT (l.foldl insT out):=by
  intro l;induction l with
  |nil=>intro out ho;exact ho
  |cons x l ih=>intro out ho;exact ih _ (insT_asc ho)
 exact h l [] List.Pairwise.nil
theorem sl_from{w:World}{b off:Nat}{xs:List ByteArray}(h:Sl w 1 sC (some ⟨b,off,none⟩) xs)(k:Nat):Sl w 1 sC (some ⟨b,off+k,none⟩) (xs.drop k):=fun hl=>by
 rw[List.length_drop]at hl;obtain⟨b',off',hA,hb,hc⟩:=h Mcm;simp only[Option.some.injEq,Addr.mk.injEq,and_true]at hA;obtain⟨rfl,rfl⟩:=hA;refine⟨b,off+k,rfl,hb,fun j x hx u v hu=>?_⟩;rw[List.getElem?_drop]at hx;have:=hc (k+j) x hx u v hu;rw[<-this];congr 2
 omega
theorem zgH(W:World)(base:Nat)(h:base<=W.heap.size):OwnS (W.alloc (.cells #[] 9)) base 9 1 sC (.slice (some ⟨W.heap.size,0,none⟩) 0 0) []:=
 OwnS.of_own zaD (World.ownsRow_made W #[] 0 h (Nat.zero_le _) Mcp)
theorem znx(l:List ByteArray)(A:Option Addr)(c:Nat)(w:World)(hl:l.length<=100000)(hS:Sl w 1 sC A l):Calls Tryz.prog 168 #[.slice A l.length c] w (zdy w (zdb l)):=by
 have HS:=zHi hS;unfold zdy;clear hS;go_enter Tryz.func168,Tryz.ntmps168
 go_upto_region 3 with fail
 go_loopw [3,4,5] (fun v i _ wr=>∃k:Nat,k<=l.length/\i=.int .i64 k/\OwnS wr w.heap.size 9 1 sC v (zdb (l.take k))/\Below w.heap.size w wr) (fun _ i _ _=>l.length-(intOf i).toNat)
 case atStart=>exact⟨0,Nat.zero_le _,rfl,OwnS.nil,Below.refl _ _⟩
 case round=>
  obtain⟨k,hk,rfl,ae,hB⟩:=hrel;obtain⟨WR,oz⟩:∃WR,WR=wr:=⟨_,rfl⟩
  subst oz;have aE:=hB.size;obtain⟨HO,HB⟩:=yH2 ae hB;by_cases aa:k<l.length
  ·have aj:=zml aa;have bs:=Nat.le_trans (ziR (l.take k)) (by rw[List.length_take];omega:(l.take k).length<=k);generalize zdb (l.take k)=xs at*;obtain⟨VA,vc,rfl,jo,jV⟩:=ae.sl zaD;have iD:=(HS.o.keep hB).at aa;have am:=zHi aa;generalize l[k]=x at*;obtain⟨b,off,rfl,hb,ah⟩:=iD;have i0:WR.cell? ⟨b,off+k,none⟩=some (.string x):=McT;have au:(k:Int)<(l.length:Int):=Mcm;have aP:(0:Int)<=(k:Int):=Mcm;have eZ:Hid (xs.length<=100000):=by show _<=_;omega
   obtain⟨bT,tF⟩:=yH2 (fun(W:World) (h:Below WR.heap.size WR W)=>(show W.cell? ⟨b,off+k,none⟩=some (.string x) from(zah h hb).trans i0)) jo;have hp:=posT_le xs x;have aH:=zHi aj;clear ah aa ae hB bs jo aj i0;go_upto_block 2 with fail
   go_cut [5]from 12 to 28 (fun v wc=>v=.int .i64 (posT xs x:Nat)/\Below WR.heap.size WR wc)
   case first=>
    go_wp2_with fail
    go_loopw [5] (fun v6 wr=>∃j:Nat,j<=xs.length/\v6=.int .i64 j/\Hid (posT xs x=j+posT (xs.drop j) x)/\Below WR.heap.size WR wr) (fun v6 _=>xs.length-(intOf v6).toNat)
    case atStart=>exact⟨0,Nat.zero_le _,rfl,zHi Mcp,Below.refl _ _⟩
    case round=>
     obtain⟨j,hj,rfl,HP,gx⟩:=hrel;have fx:=zHi gx;have hj9:j<=100000:=Mc3;have i1:=bT.o _ gx;by_cases cW:j<xs.length
     ·obtain⟨b2,off2,hA,bF,cd⟩:=(tF.o.keep gx).at cW;subst hA;have j0:wr.cell? ⟨b2,off2+j,none⟩=some (.string xs[j]):=Md4;have ej:=posT_step (x:=x) cW;have DQ:=posT_stop (x:=x) cW;have EC:=zHi cW;generalize xs[j]=y at*;have cz:(j:Int)<(xs.length:Int):=Mcm;have sB:(0:Int)<=(j:Int):=Mcm;cases iD:zbq y x
      ·have pW:Op.bytesLess y.toList x.toList=false:=iD;have lP:Hid (posT xs x=j):=by show _=_;have:=HP.o;rw[DQ iD]at this;simpa using this
       clear cd ej DQ gx cW iD;exact MaX
      ·have pW:Op.bytesLess y.toList x.toList=true:=iD;have lP:Hid (posT xs x=j+1+posT (xs.drop (j+1)) x):=by show _=_;have:=HP.o;rw[ej iD]at this;omega
       clear cd ej DQ gx cW iD;go_upto_region 6 with fail
       go_quiet (fail)
       go_wp2_with fail
       go_round
       case rel=>exact⟨j+1,EC.o,by go_num,lP,zd2 fx.o _⟩
       case measure=>have:=EC.o;simp only[intOf];omega
     ·have cz:¬(j:Int)<(xs.length:Int):=Mcm;have lP:Hid (posT xs x=j):=by show _=_;have:=HP.o;rw[posT_end cW]at this;simpa using this
      clear gx;exact MaX
   case rest=>
    obtain⟨rfl,iR⟩:=hcut;obtain⟨WC,tU⟩:∃WC,WC=wc:=⟨_,rfl⟩
    subst tU;have aj:=aH.o;unfold insT at aj;have oD:∀hp:posT xs x<xs.length,(xs[posT xs x]?.map (fun y=>zae y x)).getD false=zae xs[posT xs x] x:=fun hp=>by rw[List.getElem?_eq_getElem hp];rfl
    have xi:¬posT xs x<xs.length->(xs[posT xs x]?.map (fun y=>zae y x)).getD false=false:=fun hp=>by rw[List.getElem?_eq_none Mcm];rfl
    generalize posT xs x=a at*;generalize(xs[a]?.map (fun y=>zae y x)).getD false=fnd at*;have i1:=bT.o _ iR;have Kl:=iR.size;obtain⟨ti,cN⟩:=yH2 iR aj;clear aH aj;go_upto_region 8 with fail
    go_cut [43]from 29 to 43 (fun v w4=>v=.bool (!fnd)/\Below WC.heap.size WC w4)
    case first=>
     by_cases jQ:a<xs.length
     ·obtain⟨b2,off2,hA,bF,cd⟩:=(tF.o.keep iR).at jQ;subst hA;have j0:WC.cell? ⟨b2,off2+a,none⟩=some (.string xs[a]):=Md4;have hf:=oD jQ;generalize xs[a]=y at*;have hai:(a:Int)<(xs.length:Int):=Mcm;have oA:(0:Int)<=(a:Int):=Mcm;have Kg:((a:Int)==(xs.length:Int))=false:=Mcr;subst hf;cases hs:zae y x
      ·have bo:(y.toList==x.toList)=false:=hs;clear cd oD xi iR jQ;exact Mao
      ·have bo:(y.toList==x.toList)=true:=hs;clear cd oD xi iR jQ;exact Mao
     ·have Kg:((a:Int)==(xs.length:Int))=true:=Mcr;have hf:=xi jQ;subst hf;clear oD xi iR;exact Mao
    case rest=>
     obtain⟨rfl,hz⟩:=hcut;obtain⟨wr,qm⟩:∃wr,wr=wc:=⟨_,rfl⟩
     subst qm;have eB:Below WR.heap.size WR wr:=ti.o.trans (hz.mono Kl);have yF:=eB.size;obtain⟨aA,d9,vE⟩:=yH3 (HB.o.trans (eB.mono aE)) (HO.o.keep eB) (fun W (h:Below wr.heap.size wr W)=>bT.o W (eB.trans (h.mono yF)));have sR:w.heap.size<=wr.heap.size:=Mcm;clear hz ti HB HO bT iR i1;cases fnd
     ·have aH:Hid (zdb (l.take (k+1))=xs.take a++[x]++xs.drop a):=by show _=_;rw[cN.o];rfl
      have HB:=aA;have bT:=vE;have HA:Hid (a<=xs.length):=hp;have eL:Hid ((xs.take a).length=a):=by show _=_;rw[List.length_take];omega
      have lB:Hid (xs.length-a=(xs.drop a).length):=by show _=_;rw[List.length_drop]
      clear cN aA vE oD xi;rcases d9.o with⟨he,fu⟩|⟨g,o,cap,cur,he,cf,cw,_,_,_,_⟩
      ·simp only[Value.slice.injEq]at he;obtain⟨rfl,_,rfl⟩:=he;subst fu;have oA:a=0:=by simpa using hp
       subst oA;let xs:List ByteArray:=[]
       let a:Nat:=0
       have qY:Hid (∀W,Below wr.heap.size wr W->Sl W 1 sC (none:Option Addr) (xs.take a)):=fun W _=>Sl.nil
       have pB:Hid (∀W,Below wr.heap.size wr W->Sl W 1 sC (none:Option Addr) (xs.drop a)):=fun W _=>Sl.nil
       exact Mb
      ·simp only[Value.slice.injEq,true_and]at he;obtain⟨rfl,rfl⟩:=he;have qY:Hid (∀W,Below wr.heap.size wr W->Sl W 1 sC (some ⟨g,o,none⟩) (xs.take a)):=fun W h=>((tF.o.keep eB).take a).keep h
       have oA:(0:Int)<=(a:Int):=Mcm;have tV:(a:Int)<=(xs.length:Int):=Mcm;have Kf:(a:Int)<=(vc:Int):=Mcm;by_cases ar:a=vc
       ·have Gb:xs.drop a=[]:=List.drop_of_length_le Mcm;have pB:Hid (∀(A:Option Addr) W,Below wr.heap.size wr W->Sl W 1 sC A (xs.drop a)):=fun A W _=>by rw[Gb];exact Sl.nil
        clear Gb cf cw;subst ar;clear eB d9;go_upto_region 9 with fail
        have i1:=bT.o wr (Below.refl _ _);refine zaB 10 (fun bb w'=>bb=true\/w'.cell? ⟨b,off+k,none⟩=some (.string x)) Mcn (.inr (bT.o _ (zaH (Below.refl _ _)))) ?hrest
        case hrest=>
         intro hHeld;refine TkM 5 ?_;refine TkM 6 ?_;refine TkM 7 ?_;refine TkM 8 ?_;refine TkM 1 ?_;refine TkM 2 ?_;refine TkM 3 ?_;refine FrM 11 false ?_;refine FrM 12 false ?_;refine FrM 13 false ?_;refine TwM 0 9 (fun K hK=>?_) fun K hK=>?_
         ·go_simp
          have e0:Below wr.heap.size wr (wr.drew.alloc (.cells #[] 9)):=zac (zaH (Below.refl _ _)) _;refine NxM hK (fun hHeld=>?_) (.inr (bT.o _ e0));clear hK K;refine TwM 4 9 (fun K hK=>?_) fun K hK=>?_
          ·refine zal (v:=.slice (some ⟨wr.heap.size,0,none⟩) 0 0) (n:=0) (m:=a) rfl _ _ rfl zbM zaD zbL rfl (xs:=[]) (ys:=xs.take a) (zgH wr.drew wr.heap.size (Nat.le_refl _)) rfl rfl (eL.o.symm) (qY.o _ e0) Mcw McM Mcx ?_;intro v4 w4 h1 h2 h3;rw[List.nil_append]at h1;obtain⟨V4,c4,aZ,_,_⟩:=h1.sl zaD;rw[eL.o]at aZ;subst aZ;have aD:Below wr.heap.size wr w4:=Below.grown e0 h2 Mdq (fun j hj=>by simp[za7]at hj;omega);refine NxM hK (fun hHeld=>?_) (.inr (bT.o _ aD));clear hK K;refine OnM 9 false fun K hK=>?_
           go_simp
           have e1:Below wr.heap.size wr (w4.alloc (.cells #[.string x] 9)):=zac aD _;have n1:(w4.alloc (.cells #[.string x] 9)).heap[w4.heap.size]?=some (.cells #[.string x] 9):=zas _ _ _ rfl;have o1:OwnS (w4.alloc (.cells #[.string x] 9)) wr.heap.size 9 1 sC (.slice V4 a c4) (xs.take a):=h1.keep (n:=w4.heap.size) (zac (Below.refl _ _) _);refine NxM hK (fun hHeld=>?_) (.inr (bT.o _ e1));clear hK K;refine OnM 10 true fun K hK=>?_
           refine zal (v:=.slice V4 a c4) (n:=a) (m:=1) rfl _ _ rfl zbM zaD zbL rfl (xs:=xs.take a) (ys:=[x]) (o1) eL.o rfl rfl (zga n1) Mcw McM Mct ?_;intro v5 w5 g1 g2 g3;obtain⟨A5,c5,cH,_,_⟩:=g1.sl zaD;rw[List.length_append,eL.o]at cH;subst cH;have aq:Below wr.heap.size wr w5:=Below.grown e1 g2 McI (fun j hj=>((o1).ge j hj).1);refine NxM hK fun hHeld=>?_
           clear hK K;refine OnM 14 true fun K hK=>?_
           refine zal (v:=.slice A5 (a+[x].length) c5) (n:=a+[x].length) (m:=0) rfl _ _ rfl zbM zaD zbL rfl (xs:=xs.take a++[x]) (ys:=xs.drop a) g1 Mej rfl (by rw[<-lB.o];omega) (pB.o _ w5 aq) McK McO (by have:=aq.size;omega) ?_;exact Mi
          ·go_simp
           have e1:Below wr.heap.size wr ((wr.drew.alloc (.cells #[] 9)).alloc (.cells #[.string x] 9)):=zac e0 _;have n1:((wr.drew.alloc (.cells #[] 9)).alloc (.cells #[.string x] 9)).heap[wr.heap.size+1]?=some (.cells #[.string x] 9):=zas _ _ _ Mcp;have m1:OwnS ((wr.drew.alloc (.cells #[] 9)).alloc (.cells #[.string x] 9)) wr.heap.size 9 1 sC (.slice (some ⟨wr.heap.size,0,none⟩) 0 0) []:=(zgH wr.drew wr.heap.size (Nat.le_refl _)).keep (n:=(wr.drew.alloc (.cells #[] 9)).heap.size) (zac (Below.refl _ _) _);refine NxM hK (fun hHeld=>?_) (.inr (bT.o _ e1));clear hK K;refine OnM 4 false fun K hK=>?_
           refine zal (v:=.slice (some ⟨wr.heap.size,0,none⟩) 0 0) (n:=0) (m:=a) rfl _ _ rfl zbM zaD zbL rfl (xs:=[]) (ys:=xs.take a) (m1) rfl rfl (eL.o.symm) (qY.o _ e1) Mcw McM Mct ?_;intro v4 w4 h1 h2 h3;rw[List.nil_append]at h1;obtain⟨V4,c4,aZ,_,_⟩:=h1.sl zaD;rw[eL.o]at aZ;subst aZ;have aD:Below wr.heap.size wr w4:=Below.grown e1 h2 McI (fun j hj=>by simp[za7]at hj;omega);have n2:w4.heap[wr.heap.size+1]?=some (.cells #[.string x] 9):=(h2.block _ McD Mdf).trans n1;exact MbU
         ·go_simp
          have e0:Below wr.heap.size wr (wr.drew.alloc (.cells #[.string x] 9)):=zac (zaH (Below.refl _ _)) _;have n0:(wr.drew.alloc (.cells #[.string x] 9)).heap[wr.heap.size]?=some (.cells #[.string x] 9):=zas _ _ _ rfl;refine NxM hK (fun hHeld=>?_) (.inr (bT.o _ e0));clear hK K;refine OnM 0 false fun K hK=>?_
          go_simp
          have e1:Below wr.heap.size wr ((wr.drew.alloc (.cells #[.string x] 9)).alloc (.cells #[] 9)):=zac e0 _;have n1:((wr.drew.alloc (.cells #[.string x] 9)).alloc (.cells #[] 9)).heap[wr.heap.size]?=some (.cells #[.string x] 9):=zak n0;refine NxM hK (fun hHeld=>?_) (.inr (bT.o _ e1));clear hK K;refine OnM 4 false fun K hK=>?_
          have m1:OwnS ((wr.drew.alloc (.cells #[.string x] 9)).alloc (.cells #[] 9)) wr.heap.size 9 1 sC (.slice (some ⟨wr.heap.size+1,0,none⟩) 0 0) []:=by
           exact Mcd
          refine zal (v:=.slice (some ⟨wr.heap.size+1,0,none⟩) 0 0) (n:=0) (m:=a) rfl _ _ rfl zbM zaD zbL rfl (xs:=[]) (ys:=xs.take a) (m1) rfl rfl (eL.o.symm) (qY.o _ e1) Mcw McM Mct ?_;intro v4 w4 h1 h2 h3;rw[List.nil_append]at h1;obtain⟨V4,c4,aZ,_,_⟩:=h1.sl zaD;rw[eL.o]at aZ;subst aZ;have aD:Below wr.heap.size wr w4:=Below.grown e1 h2 McI (fun j hj=>by simp[za7]at hj;omega);have n2:w4.heap[wr.heap.size]?=some (.cells #[.string x] 9):=(h2.block _ McD Mdf).trans n1;exact MbU
       ·have pB:Hid (∀W,Below wr.heap.size wr W->Sl W 1 sC (some ⟨g,o+a,none⟩) (xs.drop a)):=fun W h=>(sl_from (tF.o.keep eB) a).keep h
        have FY:¬vc=a:=fun h=>ar h.symm
        clear cf cw;exact Mb
     ·have aH:Hid (zdb (l.take (k+1))=xs):=by show _=_;rw[cN.o];rfl
      go_wp2_with fail
      go_round
      case rel=>exact⟨k+1,am.o,by go_num,by rw[aH.o];exact d9.o,aA.o⟩
      case measure=>have:=am.o;simp only[intOf];omega
  ·exact MaL
structure Srch (cs:List (ByteArray×ByteArray)) (nm:ByteArray) (all:List ByteArray) (i:Nat):Prop where
 desc:∀y∈all,Relation.TransGen (fun x y=>y∈zde cs x) nm y
 mine:∀c∈zde cs nm,c∈all
 done:∀y∈all.take i,∀c∈zde cs y,c∈all
 few:∃n,n<=(zde cs nm).length/\(all.drop n).Nodup/\n<=all.length
theorem zhR(cs:List (ByteArray×ByteArray))(n:ByteArray):(zde cs n).length<=cs.length:=by
 unfold zde;rw[List.length_map];exact List.length_filter_le _ _
theorem ziS{cs:List (ByteArray×ByteArray)}{n c:ByteArray}(h:c∈zde cs n):c∈cs.map (·.2):=by
 unfold zde at h;obtain⟨p,hp,rfl⟩:=List.mem_map.1 h;exact List.mem_map_of_mem (List.mem_filter.1 hp).1
theorem Srch.len{cs:List (ByteArray×ByteArray)}{nm:ByteArray}{all:List ByteArray}{i:Nat}(h:Srch cs nm all i):all.length<=2*cs.length:=by
 obtain⟨n,h1,h2,h3⟩:=h.few;have h4:=zhR cs nm;haveI:DecidableEq ByteArray:=fun a b=>Classical.propDecidable _
 have h5:(all.drop n).length<=(cs.map (·.2)).length:=zkr h2 fun y hy=>by
  cases h.desc y (List.mem_of_mem_drop hy)with
  |single h=>exact ziS h
  |tail _ h=>exact ziS h
 rw[List.length_drop,List.length_map]at h5;omega
theorem zpn(cs:List (ByteArray×ByteArray))(nm:ByteArray):Srch cs nm (zde cs nm) 0:=
 ⟨fun y hy=> .single hy,fun c h=>h,by simp,(zde cs nm).length,Nat.le_refl _,by simp,Nat.le_refl _⟩
theorem srch_end{cs:List (ByteArray×ByteArray)}{nm:ByteArray}{all:List ByteArray}{i:Nat}(h:Srch cs nm all i)(hi:all.length<=i)(y:ByteArray):y∈all↔Relation.TransGen (fun x y=>y∈zde cs x) nm y:=by
 refine⟨h.desc y,fun hd=>?_⟩;have jT:=h.done;rw[List.take_of_length_le hi]at jT;induction hd with
 |single h1=>exact h.mine _ h1
 |tail _ h1 ih=>exact jT _ ih _ h1
def zdc(all more:List ByteArray):List ByteArray:=more.foldl (fun a c=>if a.any (zae c)then a else a++[c]) all
theorem zny{all more:List ByteArray}{k:Nat}(h:k<more.length):zdc all (more.take (k+1))=if(zdc all (more.take k)).any (zae more[k])then zdc all (more.take k)else zdc all (more.take k)++[more[k]]:=by
 unfold zdc;rw[List.take_add_one,List.getElem?_eq_getElem h,List.foldl_append];rfl
theorem zfG:∀(more all:List ByteArray),∃t,zdc all more=all++t/\(∀c∈t,c∈more)/\(∀c∈more,c∈zdc all more)/\(∀n,n<=all.length->(all.drop n).Nodup->(∀c∈t,c∉all)/\((zdc all more).drop n).Nodup)
 | [],all=>⟨[],by simp[zdc],by simp,by simp,fun n _ h=>⟨by simp,h⟩⟩
 |c::more,all=>by
  have e:zdc all (c::more)=zdc (if all.any (zae c)then all else all++[c]) more:=rfl;rw[e];split
  ·rename_i hc
   obtain⟨t,h1,h2,h3,h4⟩:=zfG more all;refine⟨t,h1,fun x hx=>List.mem_cons_of_mem _ (h2 x hx),fun x hx=>?_,h4⟩;rcases List.mem_cons.1 hx with rfl|hx
   ·rw[h1];exact List.mem_append_left _ (zfy.1 hc)
   ·exact h3 x hx
  ·rename_i hc
   have aJ:c∉all:=fun h=>hc (zfy.2 h)
   obtain⟨t,h1,h2,h3,h4⟩:=zfG more (all++[c]);refine⟨c::t,by rw[h1];simp,fun x hx=>?_,fun x hx=>?_,fun n hn cR=>?_⟩
   ·rcases List.mem_cons.1 hx with rfl|hx
    ·simp
    ·exact List.mem_cons_of_mem _ (h2 x hx)
   ·rcases List.mem_cons.1 hx with rfl|hx
    ·rw[h1];simp
    ·exact h3 x hx
   ·have hd:((all++[c]).drop n).Nodup:=by
     rw[List.drop_append_of_le_length hn]
     exact List.nodup_append.2 ⟨cR,by simp,fun a ha b hb e=>by
      rw[List.mem_singleton.1 hb]at e
      exact aJ (e▸List.mem_of_mem_drop ha)⟩
    obtain⟨h5,h6⟩:=h4 n Mcr hd;refine⟨fun x hx=>?_,h6⟩;rcases List.mem_cons.1 hx with rfl|hx
    ·exact aJ
    ·exact fun h=>h5 x hx (List.mem_append_left _ h)
theorem srch_next{cs:List (ByteArray×ByteArray)}{nm:ByteArray}{all:List ByteArray}{i:Nat}(h:Srch cs nm all i)(hi:i<all.length):Srch cs nm (zdc all (zde cs all[i])) (i+1):=by
 obtain⟨t,h1,h2,h3,h4⟩:=zfG (zde cs all[i]) all;obtain⟨n,f1,f2,f3⟩:=h.few;have h5:=(h4 n f3 f2).2;rw[h1]at h3 h5⊢;refine⟨fun y hy=>?_,fun c hc=>List.mem_append_left _ (h.mine c hc),fun y hy c hc=>?_,n,f1,h5,by simp;omega⟩
 ·rcases List.mem_append.1 hy with hy|hy
  ·exact h.desc y hy
  ·exact .tail (h.desc _ (List.getElem_mem hi)) (h2 y hy)
 ·rw[List.take_append_of_le_length Mcm,List.take_add_one,List.getElem?_eq_getElem hi]at hy;rcases List.mem_append.1 hy with hy|hy
  ·exact List.mem_append_left _ (h.done y hy c hc)
  ·obtain rfl:y=all[i]:=by simpa using hy
   exact h3 c hc
def DescR(w:World)(cs:List (ByteArray×ByteArray))(nm:ByteArray)(e:Ending)(w':World):Prop:=
 ∃v ys,e=.returned v/\OwnS w' w.heap.size 9 1 sC v ys/\(∀y,y∈ys↔Relation.TransGen (fun x y=>y∈zde cs x) nm y)/\AscT ys/\ys.length<=2*cs.length/\Below w.heap.size w w'
theorem rDesc_any(cs:List (ByteArray×ByteArray))(n:ByteArray)(LA CA MA DA WA RA GA:Option Addr)(n0 c0 n1 c1 n2 c2 n3 c3 n4 c4 n5 c5 n6 c6:Nat)(w:World)(hl:cs.length<=1000)(hS:Sl w 2 zaR CA cs):
 Calls Tryz.prog 151 #[.agg #[.slice LA n0 c0,.slice CA cs.length c1,.slice MA n2 c2,.slice DA n3 c3,.slice WA n4 c4,.slice RA n5 c5,.slice GA n6 c6],.string n] w (DescR w cs n):=by
 have pj:=zHi (fun x W (h:Below w.heap.size w W)=>zgF cs x LA CA MA DA WA RA GA n0 c0 cs.length c1 n2 c2 n3 c3 n4 c4 n5 c5 n6 c6 W Mcm (hS.keep h));unfold DescR;clear hS;go_enter Tryz.func151,Tryz.ntmps151
 go_upto_region 1 with fail
 generalize ao:w.alloc _=W0;obtain⟨g0,aO⟩:=boxed ao;have fh:=zaG g0;have l0:=zab g0;have ay:=aO.size;have ak:=zHi aO
 have aw:=zHi (fun W (h:Below W0.heap.size W0 W)=>(show W.cell? ⟨w.heap.size,0,none⟩=some (.slice LA n0 c0)/\W.cell? ⟨w.heap.size,1,none⟩=some (.slice CA cs.length c1)/\W.cell? ⟨w.heap.size,2,none⟩=some (.slice MA n2 c2)/\W.cell? ⟨w.heap.size,3,none⟩=some (.slice DA n3 c3)/\W.cell? ⟨w.heap.size,4,none⟩=some (.slice WA n4 c4)/\W.cell? ⟨w.heap.size,5,none⟩=some (.slice RA n5 c5)/\W.cell? ⟨w.heap.size,6,none⟩=some (.slice GA n6 c6) from by
  obtain⟨d0,d1,d2,d3,d4,d5,d6⟩:=fh
  exact⟨(zah h l0).trans d0,(zah h l0).trans d1,(zah h l0).trans d2,(zah h l0).trans d3,(zah h l0).trans d4,(zah h l0).trans d5,(zah h l0).trans d6⟩))
 obtain⟨d0,d1,d2,d3,d4,d5,d6⟩:=fh;clear ao aO g0
 go_upto_region 3 with(go_at_call 150
                       go_must(refine(pj.o _ _ Mdh).mono ?_)
                       rintro e w1 ⟨v1,rfl,o1,b1⟩)
 obtain⟨aB,fM⟩:=yH2 b1 o1;clear o1 b1 d0 d1 d2 d3 d4 d5 d6;go_loopw [5,6,7,8] (fun v i _ _ wr=>∃(k:Nat) (all:List ByteArray),k<=all.length/\i=.int .i64 k/\Hid (Srch cs n all k)/\OwnS wr W0.heap.size 9 1 sC v all/\Below W0.heap.size W0 wr) (fun _ i _ _ _=>2*cs.length-(intOf i).toNat)
 case atStart=>exact⟨0,_,Nat.zero_le _,rfl,zHi (zpn cs n),fM.o,aB.o⟩
 case round=>
  obtain⟨k,all,hk,rfl,qV,ae,hB⟩:=hrel;obtain⟨WR,oz⟩:∃WR,WR=wr:=⟨_,rfl⟩
  subst oz;have jQ:=qV.o.len;have i8:k<=2000:=Mcm;obtain⟨VA,vc,rfl,jo,jV⟩:=ae.sl zaD;have aE:=hB.size;obtain⟨HB,HO⟩:=yH2 hB ae;by_cases aa:k<all.length
  ·obtain⟨b,off,rfl,hb,ah⟩:=jo.at aa;have bR:=srch_next qV.o aa;have am:=zHi aa;generalize all[k]=x at*;have i0:WR.cell? ⟨b,off+k,none⟩=some (.string x):=McT;have au:(k:Int)<(all.length:Int):=Mcm;have aP:(0:Int)<=(k:Int):=Mcm;have ed:=zHi bR;have Hw:Hid (all.length<=(zdc all (zde cs x)).length):=by
    show _<=_;obtain⟨t,h1,_⟩:=zfG (zde cs x) all;rw[h1,List.length_append];omega
   have za:=zHi jQ;have bT:=zHi (fun W (h:Below WR.heap.size WR W)=>(show(W.cell? ⟨w.heap.size,0,none⟩=some (.slice LA n0 c0)/\W.cell? ⟨w.heap.size,1,none⟩=some (.slice CA cs.length c1)/\W.cell? ⟨w.heap.size,2,none⟩=some (.slice MA n2 c2)/\W.cell? ⟨w.heap.size,3,none⟩=some (.slice DA n3 c3)/\W.cell? ⟨w.heap.size,4,none⟩=some (.slice WA n4 c4)/\W.cell? ⟨w.heap.size,5,none⟩=some (.slice RA n5 c5)/\W.cell? ⟨w.heap.size,6,none⟩=some (.slice GA n6 c6))/\W.cell? ⟨b,off+k,none⟩=some (.string x) from⟨aw.o W (HB.o.trans (h.mono aE)),(zah h hb).trans i0⟩));have AU:=zHi (fun W (h:Below WR.heap.size WR W)=>pj.o x W (ak.o.trans ((HB.o.trans (h.mono aE)).mono ay)));generalize iV:zde cs x=ks at*;have bV:ks.length<=1000:=by rw[<-iV];exact Nat.le_trans (zhR cs x) hl
   have nW:=zHi bV;clear ah ae hB jo aa bR iV jQ i0 bV;go_upto_region 5 with fail
   refine zaB 5 (fun bb w'=>bb=true\/((w'.cell? ⟨w.heap.size,0,none⟩=some (.slice LA n0 c0)/\w'.cell? ⟨w.heap.size,1,none⟩=some (.slice CA cs.length c1)/\w'.cell? ⟨w.heap.size,2,none⟩=some (.slice MA n2 c2)/\w'.cell? ⟨w.heap.size,3,none⟩=some (.slice DA n3 c3)/\w'.cell? ⟨w.heap.size,4,none⟩=some (.slice WA n4 c4)/\w'.cell? ⟨w.heap.size,5,none⟩=some (.slice RA n5 c5)/\w'.cell? ⟨w.heap.size,6,none⟩=some (.slice GA n6 c6))/\w'.cell? ⟨b,off+k,none⟩=some (.string x))) Mcn (.inr (bT.o _ (zaH (Below.refl _ _)))) ?hrest
   case hrest=>
    intro hHeld;refine TkM 0 ?_;refine TkM 1 ?_;refine TkM 2 ?_;refine TkM 3 ?_;refine TkM 4 ?_;refine OnM 5 true fun K hK=>?_
    go_simp
    refine(AU.o _ (zaH (Below.refl _ _))).mono ?_;rintro e w5 ⟨v5,rfl,o5,aq⟩;refine NxM hK fun hHeld=>?_
    clear hK K;refine OnM 6 true fun K hK=>?_
    go_simp
    refine NxM hK fun hHeld=>?_
    clear hK K;refine zaI Mcn ?_ _;clear hHeld;have cG:Below WR.heap.size WR w5:=(zaH (Below.refl _ _):Below WR.heap.size WR WR.drew).trans aq;have o5':OwnS w5 WR.heap.size 9 1 sC v5 ks:=o5;obtain⟨KA,kc,rfl,_,_⟩:=o5'.sl zaD;obtain⟨bl,jg⟩:=yH2 cG o5';have C7:=cG.size;clear aq cG o5 o5';go_upto_region 7 with fail
    go_loopw [5,8] (fun v j wr=>∃m:Nat,m<=ks.length/\j=.int .i64 m/\OwnS wr W0.heap.size 9 1 sC v (zdc all (ks.take m))/\Hid (∀g,za7 v=some g->za7 (.slice KA ks.length kc)≠some g)/\OwnS wr WR.heap.size 9 1 sC (.slice KA ks.length kc) ks/\Below W0.heap.size W0 wr/\w5.heap.size<=wr.heap.size/\(zdc all (ks.take m)).length<=all.length+m) (fun _ j _=>ks.length-(intOf j).toNat)
    case atStart=>exact⟨0,Nat.zero_le _,rfl,HO.o.keep bl.o,zHi (fun g h1 h2=>by have:=(jg.o.ge g h2).1;have:=(HO.o.ge g h1).2;omega),jg.o,HB.o.trans (bl.o.mono aE),Nat.le_refl _,by simp[zdc]⟩
    case round=>
     obtain⟨m,hm,rfl,uk,iN,bH,gx,LQ,Gw⟩:=hrel;have GC:m<=1000:=by have:=nW.o;omega
     by_cases fI:m<ks.length
     ·have aj:=zny (all:=all) fI;obtain⟨b2,off2,lU,bF,cd⟩:=(ziQ zaD bH).1.at fI;have nX:=zHi fI;generalize zdc all (ks.take m)=ys at*;obtain⟨VY,vy,rfl,rS,sZ⟩:=uk.sl zaD;generalize ks[m]=y at*;subst lU;have j0:wr.cell? ⟨b2,off2+m,none⟩=some (.string y):=Md4;have fH:(m:Int)<(ks.length:Int):=Mcm;have nJ:(0:Int)<=(m:Int):=Mcm;have Bq:Hid (ys.length<=100000):=by show _<=_;have:=za.o;have:=nW.o;omega
      obtain⟨eY,dH,dG,fx,lH⟩:=yH5 (fun W (h:Below wr.heap.size wr W)=>zdx ys y VY vy W Bq.o sZ (rS.keep h)) uk bH gx Gw;have Ef:=gx.size;clear cd uk bH gx rS fI Gw;cases aQ:ys.any (zae y)
      ·have aH:Hid (zdc all (ks.take (m+1))=ys++[y]):=by show _=_;rw[aj,aQ];rfl
       rw[aQ]at eY;clear aj aQ
       go_wp2_with (first
        |(go_at_call 149;go_must(refine(eY.o _ Bw).mono ?_);rintro e wq ⟨rfl,rfl⟩)
        |(at_builtin
          go_loud(refine zau (v:=.slice VY ys.length vy) (n:=ys.length) (m:=1) rfl _ _ rfl zbM zaD zbL rfl (xs:=ys) (ys:=[y]) (dH.o.keep (n:=wr.heap.size) Bw) rfl rfl rfl (zga (zas _ _ _ rfl)) (by have:=Bq.o;simp[maxLen];omega) (by have:=Bq.o;omega) Mcr ?_)
          intro v3 w3 h1 h2 h3;have aC:=Below.grown (B:=W0.heap.size) (a:=W0) (fx.o.trans (Below.mono (B:=wr.heap.size) (zac (Below.refl _ _) _) Ef)) h2 Mcr (fun j hj=>(dH.o.ge j hj).1);have ud:=(dG.o.keep (n:=wr.heap.size) (zac (Below.refl _ _) (.cells #[.string y] 9))).grown h2 (.inr fun e=>iN.o _ e.symm rfl);have Az:∀g,za7 v3=some g->za7 (.slice (some ⟨b2,off2,none⟩) ks.length kc)≠some g:=fun g e1 e2=>by
           rcases h3 g e1 with h|h
           ·exact iN.o g h e2
           ·have:=(dG.o.ge g e2).2;simp at h;omega
          have fT:=h2.size;obtain⟨H1,aL,Iq,ID⟩:=yH4 h1 aC ud Az;simp only[World.size_alloc]at fT
          clear h1 h2 h3 aC ud Az))
       go_round
       case rel=>exact⟨m+1,nX.o,by go_num,by rw[aH.o];exact H1.o,ID,Iq.o,aL.o,by omega,by rw[aH.o,List.length_append];have:=lH.o;simp;omega⟩
       case measure=>have:=nX.o;simp only[intOf];omega
      ·have aH:Hid (zdc all (ks.take (m+1))=ys):=by show _=_;rw[aj,aQ];rfl
       rw[aQ]at eY;clear aj aQ;go_wp2_with (go_at_call 149;go_must(refine(eY.o _ Bw).mono ?_);rintro e wq ⟨rfl,rfl⟩)
       go_round
       case rel=>exact⟨m+1,nX.o,by go_num,by rw[aH.o];exact dH.o,iN,dG.o,fx.o,LQ,by rw[aH.o];have:=lH.o;omega⟩
       case measure=>have:=nX.o;simp only[intOf];omega
     ·have fH:¬(m:Int)<(ks.length:Int):=Mcm;rw[List.take_of_length_le Mcm]at uk;obtain⟨dH,fx⟩:=yH2 uk gx;clear uk bH gx;go_wp2_with fail
      go_round
      case rel=>exact⟨k+1,_,by have:=Hw.o;have:=am.o;omega,by go_num,ed,dH.o,fx.o⟩
      case measure=>have:=am.o;have:=za.o;simp only[intOf];omega
  ·have au:¬(k:Int)<(all.length:Int):=Mcm;obtain⟨B9,nt,za⟩:=yH3 (srch_end qV.o Mcm) (fun W (h:Below WR.heap.size WR W)=>znx all VA vc W Mcm (jo.keep h)) jQ;clear jo ae hB jQ;go_wp2_with (go_at_call 168;go_must(refine(nt.o _ Bw).mono ?_);rintro e wq ⟨vq,rfl,oq,bq⟩)
   go_ret
   exact⟨_,zdb all,rfl,oq.base_le Mcm,fun y=>znv.trans (B9.o y),znw all,Nat.le_trans (ziR all) za.o,ak.o.trans ((HB.o.trans (bq.mono aE)).mono ay)⟩

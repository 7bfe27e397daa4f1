import Derived.Test.YtbobmplpdmplkaaGreatDoorWW
import Derived.Test.YtbobmplpdmplkaaGreatDoorUF
set_option linter.all false
set_option maxRecDepth 100000
set_option maxHeartbeats 4000000
namespace Go.Proofs.YtbobmplpdmplkaaGreatDoor
open Go.RowKit Go.Shelf
attribute [local go_sem] World.cell?_alloc_mark zaf za4 zam za7 zaw zax zay zaz za0 za1 za2
attribute [local go_sem] zan zac
def posT(out:List ByteArray)(x:ByteArray):Nat:=(out.takeWhile fun y=>zbh y x).length
def insT(out:List ByteArray)(x:ByteArray):List ByteArray:=if(out[posT out x]?.map (fun y=>zae y x)).getD false then out else out.take (posT out x)++[x]++out.drop (posT out x)
def zdf(l:List ByteArray):List ByteArray:=l.foldl insT []
theorem posT_le(out:List ByteArray)(x:ByteArray):posT out x<=out.length:=by
 unfold posT;exact(List.takeWhile_sublist _).length_le
theorem posT_step{out:List ByteArray}{x:ByteArray}{j:Nat}(h:j<out.length)(hl:zbh out[j] x=true):posT (out.drop j) x=1+posT (out.drop (j+1)) x:=by
 unfold posT;rw[List.drop_eq_getElem_cons h,List.takeWhile_cons,if_pos hl,List.length_cons];omega
theorem posT_stop{out:List ByteArray}{x:ByteArray}{j:Nat}(h:j<out.length)(hl:zbh out[j] x=false):posT (out.drop j) x=0:=by
 unfold posT;rw[List.drop_eq_getElem_cons h,List.takeWhile_cons,if_neg (by simp[hl])];rfl
theorem posT_end{out:List ByteArray}{x:ByteArray}{j:Nat}(h:¬j<out.length):posT (out.drop j) x=0:=by
 unfold posT;rw[List.drop_of_length_le Mcy];rfl
theorem insT_len(out:List ByteArray)(x:ByteArray):(insT out x).length<=out.length+1:=by
 unfold insT;split
 ·omega
 ·simp only[List.length_append,List.length_take,List.length_drop,List.length_singleton];have:=posT_le out x;omega
theorem zmd{l:List ByteArray}{k:Nat}(h:k<l.length):zdf (l.take (k+1))=insT (zdf (l.take k)) l[k]:=by
 unfold zdf;rw[List.take_add_one,List.getElem?_eq_getElem h,List.foldl_append];rfl
theorem ziQ(l:List ByteArray):(zdf l).length<=l.length:=by
 have h:∀(l out:List ByteArray),(l.foldl insT out).length<=out.length+l.length:=by
  intro l;induction l with
  |nil=>intro out;simp
  |cons x l ih=>
   intro out;have h1:=ih (insT out x);have h2:=insT_len out x;rw[List.foldl_cons,List.length_cons];omega
 simpa[zdf]using h l []
theorem mem_insT{out:List ByteArray}{x y:ByteArray}:y∈insT out x↔y∈out\/y=x:=by
 unfold insT;split
 ·rename_i h
  refine⟨.inl,fun h1=>h1.elim id fun e=>?_⟩;subst e;cases hg:out[posT out y]? with
  |none=>rw[hg]at h;cases h
  |some z=>
   rw[hg]at h;have hz:z=y:=zau.1 Mdl;rw[<-hz];exact List.mem_of_getElem? hg
 ·have e:out.take (posT out x)++out.drop (posT out x)=out:=List.take_append_drop _ _;constructor
  ·intro h;simp only[List.mem_append,List.mem_singleton]at h;rcases h with(h|h)|h
   ·exact .inl (List.mem_of_mem_take h)
   ·exact .inr h
   ·exact .inl (List.mem_of_mem_drop h)
  ·rintro(h|h)
   ·rw[<-e]at h;simp only[List.mem_append,List.mem_singleton]at h⊢;rcases h with h|h
    ·exact .inl (.inl h)
    ·exact .inr h
   ·subst h;simp
theorem znk{l:List ByteArray}{y:ByteArray}:y∈zdf l↔y∈l:=by
 have h:∀(l out:List ByteArray),y∈l.foldl insT out↔y∈out\/y∈l:=by
  intro l;induction l with
  |nil=>intro out;simp
  |cons x l ih=>
   intro out;rw[List.foldl_cons,ih,mem_insT,List.mem_cons,or_assoc]
 rw[zdf,h];simp
def AscT(l:List ByteArray):Prop:=l.Pairwise fun a b=>zbh a b=true
theorem zme{x:ByteArray}:∀ {out:List ByteArray},∀y∈out.take (posT out x),zbh y x=true
 | [],y,h=>by simp at h
 |z::out,y,h=>by
  unfold posT at h;rw[List.takeWhile_cons]at h;split at h
  ·rename_i hz
   rw[List.length_cons,List.take_succ_cons,List.mem_cons]at h;rcases h with rfl|h
   ·exact hz
   ·exact zme y h
  ·simp at h
theorem zmf{x:ByteArray}:∀ {out:List ByteArray},AscT out->(out[posT out x]?.map (fun y=>zae y x)).getD false=false->∀y∈out.drop (posT out x),zbh x y=true
 | [],_,_,y,h=>by simp at h
 |z::out,ha,hn,y,h=>by
  have jc:=List.pairwise_cons.1 ha;unfold posT at h hn;rw[List.takeWhile_cons]at h hn;split at h
  ·rename_i hz
   rw[if_pos hz]at hn;rw[List.length_cons,List.drop_succ_cons]at h;rw[List.length_cons,List.getElem?_cons_succ]at hn;exact zmf jc.2 hn y h
  ·rename_i hz
   rw[if_neg hz]at hn;have mY:zae z x=false:=by simpa using hn
   have GT:zbh x z=true:=by
    rcases zda z x with k|k|k
    ·exact absurd k hz
    ·exact absurd (zau.2 k) (by rw[mY];simp)
    ·exact k
   rw[List.length_nil,List.drop_zero,List.mem_cons]at h;rcases h with rfl|h
   ·exact GT
   ·exact zb1 GT (jc.1 y h)
theorem insT_asc{out:List ByteArray}{x:ByteArray}(h:AscT out):AscT (insT out x):=by
 unfold insT;split
 ·exact h
 ·rename_i hn
  have hd:=zmf h (by simpa using hn);have ht:=zme (x:=x) (out:=out);unfold AscT;rw[List.append_assoc,List.pairwise_append];refine⟨List.Pairwise.sublist (List.take_sublist _ _) h,?_,fun a ha b hb=>?_⟩
  ·rw[List.singleton_append,List.pairwise_cons];exact⟨hd,List.Pairwise.sublist (List.drop_sublist _ _) h⟩
  ·rw[List.singleton_append,List.mem_cons]at hb;rcases hb with rfl|hb
   ·exact ht a ha
   ·exact zb1 (ht a ha) (hd b hb)
theorem znl(l:List ByteArray):AscT (zdf l):=by
 have h:∀(l out:List ByteArray),AscT out->AscT (l.foldl insT out):=by
  intro l;induction l with
  |nil=>intro out ho;exact ho
  |cons x l ih=>intro out ho;exact ih _ (insT_asc ho)
 exact h l [] List.Pairwise.nil
theorem sl_from{w:World}{b off:Nat}{xs:List ByteArray}(h:Sl w 1 sC (some ⟨b,off,none⟩) xs)(k:Nat):Sl w 1 sC (some ⟨b,off+k,none⟩) (xs.drop k):=fun hl=>by
 rw[List.length_drop]at hl;obtain⟨b',off',hA,hb,hc⟩:=h Mcy;simp only[Option.some.injEq,Addr.mk.injEq,and_true]at hA;obtain⟨rfl,rfl⟩:=hA;refine⟨b,off+k,rfl,hb,fun j x hx u v hu=>?_⟩;rw[List.getElem?_drop]at hx;have:=hc (k+j) x hx u v hu;rw[<-this];congr 2
 omega
theorem zg9(W:World)(base:Nat)(h:base<=W.heap.size):OwnS (W.alloc (.cells #[] 9)) base 9 1 sC (.slice (some ⟨W.heap.size,0,none⟩) 0 0) []:=
 OwnS.of_own za9 (World.ownsRow_made W #[] 0 h (Nat.zero_le _) McB)
theorem znm(l:List ByteArray)(A:Option Addr)(c:Nat)(w:World)(hl:l.length<=100000)(hS:Sl w 1 sC A l):Calls Tryz.prog 39 #[.slice A l.length c] w (zdz w (zdf l)):=by
 have HS:=zHi hS;unfold zdz;clear hS;go_enter Tryz.func39,Tryz.ntmps39
 go_upto_region 3 with fail
 go_loopw [3,4,5] (fun v i _ wr=>∃k:Nat,k<=l.length/\i=.int .i64 k/\OwnS wr w.heap.size 9 1 sC v (zdf (l.take k))/\Below w.heap.size w wr) (fun _ i _ _=>l.length-(intOf i).toNat)
 case atStart=>exact⟨0,Nat.zero_le _,rfl,OwnS.nil,Below.refl _ _⟩
 case round=>
  obtain⟨k,hk,rfl,aa,hB⟩:=hrel;obtain⟨WR,oy⟩:∃WR,WR=wr:=⟨_,rfl⟩
  subst oy;have aG:=hB.size;obtain⟨HO,HB⟩:=yH2 aa hB;by_cases ae:k<l.length
  ·have aq:=zmd ae;have bM:=Nat.le_trans (ziQ (l.take k)) (by rw[List.length_take];omega:(l.take k).length<=k);generalize zdf (l.take k)=xs at*;obtain⟨VA,vc,rfl,jb,kB⟩:=aa.sl za9;have iH:=(HS.o.keep hB).at ae;have ak:=zHi ae;generalize l[k]=x at*;obtain⟨b,off,rfl,hb,ah⟩:=iH;have i0:WR.cell? ⟨b,off+k,none⟩=some (.string x):=McZ;have ar:(k:Int)<(l.length:Int):=Mcy;have aQ:(0:Int)<=(k:Int):=Mcy;have fN:Hid (xs.length<=100000):=by show _<=_;omega
   obtain⟨bY,tp⟩:=yH2 (fun(W:World) (h:Below WR.heap.size WR W)=>(show W.cell? ⟨b,off+k,none⟩=some (.string x) from(zah h hb).trans i0)) jb;have hp:=posT_le xs x;have aB:=zHi aq;clear ah ae aa hB bM jb aq i0;go_upto_block 2 with fail
   go_cut [5]from 12 to 28 (fun v wc=>v=.int .i64 (posT xs x:Nat)/\Below WR.heap.size WR wc)
   case first=>
    go_wp2_with fail
    go_loopw [5] (fun v6 wr=>∃j:Nat,j<=xs.length/\v6=.int .i64 j/\Hid (posT xs x=j+posT (xs.drop j) x)/\Below WR.heap.size WR wr) (fun v6 _=>xs.length-(intOf v6).toNat)
    case atStart=>exact⟨0,Nat.zero_le _,rfl,zHi McB,Below.refl _ _⟩
    case round=>
     obtain⟨j,hj,rfl,HP,gn⟩:=hrel;have fx:=zHi gn;have hj9:j<=100000:=Mdh;have i1:=bY.o _ gn;by_cases cQ:j<xs.length
     ·obtain⟨b2,off2,hA,bs,cx⟩:=(tp.o.keep gn).at cQ;subst hA;have j0:wr.cell? ⟨b2,off2+j,none⟩=some (.string xs[j]):=Md7;have ei:=posT_step (x:=x) cQ;have Df:=posT_stop (x:=x) cQ;have E5:=zHi cQ;generalize xs[j]=y at*;have cB:(j:Int)<(xs.length:Int):=Mcy;have sk:(0:Int)<=(j:Int):=Mcy;cases iH:zbh y x
      ·have nJ:Op.bytesLess y.toList x.toList=false:=iH;have jX:Hid (posT xs x=j):=by show _=_;have:=HP.o;rw[Df iH]at this;simpa using this
       clear cx ei Df gn cQ iH;exact Ma0
      ·have nJ:Op.bytesLess y.toList x.toList=true:=iH;have jX:Hid (posT xs x=j+1+posT (xs.drop (j+1)) x):=by show _=_;have:=HP.o;rw[ei iH]at this;omega
       clear cx ei Df gn cQ iH;go_upto_region 6 with fail
       go_quiet (fail)
       go_wp2_with fail
       go_round
       case rel=>exact⟨j+1,E5.o,by go_num,jX,zd3 fx.o _⟩
       case measure=>have:=E5.o;simp only[intOf];omega
     ·have cB:¬(j:Int)<(xs.length:Int):=Mcy;have jX:Hid (posT xs x=j):=by show _=_;have:=HP.o;rw[posT_end cQ]at this;simpa using this
      clear gn;exact Ma0
   case rest=>
    obtain⟨rfl,pA⟩:=hcut;obtain⟨WC,tL⟩:∃WC,WC=wc:=⟨_,rfl⟩
    subst tL;have aq:=aB.o;unfold insT at aq;have oD:∀hp:posT xs x<xs.length,(xs[posT xs x]?.map (fun y=>zae y x)).getD false=zae xs[posT xs x] x:=fun hp=>by rw[List.getElem?_eq_getElem hp];rfl
    have wU:¬posT xs x<xs.length->(xs[posT xs x]?.map (fun y=>zae y x)).getD false=false:=fun hp=>by rw[List.getElem?_eq_none Mcy];rfl
    generalize posT xs x=a at*;generalize(xs[a]?.map (fun y=>zae y x)).getD false=fnd at*;have i1:=bY.o _ pA;have JR:=pA.size;obtain⟨DN,eJ⟩:=yH2 pA aq;clear aB aq;go_upto_region 8 with fail
    go_cut [43]from 29 to 43 (fun v w4=>v=.bool (!fnd)/\Below WC.heap.size WC w4)
    case first=>
     by_cases jJ:a<xs.length
     ·obtain⟨b2,off2,hA,bs,cx⟩:=(tp.o.keep pA).at jJ;subst hA;have j0:WC.cell? ⟨b2,off2+a,none⟩=some (.string xs[a]):=Md7;have hf:=oD jJ;generalize xs[a]=y at*;have hai:(a:Int)<(xs.length:Int):=Mcy;have oz:(0:Int)<=(a:Int):=Mcy;have JN:((a:Int)==(xs.length:Int))=false:=McD;subst hf;cases hs:zae y x
      ·have bn:(y.toList==x.toList)=false:=hs;clear cx oD wU pA jJ;exact Mak
      ·have bn:(y.toList==x.toList)=true:=hs;clear cx oD wU pA jJ;exact Mak
     ·have JN:((a:Int)==(xs.length:Int))=true:=McD;have hf:=wU jJ;subst hf;clear oD wU pA;exact Mak
    case rest=>
     obtain⟨rfl,hz⟩:=hcut;obtain⟨wr,uf⟩:∃wr,wr=wc:=⟨_,rfl⟩
     subst uf;have eA:Below WR.heap.size WR wr:=DN.o.trans (hz.mono JR);have yq:=eA.size;obtain⟨aJ,dj,vo⟩:=yH3 (HB.o.trans (eA.mono aG)) (HO.o.keep eA) (fun W (h:Below wr.heap.size wr W)=>bY.o W (eA.trans (h.mono yq)));have ya:w.heap.size<=wr.heap.size:=Mcy;clear hz DN HB HO bY pA i1;cases fnd
     ·have aB:Hid (zdf (l.take (k+1))=xs.take a++[x]++xs.drop a):=by show _=_;rw[eJ.o];rfl
      have HB:=aJ;have bY:=vo;have HA:Hid (a<=xs.length):=hp;have eK:Hid ((xs.take a).length=a):=by show _=_;rw[List.length_take];omega
      have pa:Hid (xs.length-a=(xs.drop a).length):=by show _=_;rw[List.length_drop]
      clear eJ aJ vo oD wU;rcases dj.o with⟨he,f9⟩|⟨g,o,cap,cur,he,bB,cy,_,_,_,_⟩
      ·simp only[Value.slice.injEq]at he;obtain⟨rfl,_,rfl⟩:=he;subst f9;have oz:a=0:=MeB;subst oz;let xs:List ByteArray:=[]
       let a:Nat:=0
       have qK:Hid (∀W,Below wr.heap.size wr W->Sl W 1 sC (none:Option Addr) (xs.take a)):=fun W _=>Sl.nil
       have vj:Hid (∀W,Below wr.heap.size wr W->Sl W 1 sC (none:Option Addr) (xs.drop a)):=fun W _=>Sl.nil
       exact Mb
      ·simp only[Value.slice.injEq,true_and]at he;obtain⟨rfl,rfl⟩:=he;have qK:Hid (∀W,Below wr.heap.size wr W->Sl W 1 sC (some ⟨g,o,none⟩) (xs.take a)):=fun W h=>((tp.o.keep eA).take a).keep h
       have oz:(0:Int)<=(a:Int):=Mcy;have tN:(a:Int)<=(xs.length:Int):=Mcy;have zK:(a:Int)<=(vc:Int):=Mcy;by_cases ay:a=vc
       ·have FF:xs.drop a=[]:=List.drop_of_length_le Mcy;have vj:Hid (∀(A:Option Addr) W,Below wr.heap.size wr W->Sl W 1 sC A (xs.drop a)):=fun A W _=>by rw[FF];exact Sl.nil
        clear FF bB cy;subst ay;clear eA dj;go_upto_region 9 with fail
        have i1:=bY.o wr (Below.refl _ _);refine zaB 10 (fun bb w'=>bb=true\/w'.cell? ⟨b,off+k,none⟩=some (.string x)) Mcz (.inr (bY.o _ (zaK (Below.refl _ _)))) ?hrest
        case hrest=>
         intro hHeld;refine TkM 5 ?_;refine TkM 6 ?_;refine TkM 7 ?_;refine TkM 8 ?_;refine TkM 1 ?_;refine TkM 2 ?_;refine TkM 3 ?_;refine FrM 11 false ?_;refine FrM 12 false ?_;refine FrM 13 false ?_;refine TwM 0 9 (fun K hK=>?_) fun K hK=>?_
         ·go_simp
          have e0:Below wr.heap.size wr (wr.drew.alloc (.cells #[] 9)):=zad (zaK (Below.refl _ _)) _;refine NxM hK (fun hHeld=>?_) (.inr (bY.o _ e0));clear hK K;refine TwM 4 9 (fun K hK=>?_) fun K hK=>?_
          ·refine zak (v:=.slice (some ⟨wr.heap.size,0,none⟩) 0 0) (n:=0) (m:=a) rfl _ _ rfl zbB za9 zbA rfl (xs:=[]) (ys:=xs.take a) (zg9 wr.drew wr.heap.size (Nat.le_refl _)) rfl rfl (eK.o.symm) (qK.o _ e0) McI McX McJ ?_;intro v4 w4 h1 h2 h3;rw[List.nil_append]at h1;obtain⟨V4,c4,aX,_,_⟩:=h1.sl za9;rw[eK.o]at aX;subst aX;have aC:Below wr.heap.size wr w4:=Below.grown e0 h2 Mdv (fun j hj=>by simp[za5]at hj;omega);refine NxM hK (fun hHeld=>?_) (.inr (bY.o _ aC));clear hK K;refine OnM 9 false fun K hK=>?_
           go_simp
           have e1:Below wr.heap.size wr (w4.alloc (.cells #[.string x] 9)):=zad aC _;have n1:(w4.alloc (.cells #[.string x] 9)).heap[w4.heap.size]?=some (.cells #[.string x] 9):=zar _ _ _ rfl;have o1:OwnS (w4.alloc (.cells #[.string x] 9)) wr.heap.size 9 1 sC (.slice V4 a c4) (xs.take a):=h1.keep (n:=w4.heap.size) (zad (Below.refl _ _) _);refine NxM hK (fun hHeld=>?_) (.inr (bY.o _ e1));clear hK K;refine OnM 10 true fun K hK=>?_
           refine zak (v:=.slice V4 a c4) (n:=a) (m:=1) rfl _ _ rfl zbB za9 zbA rfl (xs:=xs.take a) (ys:=[x]) (o1) eK.o rfl rfl (zfQ n1) McI McX McF ?_;intro v5 w5 g1 g2 g3;obtain⟨A5,c5,dY,_,_⟩:=g1.sl za9;rw[List.length_append,eK.o]at dY;subst dY;have ao:Below wr.heap.size wr w5:=Below.grown e1 g2 McU (fun j hj=>((o1).ge j hj).1);refine NxM hK fun hHeld=>?_
           clear hK K;refine OnM 14 true fun K hK=>?_
           refine zak (v:=.slice A5 (a+[x].length) c5) (n:=a+[x].length) (m:=0) rfl _ _ rfl zbB za9 zbA rfl (xs:=xs.take a++[x]) (ys:=xs.drop a) g1 Mep rfl (by rw[<-pa.o];omega) (vj.o _ w5 ao) McW Mc1 (by have:=ao.size;omega) ?_;exact Mi
          ·go_simp
           have e1:Below wr.heap.size wr ((wr.drew.alloc (.cells #[] 9)).alloc (.cells #[.string x] 9)):=zad e0 _;have n1:((wr.drew.alloc (.cells #[] 9)).alloc (.cells #[.string x] 9)).heap[wr.heap.size+1]?=some (.cells #[.string x] 9):=zar _ _ _ McB;have m1:OwnS ((wr.drew.alloc (.cells #[] 9)).alloc (.cells #[.string x] 9)) wr.heap.size 9 1 sC (.slice (some ⟨wr.heap.size,0,none⟩) 0 0) []:=(zg9 wr.drew wr.heap.size (Nat.le_refl _)).keep (n:=(wr.drew.alloc (.cells #[] 9)).heap.size) (zad (Below.refl _ _) _);refine NxM hK (fun hHeld=>?_) (.inr (bY.o _ e1));clear hK K;refine OnM 4 false fun K hK=>?_
           refine zak (v:=.slice (some ⟨wr.heap.size,0,none⟩) 0 0) (n:=0) (m:=a) rfl _ _ rfl zbB za9 zbA rfl (xs:=[]) (ys:=xs.take a) (m1) rfl rfl (eK.o.symm) (qK.o _ e1) McI McX McF ?_;intro v4 w4 h1 h2 h3;rw[List.nil_append]at h1;obtain⟨V4,c4,aX,_,_⟩:=h1.sl za9;rw[eK.o]at aX;subst aX;have aC:Below wr.heap.size wr w4:=Below.grown e1 h2 McU (fun j hj=>by simp[za5]at hj;omega);have n2:w4.heap[wr.heap.size+1]?=some (.cells #[.string x] 9):=(h2.block _ McP Mdn).trans n1;exact Mb4
         ·go_simp
          have e0:Below wr.heap.size wr (wr.drew.alloc (.cells #[.string x] 9)):=zad (zaK (Below.refl _ _)) _;have n0:(wr.drew.alloc (.cells #[.string x] 9)).heap[wr.heap.size]?=some (.cells #[.string x] 9):=zar _ _ _ rfl;refine NxM hK (fun hHeld=>?_) (.inr (bY.o _ e0));clear hK K;refine OnM 0 false fun K hK=>?_
          go_simp
          have e1:Below wr.heap.size wr ((wr.drew.alloc (.cells #[.string x] 9)).alloc (.cells #[] 9)):=zad e0 _;have n1:((wr.drew.alloc (.cells #[.string x] 9)).alloc (.cells #[] 9)).heap[wr.heap.size]?=some (.cells #[.string x] 9):=zal n0;refine NxM hK (fun hHeld=>?_) (.inr (bY.o _ e1));clear hK K;refine OnM 4 false fun K hK=>?_
          have m1:OwnS ((wr.drew.alloc (.cells #[.string x] 9)).alloc (.cells #[] 9)) wr.heap.size 9 1 sC (.slice (some ⟨wr.heap.size+1,0,none⟩) 0 0) []:=by
           exact Mcp
          refine zak (v:=.slice (some ⟨wr.heap.size+1,0,none⟩) 0 0) (n:=0) (m:=a) rfl _ _ rfl zbB za9 zbA rfl (xs:=[]) (ys:=xs.take a) (m1) rfl rfl (eK.o.symm) (qK.o _ e1) McI McX McF ?_;intro v4 w4 h1 h2 h3;rw[List.nil_append]at h1;obtain⟨V4,c4,aX,_,_⟩:=h1.sl za9;rw[eK.o]at aX;subst aX;have aC:Below wr.heap.size wr w4:=Below.grown e1 h2 McU (fun j hj=>by simp[za5]at hj;omega);have n2:w4.heap[wr.heap.size]?=some (.cells #[.string x] 9):=(h2.block _ McP Mdn).trans n1;exact Mb4
       ·have vj:Hid (∀W,Below wr.heap.size wr W->Sl W 1 sC (some ⟨g,o+a,none⟩) (xs.drop a)):=fun W h=>(sl_from (tp.o.keep eA) a).keep h
        have Fy:¬vc=a:=fun h=>ay h.symm
        clear bB cy;exact Mb
     ·have aB:Hid (zdf (l.take (k+1))=xs):=by show _=_;rw[eJ.o];rfl
      go_wp2_with fail
      go_round
      case rel=>exact⟨k+1,ak.o,by go_num,by rw[aB.o];exact dj.o,aJ.o⟩
      case measure=>have:=ak.o;simp only[intOf];omega
  ·exact MaL

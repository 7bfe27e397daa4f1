import Derived.Test.YtogklihlgindkaaGreatDoorWV
import Derived.Test.YtogklihlgindkaaGreatDoorUF
set_option linter.all false
set_option maxRecDepth 100000
set_option maxHeartbeats 4000000
namespace Go.Proofs.YtogklihlgindkaaGreatDoor
open Go.RowKit Go.Shelf
attribute [local go_sem] World.cell?_alloc_mark zaf za3 zam za6 zat zau zav zaw zax zay zaz
attribute [local go_sem] zao zac
def posT(out:List ByteArray)(x:ByteArray):Nat:=(out.takeWhile λy=>zbn y x).length
def insT(out:List ByteArray)(x:ByteArray):List ByteArray:=if(out[posT out x]?.map (λy=>zae y x)).getD false then out else out.take (posT out x)++[x]++out.drop (posT out x)
def zdh(l:List ByteArray):List ByteArray:=l.foldl insT []
def posT_le(out:List ByteArray)(x:ByteArray):posT out x<=out.length:=by
 unfold posT;exact(List.takeWhile_sublist _).length_le
variable{out:List ByteArray}{x:ByteArray}{j:Nat}
def posT_step(h:j<out.length)(hl:zbn out[j] x=true):posT (out.drop j) x=1+posT (out.drop (j+1)) x:=by
 unfold posT;rw[List.drop_eq_getElem_cons h,List.takeWhile_cons,if_pos hl,List.length_cons];omega
def posT_stop(h:j<out.length)(hl:zbn out[j] x=false):posT (out.drop j) x=0:=by
 unfold posT;rw[List.drop_eq_getElem_cons h,List.takeWhile_cons,if_neg (by simp[hl])];rfl
def posT_end(h:¬j<out.length):posT (out.drop j) x=0:=by
 unfold posT;rw[List.drop_of_length_le McS];rfl
def insT_len(out:List ByteArray)(x:ByteArray):(insT out x).length<=out.length+1:=by
 unfold insT;split
 ·omega
 ·simp only[List.length_append,List.length_take,List.length_drop,List.length_singleton];have:=posT_le out x;omega
variable{l:List ByteArray}
def zmt{k:Nat}(h:k<l.length):zdh (l.take (k+1))=insT (zdh (l.take k)) l[k]:=by
 unfold zdh;rw[List.take_add_one,List.getElem?_eq_getElem h,List.foldl_append];rfl
def zjd(l:List ByteArray):(zdh l).length<=l.length:=by
 have h:∀(l out:List ByteArray),(l.foldl insT out).length<=out.length+l.length:=by
  intro l;induction l with
  |nil=>intro out;simp
  |cons x l ih=>
   intro out;have h1:=ih (insT out x);have h2:=insT_len out x;rw[List.foldl_cons,List.length_cons];omega
 simpa[zdh]using h l []
variable{y:ByteArray}
def mem_insT:y∈insT out x↔y∈out\/y=x:=by
 unfold insT;split
 ·rename_i h
  refine⟨.inl,λh1=>h1.elim id λe=>?_⟩;subst e;cases hg:out[posT out y]? with
  |none=>rw[hg]at h;cases h
  |some z=>
   rw[hg]at h;have hz:z=y:=za2.1 MdG;rw[<-hz];exact List.mem_of_getElem? hg
 ·have e:out.take (posT out x)++out.drop (posT out x)=out:=List.take_append_drop _ _;constructor
  ·intro h;simp only[List.mem_append,List.mem_singleton]at h;rcases h with(h|h)|h
   ·exact .inl (List.mem_of_mem_take h)
   ·exact .inr h
   ·exact .inl (List.mem_of_mem_drop h)
  ·rintro(h|h)
   ·rw[<-e]at h;simp only[List.mem_append,List.mem_singleton]at h⊢;rcases h with h|h
    ·exact .inl (.inl h)
    ·exact .inr h
   ·subst h;simp
def zn9:y∈zdh l↔y∈l:=by
 have h:∀(l out:List ByteArray),y∈l.foldl insT out↔y∈out\/y∈l:=by
  intro l;induction l with
  |nil=>intro out;simp
  |cons x l ih=>
   intro out;rw[List.foldl_cons,ih,mem_insT,List.mem_cons,or_assoc]
 rw[zdh,h];simp
def AscT(l:List ByteArray):Prop:=l.Pairwise λa b=>zbn a b=true
def zmu{x:ByteArray}:∀ {out:List ByteArray},∀y∈out.take (posT out x),zbn y x=true
 | [],y,h=>by simp at h
 |z::out,y,h=>by
  unfold posT at h;rw[List.takeWhile_cons]at h;split at h
  ·rename_i hz
   rw[List.length_cons,List.take_succ_cons,List.mem_cons]at h;rcases h with rfl|h
   ·exact hz
   ·exact zmu y h
  ·simp at h
def zmv{x:ByteArray}:∀ {out:List ByteArray},AscT out->(out[posT out x]?.map (λy=>zae y x)).getD false=false->∀y∈out.drop (posT out x),zbn x y=true
 | [],_,_,y,h=>by simp at h
 |z::out,ha,hn,y,h=>by
  have lE:=List.pairwise_cons.1 ha;unfold posT at h hn;rw[List.takeWhile_cons]at h hn;split at h
  ·rename_i hz
   rw[if_pos hz]at hn;rw[List.length_cons,List.drop_succ_cons]at h;rw[List.length_cons,List.getElem?_cons_succ]at hn;exact zmv lE.2 hn y h
  ·rename_i hz
   rw[if_neg hz]at hn;have nM:zae z x=false:=by simpa using hn
   have It:zbn x z=true:=by
    rcases zdx z x with k|k|k
    ·exact absurd k hz
    ·exact absurd (za2.2 k) (by rw[nM];simp)
    ·exact k
   rw[List.length_nil,List.drop_zero,List.mem_cons]at h;rcases h with rfl|h
   ·exact It
   ·exact zb5 It (lE.1 y h)
def insT_asc(h:AscT out):AscT (insT out x):=by
 unfold insT;split
 ·exact h
 ·rename_i hn
  have hd:=zmv h (by simpa using hn);have ht:=zmu (x:=x) (out:=out);unfold AscT;rw[List.append_assoc,List.pairwise_append];refine⟨List.Pairwise.sublist (List.take_sublist _ _) h,?_,λa ha b hb=>?_⟩
  ·rw[List.singleton_append,List.pairwise_cons];exact⟨hd,List.Pairwise.sublist (List.drop_sublist _ _) h⟩
  ·rw[List.singleton_append,List.mem_cons]at hb;rcases hb with rfl|hb
   ·exact ht a ha
   ·exact zb5 (ht a ha) (hd b hb)
def znA(l:List ByteArray):AscT (zdh l):=by
 have h:∀(l out:List ByteArray),AscT out->AscT (l.foldl insT out):=by
  intro l;induction l with
  |nil=>intro out ho;exact ho
  |cons x l ih=>intro out ho;exact ih _ (insT_asc ho)
 exact h l [] List.Pairwise.nil
def sl_from{w:World}{b off:Nat}{xs:List ByteArray}(h:Sl w 1 sC (some ⟨b,off,none⟩) xs)(k:Nat):Sl w 1 sC (some ⟨b,off+k,none⟩) (xs.drop k):=λhl=>by
 rw[List.length_drop]at hl;obtain⟨b',off',hA,hb,hc⟩:=h McS;simp only[Option.some.injEq,Addr.mk.injEq,and_true]at hA;obtain⟨rfl,rfl⟩:=hA;refine⟨b,off+k,rfl,hb,λj x hx u v hu=>?_⟩;rw[List.getElem?_drop]at hx;have:=hc (k+j) x hx u v hu;rw[<-this];congr 2
 omega
def zgG(W:World)(base:Nat)(h:base<=W.heap.size):OwnS (W.alloc (.cells #[] 9)) base 9 1 sC (.slice (some ⟨W.heap.size,0,none⟩) 0 0) []:=
 OwnS.of_own zaB (World.ownsRow_made W #[] 0 h (Nat.zero_le _) McV)
def znB(l:List ByteArray)(A:Option Addr)(c:Nat)(w:World)(hl:l.length<=100000)(hS:Sl w 1 sC A l):Calls Tryz.prog 186 #[.slice A l.length c] w (zd2 w (zdh l)):=by
 have HS:=zHi hS;unfold zd2;clear hS;go_enter Tryz.func186,Tryz.ntmps186
 go_upto_region 3 with fail
 go_loopw [3,4,5] (λv i _ wr=>∃k:Nat,k<=l.length/\i=.int .i64 k/\OwnS wr w.heap.size 9 1 sC v (zdh (l.take k))/\Qa w wr) (λ_ i _ _=>l.length-(intOf i).toNat)
 case atStart=>exact⟨0,Nat.zero_le _,rfl,OwnS.nil,Qb⟩
 case round=>
  obtain⟨k,hk,rfl,aa,hB⟩:=hrel;obtain⟨WR,kI⟩:=Qd wr
  subst kI;have aM:=hB.size;obtain⟨HO,HB⟩:=yH2 aa hB;by_cases ae:k<l.length
  ·have aq:=zmt ae;have bx:=Nat.le_trans (zjd (l.take k)) (by rw[List.length_take];omega:(l.take k).length<=k);generalize zdh (l.take k)=xs at*;obtain⟨VA,vc,rfl,fk,gu⟩:=aa.sl zaB;have jg:=(HS.o.keep hB).at ae;have aj:=zHi ae;generalize l[k]=x at*;obtain⟨b,off,rfl,hb,ah⟩:=jg;have i0:WR.cell? ⟨b,off+k,none⟩=some (.string x):=Mdk;have au:(k:Int)<(l.length:Int):=McS;have aR:(0:Int)<=(k:Int):=McS;have dw:Hid (xs.length<=100000):=by show _<=_;omega
   obtain⟨bZ,kg⟩:=yH2 (λ(W:World) (h:Qa WR W)=>(show W.cell? ⟨b,off+k,none⟩=some (.string x) from(zai h hb).trans i0)) fk;have hp:=posT_le xs x;have aK:=zHi aq;clear ah ae aa hB bx fk aq i0;go_upto_block 2 with fail
   go_cut [5]from 12 to 28 (λv wc=>v=.int .i64 (posT xs x:Nat)/\Qa WR wc)
   case first=>
    go_wp2_with fail
    go_loopw [5] (λv6 wr=>∃j:Nat,j<=xs.length/\v6=.int .i64 j/\Hid (posT xs x=j+posT (xs.drop j) x)/\Qa WR wr) (λv6 _=>xs.length-(intOf v6).toNat)
    case atStart=>exact⟨0,Nat.zero_le _,rfl,zHi McV,Qb⟩
    case round=>
     obtain⟨j,hj,rfl,HP,gU⟩:=hrel;have fQ:=zHi gU;have hj9:j<=100000:=Mdw;have i1:=bZ.o _ gU;by_cases cO:j<xs.length
     ·obtain⟨b2,off2,hA,bM,cD⟩:=(kg.o.keep gU).at cO;subst hA;have j0:wr.cell? ⟨b2,off2+j,none⟩=some (.string xs[j]):=Mer;have eG:=posT_step (x:=x) cO;have Ey:=posT_stop (x:=x) cO;have Fk:=zHi cO;generalize xs[j]=y at*;have cd:(j:Int)<(xs.length:Int):=McS;have oh:(0:Int)<=(j:Int):=McS;cases jg:zbn y x
      ·have lO:Op.bytesLess y.toList x.toList=false:=jg;have jZ:Hid (posT xs x=j):=by show _=_;have:=HP.o;rw[Ey jg]at this;simpa using this
       clear cD eG Ey gU cO jg;exact Mbi
      ·have lO:Op.bytesLess y.toList x.toList=true:=jg;have jZ:Hid (posT xs x=j+1+posT (xs.drop (j+1)) x):=by show _=_;have:=HP.o;rw[eG jg]at this;omega
       clear cD eG Ey gU cO jg;go_upto_region 6 with fail
       go_quiet (fail)
       go_wp2_with fail
       go_round
       case rel=>exact⟨j+1,Fk.o,by go_num,jZ,zcD fQ.o _⟩
       case measure=>have:=Fk.o;simp only[intOf];omega
     ·have cd:¬(j:Int)<(xs.length:Int):=McS;have jZ:Hid (posT xs x=j):=by show _=_;have:=HP.o;rw[posT_end cO]at this;simpa using this
      clear gU;exact Mbi
   case rest=>
    obtain⟨rfl,q8⟩:=hcut;obtain⟨WC,qd⟩:=Qd wc
    subst qd;have aq:=aK.o;unfold insT at aq;have oZ:∀hp:posT xs x<xs.length,(xs[posT xs x]?.map (λy=>zae y x)).getD false=zae xs[posT xs x] x:=λhp=>by rw[List.getElem?_eq_getElem hp];rfl
    have xF:¬posT xs x<xs.length->(xs[posT xs x]?.map (λy=>zae y x)).getD false=false:=λhp=>by rw[List.getElem?_eq_none McS];rfl
    generalize posT xs x=a at*;generalize(xs[a]?.map (λy=>zae y x)).getD false=fnd at*;have i1:=bZ.o _ q8;have DC:=q8.size;obtain⟨F6,f9⟩:=yH2 q8 aq;clear aK aq;go_upto_region 8 with fail
    go_cut [43]from 29 to 43 (λv w4=>v=.bool (!fnd)/\Qa WC w4)
    case first=>
     by_cases fV:a<xs.length
     ·obtain⟨b2,off2,hA,bM,cD⟩:=(kg.o.keep q8).at fV;subst hA;have j0:WC.cell? ⟨b2,off2+a,none⟩=some (.string xs[a]):=Mer;have hf:=oZ fV;generalize xs[a]=y at*;have hai:(a:Int)<(xs.length:Int):=McS;have oV:(0:Int)<=(a:Int):=McS;have KJ:((a:Int)==(xs.length:Int))=false:=McX;subst hf;cases hs:zae y x
      ·have bi:(y.toList==x.toList)=false:=hs;clear cD oZ xF q8 fV;exact Maw
      ·have bi:(y.toList==x.toList)=true:=hs;clear cD oZ xF q8 fV;exact Maw
     ·have KJ:((a:Int)==(xs.length:Int))=true:=McX;have hf:=xF fV;subst hf;clear oZ xF q8;exact Maw
    case rest=>
     obtain⟨rfl,hz⟩:=hcut;obtain⟨wr,uO⟩:=Qd wc
     subst uO;have eO:Qa WR wr:=F6.o.trans (hz.mono DC);have zp:=eO.size;obtain⟨aN,cT,wb⟩:=yH3 (HB.o.trans (eO.mono aM)) (HO.o.keep eO) (λW (h:Qa wr W)=>bZ.o W (eO.trans (h.mono zp)));have zd:w.heap.size<=wr.heap.size:=McS;clear hz F6 HB HO bZ q8 i1;cases fnd
     ·have aK:Hid (zdh (l.take (k+1))=xs.take a++[x]++xs.drop a):=by show _=_;rw[f9.o];rfl
      have HB:=aN;have bZ:=wb;have HA:Hid (a<=xs.length):=hp;have fe:Hid ((xs.take a).length=a):=by show _=_;rw[List.length_take];omega
      have pP:Hid (xs.length-a=(xs.drop a).length):=by show _=_;rw[List.length_drop]
      clear f9 aN wb oZ xF;rcases cT.o with⟨he,eH⟩|⟨g,o,cap,cur,he,bX,cj,_,_,_,_⟩
      ·simp only[Value.slice.injEq]at he;obtain⟨rfl,_,rfl⟩:=he;subst eH;have oV:a=0:=by simpa using hp
       subst oV;let xs:List ByteArray:=[]
       let a:Nat:=0
       have rE:Hid (∀W,Qa wr W->Sl W 1 sC (none:Option Addr) (xs.take a)):=λW _=>Sl.nil
       have rB:Hid (∀W,Qa wr W->Sl W 1 sC (none:Option Addr) (xs.drop a)):=λW _=>Sl.nil
       exact Mb
      ·simp only[Value.slice.injEq,true_and]at he;obtain⟨rfl,rfl⟩:=he;have rE:Hid (∀W,Qa wr W->Sl W 1 sC (some ⟨g,o,none⟩) (xs.take a)):=λW h=>((kg.o.keep eO).take a).keep h
       have oV:(0:Int)<=(a:Int):=McS;have oW:(a:Int)<=(xs.length:Int):=McS;have AM:(a:Int)<=(vc:Int):=McS;by_cases aA:a=vc
       ·have xA:xs.drop a=[]:=List.drop_of_length_le McS;have rB:Hid (∀(A:Option Addr) W,Qa wr W->Sl W 1 sC A (xs.drop a)):=λA W _=>by rw[xA];exact Sl.nil
        clear xA bX cj;subst aA;clear eO cT;go_upto_region 9 with fail
        have i1:=bZ.o wr Qb;refine za9 10 (λbb w'=>bb=true\/w'.cell? ⟨b,off+k,none⟩=some (.string x)) McT (.inr (bZ.o _ (zaF Qb))) ?hrest
        case hrest=>
         intro hHeld;refine TkM 5 ?_;refine TkM 6 ?_;refine TkM 7 ?_;refine TkM 8 ?_;refine TkM 1 ?_;refine TkM 2 ?_;refine TkM 3 ?_;refine FrM 11 false ?_;refine FrM 12 false ?_;refine FrM 13 false ?_;refine TwM 0 9 (λK hK=>?_) λK hK=>?_
         ·go_simp
          have e0:Qa wr (wr.drew.alloc (.cells #[] 9)):=zad (zaF Qb) _;refine NxM hK (λhHeld=>?_) (.inr (bZ.o _ e0));clear hK K;refine TwM 4 9 (λK hK=>?_) λK hK=>?_
          ·refine zap (v:=.slice (some ⟨wr.heap.size,0,none⟩) 0 0) (n:=0) (m:=a) rfl _ _ rfl zbL zaB zbK rfl (xs:=[]) (ys:=xs.take a) (zgG wr.drew wr.heap.size Qc) rfl rfl (fe.o.symm) (rE.o _ e0) Mc3 Mdi Mc4 ?_;intro v4 w4 h1 h2 h3;rw[List.nil_append]at h1;obtain⟨V4,c4,be,_,_⟩:=h1.sl zaB;rw[fe.o]at be;subst be;have aB:Qa wr w4:=Below.grown e0 h2 MdP (λj hj=>by simp[za4]at hj;omega);refine NxM hK (λhHeld=>?_) (.inr (bZ.o _ aB));clear hK K;refine OnM 9 false λK hK=>?_
           go_simp
           have e1:Qa wr (w4.alloc (.cells #[.string x] 9)):=zad aB _;have n1:(w4.alloc (.cells #[.string x] 9)).heap[w4.heap.size]?=some (.cells #[.string x] 9):=zas _ _ _ rfl;have o1:OwnS (w4.alloc (.cells #[.string x] 9)) wr.heap.size 9 1 sC (.slice V4 a c4) (xs.take a):=h1.keep (n:=w4.heap.size) (zad Qb _);refine NxM hK (λhHeld=>?_) (.inr (bZ.o _ e1));clear hK K;refine OnM 10 true λK hK=>?_
           refine zap (v:=.slice V4 a c4) (n:=a) (m:=1) rfl _ _ rfl zbL zaB zbK rfl (xs:=xs.take a) (ys:=[x]) (o1) fe.o rfl rfl (zfW n1) Mc3 Mdi McZ ?_;intro v5 w5 g1 g2 g3;obtain⟨A5,c5,eu,_,_⟩:=g1.sl zaB;rw[List.length_append,fe.o]at eu;subst eu;have ar:Qa wr w5:=Below.grown e1 g2 Mde (λj hj=>((o1).ge j hj).1);refine NxM hK λhHeld=>?_
           clear hK K;refine OnM 14 true λK hK=>?_
           refine zap (v:=.slice A5 (a+[x].length) c5) (n:=a+[x].length) (m:=0) rfl _ _ rfl zbL zaB zbK rfl (xs:=xs.take a++[x]) (ys:=xs.drop a) g1 MeM rfl (by rw[<-pP.o];omega) (rB.o _ w5 ar) Mdh Mdm (by have:=ar.size;omega) ?_;exact Mi
          ·go_simp
           have e1:Qa wr ((wr.drew.alloc (.cells #[] 9)).alloc (.cells #[.string x] 9)):=zad e0 _;have n1:((wr.drew.alloc (.cells #[] 9)).alloc (.cells #[.string x] 9)).heap[wr.heap.size+1]?=some (.cells #[.string x] 9):=zas _ _ _ McV;have m1:OwnS ((wr.drew.alloc (.cells #[] 9)).alloc (.cells #[.string x] 9)) wr.heap.size 9 1 sC (.slice (some ⟨wr.heap.size,0,none⟩) 0 0) []:=(zgG wr.drew wr.heap.size Qc).keep (n:=(wr.drew.alloc (.cells #[] 9)).heap.size) (zad Qb _);refine NxM hK (λhHeld=>?_) (.inr (bZ.o _ e1));clear hK K;refine OnM 4 false λK hK=>?_
           refine zap (v:=.slice (some ⟨wr.heap.size,0,none⟩) 0 0) (n:=0) (m:=a) rfl _ _ rfl zbL zaB zbK rfl (xs:=[]) (ys:=xs.take a) (m1) rfl rfl (fe.o.symm) (rE.o _ e1) Mc3 Mdi McZ ?_;intro v4 w4 h1 h2 h3;rw[List.nil_append]at h1;obtain⟨V4,c4,be,_,_⟩:=h1.sl zaB;rw[fe.o]at be;subst be;have aB:Qa wr w4:=Below.grown e1 h2 Mde (λj hj=>by simp[za4]at hj;omega);have n2:w4.heap[wr.heap.size+1]?=some (.cells #[.string x] 9):=(h2.block _ Mda MdI).trans n1;exact Mcg
         ·go_simp
          have e0:Qa wr (wr.drew.alloc (.cells #[.string x] 9)):=zad (zaF Qb) _;have n0:(wr.drew.alloc (.cells #[.string x] 9)).heap[wr.heap.size]?=some (.cells #[.string x] 9):=zas _ _ _ rfl;refine NxM hK (λhHeld=>?_) (.inr (bZ.o _ e0));clear hK K;refine OnM 0 false λK hK=>?_
          go_simp
          have e1:Qa wr ((wr.drew.alloc (.cells #[.string x] 9)).alloc (.cells #[] 9)):=zad e0 _;have n1:((wr.drew.alloc (.cells #[.string x] 9)).alloc (.cells #[] 9)).heap[wr.heap.size]?=some (.cells #[.string x] 9):=zal n0;refine NxM hK (λhHeld=>?_) (.inr (bZ.o _ e1));clear hK K;refine OnM 4 false λK hK=>?_
          have m1:OwnS ((wr.drew.alloc (.cells #[.string x] 9)).alloc (.cells #[] 9)) wr.heap.size 9 1 sC (.slice (some ⟨wr.heap.size+1,0,none⟩) 0 0) []:=by
           exact McG
          refine zap (v:=.slice (some ⟨wr.heap.size+1,0,none⟩) 0 0) (n:=0) (m:=a) rfl _ _ rfl zbL zaB zbK rfl (xs:=[]) (ys:=xs.take a) (m1) rfl rfl (fe.o.symm) (rE.o _ e1) Mc3 Mdi McZ ?_;intro v4 w4 h1 h2 h3;rw[List.nil_append]at h1;obtain⟨V4,c4,be,_,_⟩:=h1.sl zaB;rw[fe.o]at be;subst be;have aB:Qa wr w4:=Below.grown e1 h2 Mde (λj hj=>by simp[za4]at hj;omega);have n2:w4.heap[wr.heap.size]?=some (.cells #[.string x] 9):=(h2.block _ Mda MdI).trans n1;exact Mcg
       ·have rB:Hid (∀W,Qa wr W->Sl W 1 sC (some ⟨g,o+a,none⟩) (xs.drop a)):=λW h=>(sl_from (kg.o.keep eO) a).keep h
        have GY:¬vc=a:=λh=>aA h.symm
        clear bX cj;exact Mb
     ·have aK:Hid (zdh (l.take (k+1))=xs):=by show _=_;rw[f9.o];rfl
      go_wp2_with fail
      go_round
      case rel=>exact⟨k+1,aj.o,by go_num,by rw[aK.o];exact cT.o,aN.o⟩
      case measure=>have:=aj.o;simp only[intOf];omega
  ·exact Ma2

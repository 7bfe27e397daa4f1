import Derived.Test.YtcfheecahnnhjaaGreatDoorRM
import Derived.Test.YtcfheecahnnhjaaGreatDoorE5
import Derived.Test.YtcfheecahnnhjaaGreatDoorE1
import Derived.Shelf.SlLaysNS
set_option linter.all false
set_option maxRecDepth 100000
set_option maxHeartbeats 4000000
namespace Go.Proofs.YtcfheecahnnhjaaGreatDoor
open Go.RowKit
attribute [local go_sem] World.cell?_alloc_mark zag za4 zar zaB zaw zax zay zaz za0 za1 za2
section
open Go.Shelf
attribute [local go_sem] zas zad
end
section
open Go.Shelf
attribute [local go_sem] zas zad
def zng(W:World)(base b:Nat)(l:List Rec):Prop:=
 ∃m,MapS W b ekS (fun v:Value=>v) m/\(∀n,RowIs W base m n (parR l n))/\(zaW m).Nodup/\(m.map (·.1)).Nodup
theorem par_keep{W W':World}{base b n:Nat}{l:List Rec}(h:zng W base b l)(hB:Below n W W')(hn:W.heap.size<=n:=by first|exact Nat.le_refl _|omega):zng W' base b l:=by
 obtain⟨m,h1,h2,h3,h4⟩:=h;exact⟨m,h1.below hB hn,fun x=>(h2 x).keep hB hn,h3,h4⟩
theorem par_new(w:World)(base:Nat):zng (w.alloc (.map #[] 0)) base w.heap.size []:=
 ⟨[],MapS.new w,fun n=> .inl ⟨rfl,rfl⟩,by simp[zaW],by simp⟩
theorem par_put{base b:Nat}{W w9:World}{m:List (ByteArray×Value)}{l:List Rec}{x:Rec}{va v1:Value}(hk:x.kind=2)
 (k1:MapS W b ekS (fun v:Value=>v) m)(k3:∀n,RowIs W base m n (parR l n))(k5:(zaW m).Nodup)(k6:(m.map (·.1)).Nodup)
 (ha:OwnS W base 9 1 sC va (parR l x.name))(jb:∀g,za5 va=some g->mget eqS x.name m=some va)
 (o1:OwnS w9 base 9 1 sC v1 (parR l x.name++[x.other]))(b1:∀g,za5 v1=some g->za5 va=some g\/W.heap.size<=g)
 (m1:MapS w9 b ekS (fun v:Value=>v) (mput eqS x.name v1 m))(hF:∀k,k<W.heap.size->k≠b->za5 va≠some k->w9.heap[k]?=W.heap[k]?):zng w9 base b (l++[x]):=by
 obtain⟨ec,cc,hc⟩:=zbo k1;refine⟨_,m1,fun n=>?_,?_,(zfm _ _ _ k6).1⟩
 ·unfold RowIs;rw[ze0];cases hn:zae n x.name
  ·rw[zoJ hn];simp only[Bool.false_eq_true,if_false];rcases k3 n with h|⟨v,h1,h2⟩
   ·exact .inl h
   ·refine .inr ⟨v,h1,h2.same fun g cur hg hh=>hF g (zab hh) (fun e=>by subst e;rw[hc]at hh;simp at hh) (fun e=>?_)⟩;exact zf9 hn k5 h1 (jb g e) hg e
  ·have e:=zap.1 hn;subst e;rw[parR_put hk];exact .inr ⟨v1,rfl,o1⟩
 ·refine(zhP (k:=x.name) (v:=v1) k5 (fun g hg=>?_)).1;rcases b1 g hg with h|h
  ·exact .inl ⟨va,jb g h,h⟩
  ·refine .inr fun hm=>?_
   obtain⟨e,he,eV⟩:=zcN.1 hm;have h1:=zg0 k6 (show(e.1,e.2)∈m from he);rcases k3 e.1 with⟨h2,_⟩|⟨v,h2,h3⟩
   ·rw[h2]at h1;cases h1
   ·exact Mbs
open Classical in
end
section
open Go.Shelf
attribute [local go_sem] zas zad
end
def nAnn:ByteArray:=⟨#[97,110,110]⟩
def nBob:ByteArray:=⟨#[98,111,98]⟩
def nCat:ByteArray:=⟨#[99,97,116]⟩
def nDan:ByteArray:=⟨#[100,97,110]⟩
def nA1:ByteArray:=⟨#[97,49]⟩
def n0:ByteArray:=⟨#[]⟩
def zcp:List Law:=[⟨0,false,1,4⟩,⟨50000,true,1,2⟩]
def famD(k:Nat):Deed:=match k with
 |0=>⟨6,0,n0,nAnn,[⟨nBob,0,0⟩],0,0⟩
 |1=>⟨6,0,n0,nAnn,[⟨nCat,0,0⟩],0,0⟩
 |2=>⟨7,0,n0,nAnn,[⟨nDan,0,0⟩],0,0⟩
 |3=>⟨0,100,nA1,n0,[⟨nAnn,1,1⟩],1,0⟩
 |_=>⟨8,200,n0,nAnn,[],0,0⟩
def zbL:List Deed:=[famD 0,famD 1,famD 2,famD 3,famD 4]
def fam1:St:=⟨[(nAnn,nBob)],[],[],[],[],[]⟩
def fam2:St:=⟨[(nAnn,nBob),(nAnn,nCat)],[],[],[],[],[]⟩
def fam3:St:=⟨[(nAnn,nBob),(nAnn,nCat)],[(nAnn,nDan)],[],[],[],[]⟩
def fam4:St:=⟨[(nAnn,nBob),(nAnn,nCat)],[(nAnn,nDan)],[],[],[],[⟨nA1,1,-1,[(nAnn,1)],[]⟩]⟩
def zgB:Parts:=[(nBob,Rat.divInt 3 8),(nCat,Rat.divInt 3 8),(nDan,Rat.divInt 1 4)]
def fam5:St:=⟨[(nAnn,nBob),(nAnn,nCat)],[(nAnn,nDan)],[nAnn],[],[],[⟨nA1,1,-1,zgB,[nAnn]⟩]⟩
theorem fam_laws:zaC zcp=0:=by kernel_rfl
open Classical in
theorem fam_0:zci zcp zb4 0 0 (famD 0)=(fam1,0):=by
 have h1:zaI (famD 0)=0:=Mcv;have h2:¬Desc zb4 (zbi (famD 0)) (famD 0).frm:=zid rfl;unfold zci;rw[h1];show(if(0 != 0)=true then _ else if decide (60<=0)=true then _ else if decide ((0:Int)<0)=true then _ else zcI zb4 (famD 0))=_;unfold zcI;rw[decide_eq_false h2];rfl
open Classical in
theorem fam_1:zci zcp fam1 1 0 (famD 1)=(fam2,0):=by
 have h1:zaI (famD 1)=0:=Mcv;have h2:¬Desc fam1 (zbi (famD 1)) (famD 1).frm:=zid Mcv;unfold zci;rw[h1];show(if(0 != 0)=true then _ else if decide (60<=1)=true then _ else if decide ((0:Int)<0)=true then _ else zcI fam1 (famD 1))=_;unfold zcI;rw[decide_eq_false h2];have e1:(zai fam1 (famD 1).frm).any (zae (zbi (famD 1)))=false:=Mcv;have e2:decide (2<=(zbT fam1 (zbi (famD 1))).length)=false:=Mcv;rw[e1,e2];rfl
theorem fam_2:zci zcp fam2 2 0 (famD 2)=(fam3,0):=by kernel_rfl
theorem fam_3:zci zcp fam3 3 0 (famD 3)=(fam4,0):=by kernel_rfl
theorem fam_4:zci zcp fam4 4 100 (famD 4)=(fam5,0):=by kernel_rfl
theorem zhk(upto:Int)(h:200<=upto):zaQ zcp zbL upto=(fam5,5,0):=by
 have q0:decide ((famD 0).day<=upto)=true:=MdE;have q1:decide ((famD 1).day<=upto)=true:=MdE;have q2:decide ((famD 2).day<=upto)=true:=MdE;have q3:decide ((famD 3).day<=upto)=true:=by show decide ((100:Int)<=upto)=true;simp;omega
 have q4:decide ((famD 4).day<=upto)=true:=by show decide ((200:Int)<=upto)=true;simp;omega
 have z:¬((0:Int) != 0)=true:=Mcw;unfold zaQ zbL;rw[fam_laws,if_neg z];rw[zaY,fam_0,if_neg z,q0,if_pos rfl];show zaY zcp upto _ fam1 fam1 1 0=_;rw[zaY,fam_1,if_neg z,q1,if_pos rfl];show zaY zcp upto _ fam2 fam2 2 0=_;rw[zaY,fam_2,if_neg z,q2,if_pos rfl];show zaY zcp upto _ fam3 fam3 3 0=_;rw[zaY,fam_3,if_neg z,q3,if_pos rfl];show zaY zcp upto _ fam4 fam4 4 100=_;rw[zaY,fam_4,if_neg z,q4,if_pos rfl];rfl
def zfq:List Rec:=[⟨1,nAnn,n0,n0,5,0,0,0⟩,⟨0,nBob,n0,n0,9,0,0,0⟩,⟨0,nAnn,n0,n0,7,0,0,0⟩,⟨3,nAnn,n0,nA1,4,0,1,2⟩,⟨3,nBob,n0,nA1,4,0,2,3⟩]
theorem recs5_ok:zfx zfq=0:=by kernel_rfl
section
open Go.Shelf
attribute [local go_sem] zas zad
theorem zgC{fn:Func}{p q:Tmp}(h:fn.results= #[.cell p 31,.tmp q])(tmps:Array Value)(w:World)(B:Nat)(x0 x1 e:Value)(hp:tmps.getD p undef=.pointer (some ⟨B,0,none⟩))(hq:tmps.getD q undef=e)
 (hx:w.heap[B]?=some (.cells #[x0,x1] 31)):(results fn tmps).run Tryz.prog w=.ok (.tuple #[.agg #[x0,x1],e]) w:=by
 obtain⟨h0,h1⟩:=cF2 hx;clear hx;exact MbE
end
theorem zcR(s:ByteArray)(w:World)(hs:s.size<=100000):
 Calls Tryz.prog 30 #[.string s] w (Ret0 w (.bool (zcE s))):=by
 go_enter Tryz.func30,Tryz.ntmps30
 by_cases h0:s.size=0
 ·have H0:=zHi h0;have h1:(s.size:Int)<1:=Mcu;clear h0;go_wp2_with fail
  go_ret
  exact⟨by simp[zcE,h1],rfl⟩
 have Jh:0<s.size:=Mcu;have hg:(zdu s).getD 0 0=(s[0].toNat:Int):=by simp only[zdu,List.getD_eq_getElem?_getD,List.getElem?_map,Array.getElem?_toList];rw[Array.getElem?_eq_getElem Jh];rfl
 go_wp2_with (first
  |(go_at_call 59;refine(zjO _ _).mono ?_;intro e wq hq;rcases Ret0.bools hq with⟨rfl,⟨hb,rfl⟩|⟨hb,rfl⟩⟩<;>clear hq)
  |(go_at_call 60;refine(zlR _ _).mono ?_;intro e wq hq;rcases Ret0.bools hq with⟨rfl,⟨hb,rfl⟩|⟨hb,rfl⟩⟩<;>clear hq))
 ·have HG:=zHi hg;clear hg;go_loop [3] (fun i=>∃k:Nat,1<=k/\k<=s.size/\i=.int .i64 k/\zjn ((zdu s).drop 1)=zjn ((zdu s).drop k)) (fun i=>s.size-(intOf i).toNat)
  case atStart=>exact⟨1,by omega,by omega,rfl,rfl⟩
  case round=>
   obtain⟨k,fX,hk,rfl,hf⟩:=hrel;by_cases ae:k<s.size
   ·rw[zhX s k ae,show s.data[k]=s[k]from rfl]at hf;have HF:=zHi hf;clear hf;have HL:=zHi ae
    go_wp2_with (first
     |(go_at_call 59;refine(zjO _ _).mono ?_;intro e wq hq;rcases Ret0.bools hq with⟨rfl,⟨hb,rfl⟩|⟨hb,rfl⟩⟩<;>clear hq)
     |(go_at_call 60;refine(zlR _ _).mono ?_;intro e wq hq;rcases Ret0.bools hq with⟨rfl,⟨hb,rfl⟩|⟨hb,rfl⟩⟩<;>clear hq))
    all_goals first
     |(go_round
       case rel=>exact⟨k+1,by omega,by have:=HL.o;omega,by go_num,by rw[HF.o,zjn,if_neg (by simp[*])]⟩
       case measure=>have:=HL.o;simp[intOf];omega)
     |(go_ret
       exact⟨by rw[zcE,HG.o,HF.o,zjn];simp[*],rfl⟩)
   ·have mP:(zdu s).drop k=[]:=List.drop_eq_nil_of_le (by rw[zgL];omega);rw[mP,zjn]at hf;clear mP;have HF:=zHi hf;clear hf;go_wp2_with fail
    go_ret
    exact⟨by rw[zcE,HG.o,HF.o];simp[*],rfl⟩
 ·go_ret
  exact⟨by rw[zcE,hg];simp[*],rfl⟩
 ·go_ret
  exact⟨by rw[zcE,hg];simp[*],rfl⟩
section
open Go.Shelf
attribute [local go_sem] zas zad
theorem zcS(n:Int)(w:World):Calls Tryz.prog 31 #[.int .i64 n] w (Ret0 w (.bool (zbl n))):=by
 go_enter Tryz.func31,Tryz.ntmps31
 exact Man
theorem zh2(a b:Int)(w:World):Calls Tryz.prog 95 #[.agg #[.int .i64 a,.int .i64 b]] w (Ret w (.bool (za8 16 a b))):=by
 go_enter Tryz.func95,Tryz.ntmps95
 by_cases h1:inR b 1 16=true
 ·by_cases h2:inR a 0 b=true
  ·have x1:1<=b/\b<=16:=by simpa[inR]using h1
   have x2:0<=a/\a<=b:=by simpa[inR]using h2
   have g1:a.natAbs<=4611686018427387904:=Mcu;have g2:b.natAbs<=4611686018427387904:=Mcu;obtain⟨G1,G2⟩:=yH2 g1 g2;have hv:za8 16 a b=((Int.gcd a b:Int)==1):=by
    unfold za8;simp only[x1.1,x1.2,x2.1,x2.2,decide_true,Bool.true_and];rw[Bool.eq_iff_iff,beq_iff_eq,beq_iff_eq];omega
   have HV:=zHi hv;clear g1 g2 hv x1 x2
   go_wp2_with (first
    |(go_at_call 61;refine(zc5 _ _ _ _).mono ?_;rintro e wq ⟨rfl,rfl⟩)
    |(go_at_call 122;refine(znG _ _ _ G1.o G2.o).mono ?_;rintro e w1 ⟨rfl,z1,rfl⟩))
   all_goals go_ret
   all_goals exact Ret.of (zaP (by rw[HV.o])) Bw
  ·have hv:za8 16 a b=false:=by
    unfold za8;simp[inR]at h1 h2⊢;omega
   exact MaU
 ·have hv:za8 16 a b=false:=by
   unfold za8;simp[inR]at h1⊢;omega
  exact MaU
def zea(p:RPart):Bool:=za8 16 p.num p.den&&p.num != 0
def sumR:List RPart->Rat->Rat×Bool
 | [],o=>(o,true)
 |p::l,o=>if zea p then sumR l (o+p.rat)else(o,false)
theorem zjW{k:Nat}{o:Rat}(hk:k<=1000)(h:IsN 720720 o)(h0:0<=o)(h1:o<=(k:Rat)):zaJ o:=by
 have hd:=zkp Mcw h;have hn:0<=o.num:=Rat.num_nonneg.2 h0;have h2:=(Rat.le_iff o (k:Rat)).1 h1;have e1:((k:Rat)).num=(k:Int):=Rat.num_natCast k;have e2:((k:Rat)).den=1:=Rat.den_natCast k;rw[e1,e2]at h2;have h3:o.num<=(k:Int)*(o.den:Int):=Meg;have h4:(k:Int)*(o.den:Int)<=1000*720720:=Int.mul_le_mul Mcu Mcu Mcu Mcu;exact⟨by omega,by omega⟩
theorem zok(l:List RPart)(A:Option Addr)(c:Nat)(w:World)(hl:l.length<=1000)(hS:Sl w 3 RPart.cells A l):Calls Tryz.prog 126 #[.slice A l.length c] w (Ret w (.tuple #[zaA (sumR l 0).1,.bool (sumR l 0).2])):=by
 have HS:=zHi hS;obtain⟨R,hR⟩:∃R,R=sumR l 0:=⟨_,rfl⟩
 rw[<-hR];have HR:=zHi hR;clear hS hR;go_enter Tryz.func126,Tryz.ntmps126
 go_upto_region 2 with(go_at_call 34;go_must(refine(zis _).mono ?_);rintro e wq ⟨rfl,z0,rfl⟩)
 obtain⟨OB,jH⟩:∃OB,OB=w.heap.size+1+z0.os.size:=⟨_,rfl⟩
 obtain⟨W0,ak⟩:∃W0,W0=((w.alloc (.cells #[.int .i64 0,.int .i64 0] 31)).ext z0).alloc (.cells #[.int .i64 0,.int .i64 1] 31):=⟨_,rfl⟩
 have b0:W0.heap[w.heap.size]?=some (.cells #[.int .i64 0,.int .i64 0] 31):=by rw[ak];exact zal (zb5 (zaq _ _ _ rfl))
 have b1:W0.heap[OB]?=some (.cells #[.int .i64 0,.int .i64 1] 31):=by rw[ak];exact zaq _ _ _ (by rw[jH];simp[zag])
 have aE:Below w.heap.size w W0:=Mc5;rw[<-ak,<-jH];have aj:=zHi aE;have cY:w.heap.size<OB:=Mcu;clear ak aE jH;go_upto_region 3 with fail
 go_loopw [5] (fun i wr=>∃(k:Nat) (o:Rat),k<=l.length/\i=.int .i64 k/\Hid (R=sumR (l.drop k) o)/\Hid (IsN 720720 o/\0<=o/\o<=(k:Rat))/\Below w.heap.size w wr/\wr.heap[w.heap.size]?=some (.cells #[.int .i64 0,.int .i64 0] 31)/\wr.heap[OB]?=some (.cells #[.int .i64 o.num,.int .i64 o.den] 31)) (fun i _=>l.length-(intOf i).toNat)
 case atStart=>exact⟨0,0,Nat.zero_le _,rfl,by rw[List.drop_zero];exact HR.o,zHi ⟨zko _,Rat.le_refl,by simp⟩,aj.o,b0,b1⟩
 case round=>
  obtain⟨k,o,hk,rfl,HX,HN,hB,g0,g1⟩:=hrel;have HB:=zHi hB;have aI:=hB.size;have x0:=zab g0;have x1:=zab g1;obtain⟨c0,c1⟩:=cF2 g1;obtain⟨t0,t1⟩:=cF2 g0;have f0:∀j,wr.frozen? ⟨w.heap.size,j,none⟩=false:=fun j=>by simp[World.frozen?,g0]
  by_cases ae:k<l.length
  ·obtain⟨b,off,rfl,hb,ah⟩:=(HS.o.keep hB).at ae;have hx:=HX.o;rw[List.drop_eq_getElem_cons ae,sumR]at hx;obtain⟨av,am⟩:=yH2 hx ae;generalize l[k]=x at*;obtain⟨nm,nu,de⟩:=x;have i1:wr.cell? ⟨b,off+k*3+1,none⟩=some (.int .i64 nu):=ah 1 _ rfl;have i2:wr.cell? ⟨b,off+k*3+2,none⟩=some (.int .i64 de):=ah 2 _ rfl;have ar:(k:Int)<(l.length:Int):=Mcu;have aT:(0:Int)<=(k:Int):=Mcu;have tJ:=zHi (fun W=>zh2 nu de W);clear ah hx ae hB;cases bQ:za8 16 nu de
   ·have HE:Hid (R=(o,false)):=by show _=_;rw[av.o];simp[zea,bQ]
    rw[bQ]at tJ;exact MT
   ·rw[bQ]at tJ;by_cases hz:nu=0
    ·subst hz;have HE:Hid (R=(o,false)):=by show _=_;rw[av.o];simp[zea]
     exact MT
    ·have iH:(nu==0)=false:=MdB;have ll:=zbp bQ;have Du:=zet bQ;have lj:=ll.1;have GT:=ll.2.1;generalize hq:Rat.divInt nu de=q at*;have HE:Hid (R=sumR (l.drop (k+1)) (o+q)):=by show _=_;rw[av.o];unfold zea RPart.rat;simp only;rw[bQ,hq];simp[hz]
     have hn:=HN.o;have fX:((k+1:Nat):Rat)=(k:Rat)+1:=Mcx;have kM:Hid (IsN 720720 (o+q)/\0<=o+q/\o+q<=((k+1:Nat):Rat)):=by
      refine zHi ⟨zkm hn.1 Du,?_,?_⟩
      ·have:=ll.2.2.1;have:=hn.2.1;grind
      ·rw[fX];have:=ll.2.2.2;have:=hn.2.2;grind
     have qg:zaJ o:=zjW Mcu hn.1 hn.2.1 hn.2.2;have dF:zaJ q:=zjW (k:=1) Mcu Du ll.2.2.1 (by simpa using ll.2.2.2);have jP:=zHi (fun W=>znH o q W qg dF);unfold zaA at jP;rw[lj,GT]at jP;clear ll Du lj GT hq hn fX qg dF bQ;go_upto_region 7 with(go_at_call 95;go_must(refine(tJ.o _).mono ?_);rintro e wq ⟨rfl,z,rfl⟩)
     have j1:(wr.ext z).cell? ⟨b,off+k*3+1,none⟩=some (.int .i64 nu):=(za4 _ _ _ _ hb).trans i1;have j2:(wr.ext z).cell? ⟨b,off+k*3+2,none⟩=some (.int .i64 de):=(za4 _ _ _ _ hb).trans i2;have y0:(wr.ext z).heap[w.heap.size]?=_:=zb5 g0;have y1:(wr.ext z).heap[OB]?=_:=zb5 g1;have FU:Below w.heap.size w (wr.ext z):=zbg HB.o z;clear c0 c1 t0 t1 f0 i1 i2 g0 g1 hb aI x0 x1;generalize wr.ext z=WY at*;have fA:=zHi FU;obtain⟨c0,c1⟩:=cF2 y1;clear FU;refine za7 6 (fun bb w'=>bb=true\/(w'.cell? ⟨OB,0,none⟩=some (.int .i64 o.num)/\w'.cell? ⟨OB,1,none⟩=some (.int .i64 o.den)/\w'.cell? ⟨b,off+k*3+1,none⟩=some (.int .i64 nu)/\w'.cell? ⟨b,off+k*3+2,none⟩=some (.int .i64 de))) Mcv (.inr ⟨c0,c1,j1,j2⟩) ?hrest
     case hrest=>
      intro hHeld;refine TkM 0 ?_;refine TkM 1 ?_;refine TkM 2 ?_;refine TkM 3 ?_;refine TkM 4 ?_;refine TkM 5 ?_;refine OnM 6 true fun K hK=>?_
      go_simp
      refine(jP.o _).mono ?_;rintro e w5 ⟨rfl,z5,rfl⟩;have v0:(WY.drew.ext z5).heap[w.heap.size]?=_:=zb5 (w:=WY.drew) y0;have v1:(WY.drew.ext z5).heap[OB]?=_:=zb5 (w:=WY.drew) y1;have aq:Below w.heap.size w (WY.drew.ext z5):=zbg (zaE fA.o) z5;refine NxM hK fun hHeld=>?_
      clear hK K;generalize WY.drew.ext z5=W5 at*;obtain⟨s0,s1⟩:=cF2 v1;have sf:∀j,W5.frozen? ⟨OB,j,none⟩=false:=fun j=>by simp[World.frozen?,v1]
      refine OnM 7 true fun K hK=>?_
      go_simp
      refine NxM hK fun hHeld=>?_
      clear hK K;refine zaG Mcv ?_ _;clear hHeld;go_wp2_with fail
      go_round
      case rel=>exact⟨k+1,o+q,am.o,by go_num,HE,kM,zaM (zaM aq Mcz _) Mcz _,J_ne Mcu (J_ne Mcu v0),zdy v1⟩
      case measure=>have:=am.o;simp only[intOf];omega
  ·have ar:¬(k:Int)<(l.length:Int):=Mcu;have HE:Hid (R=(o,true)):=by show _=_;rw[HX.o,List.drop_of_length_le Mcu];rfl
   clear hB;go_wp2_with fail
   rw[HE.o];refine bodyPost_ret (v:=.tuple #[zaA o,.bool true]) ?_ rfl ?_
   ·exact zgC rfl _ _ w.heap.size _ _ _ rfl rfl (zdy g0)
   ·exact Ret.of rfl (zaM (zaM HB.o Mcx _) Mcx _)
def sixV(a b c d e f:Int):Value:=.agg #[.int .i64 a,.int .i64 b,.int .i64 c,.int .i64 d,.int .i64 e,.int .i64 f]
def zkQ(k:Int):Value:=if k=0 then sixV 1 0 2 1 1 1 else if k=1 then sixV 1 1 2 1 0 0 else if k=2 then sixV 1 1 0 0 0 0 else if k=3 then sixV 1 0 0 0 0 1 else if k=4 then sixV 0 1 2 1 0 0 else if k=8 then sixV 0 1 0 0 0 0 else sixV 0 1 1 0 0 0
theorem znh{fn:Func}{p:Tmp}(h:fn.results= #[.cell p 177])(tmps:Array Value)(w:World)(B:Nat)(a b c d e f:Int)(hp:tmps.getD p undef=.pointer (some ⟨B,0,none⟩))
 (h0:w.cell? ⟨B,0,none⟩=some (.int .i64 a))(h1:w.cell? ⟨B,1,none⟩=some (.int .i64 b))(h2:w.cell? ⟨B,2,none⟩=some (.int .i64 c))(h3:w.cell? ⟨B,3,none⟩=some (.int .i64 d))(h4:w.cell? ⟨B,4,none⟩=some (.int .i64 e))(h5:w.cell? ⟨B,5,none⟩=some (.int .i64 f)):
 (results fn tmps).run Tryz.prog w=.ok (sixV a b c d e f) w:=by
 rw[zdJ h,hp];unfold sixV;go_simp
theorem zni(k:Int)(w:World):Calls Tryz.prog 123 #[.int .i64 k] w (Ret w (zkQ k)):=by
 unfold zkQ;go_enter Tryz.func123,Tryz.ntmps123
 by_cases h0:k=0
 ·rw[if_pos h0];subst h0;go_wp2_with fail
  refine bodyPost_ret (v:=sixV 1 0 2 1 1 1) ?_ rfl ?_
  ·exact MV
  ·exact Ret.of rfl Bw
 rw[if_neg h0];have e0:(k==0)=false:=MdA;by_cases h1:k=1
 ·rw[if_pos h1];subst h1;go_wp2_with fail
  refine bodyPost_ret (v:=sixV 1 1 2 1 0 0) ?_ rfl ?_
  ·exact MV
  ·exact Ret.of rfl Bw
 rw[if_neg h1];have e1:(k==1)=false:=Mc1;by_cases h2:k=2
 ·rw[if_pos h2];subst h2;go_wp2_with fail
  refine bodyPost_ret (v:=sixV 1 1 0 0 0 0) ?_ rfl ?_
  ·exact MV
  ·exact Ret.of rfl Bw
 rw[if_neg h2];have e2:(k==2)=false:=Meg;by_cases h3:k=3
 ·rw[if_pos h3];subst h3;go_wp2_with fail
  refine bodyPost_ret (v:=sixV 1 0 0 0 0 1) ?_ rfl ?_
  ·exact MV
  ·exact Ret.of rfl Bw
 rw[if_neg h3];have e3:(k==3)=false:=by simpa using h3
 by_cases h4:k=4
 ·rw[if_pos h4];subst h4;go_wp2_with fail
  refine bodyPost_ret (v:=sixV 0 1 2 1 0 0) ?_ rfl ?_
  ·exact MV
  ·exact Ret.of rfl Bw
 rw[if_neg h4];have e4:(k==4)=false:=by simpa using h4
 by_cases h8:k=8
 ·rw[if_pos h8];subst h8;go_wp2_with fail
  refine bodyPost_ret (v:=sixV 0 1 0 0 0 0) ?_ rfl ?_
  ·exact MV
  ·exact Ret.of rfl Bw
 rw[if_neg h8];have e8:(k==8)=false:=by simpa using h8
 go_wp2_with fail
 refine bodyPost_ret (v:=sixV 0 1 1 0 0 0) ?_ rfl ?_
 ·exact MV
 ·exact Ret.of rfl Bw
def znj(dd:List ByteArray)(p:RPart):Bool:=dd.any (zae p.name)
theorem zkR(l:List RPart)(A:Option Addr)(c:Nat)(dd:List ByteArray)(LA CA MA DA WA RA GA:Option Addr)(n0 c0 n1 c1 n2 c2 n3 c3 n4 c4 n5 c5 n6 c6:Nat)(w:World)(hl:l.length<=1000000)(hS:Sl w 3 RPart.cells A l)(bx:dd.length<=100000)(nH:dd.length<=c3)(hD:Sl w 1 sC DA dd):
 Calls Tryz.prog 154 #[.agg #[.slice LA n0 c0,.slice CA n1 c1,.slice MA n2 c2,.slice DA dd.length c3,.slice WA n4 c4,.slice RA n5 c5,.slice GA n6 c6],.slice A l.length c] w (Ret w (.bool (l.any (znj dd)))):=by
 obtain⟨fh,ic⟩:=yH2 hS (fun x W (h:Below w.heap.size w W)=>zeJ dd x LA CA MA DA WA RA GA n0 c0 n1 c1 n2 c2 dd.length c3 n4 c4 n5 c5 n6 c6 W bx nH (hD.keep h));obtain⟨R,hR⟩:∃R,R=l.any (znj dd):=⟨_,rfl⟩
 rw[<-hR];have HR:Hid (R=(l.drop 0).any (znj dd)):=Mej;clear hS hD hR;go_enter Tryz.func154,Tryz.ntmps154
 go_upto_region 1 with fail
 obtain⟨W0,ak⟩:∃W0,W0=w.alloc (.cells #[.slice LA n0 c0,.slice CA n1 c1,.slice MA n2 c2,.slice DA dd.length c3,.slice WA n4 c4,.slice RA n5 c5,.slice GA n6 c6] 44):=⟨_,rfl⟩
 have b0:W0.heap[w.heap.size]?=some (.cells #[.slice LA n0 c0,.slice CA n1 c1,.slice MA n2 c2,.slice DA dd.length c3,.slice WA n4 c4,.slice RA n5 c5,.slice GA n6 c6] 44):=Mdm;have aE:Below w.heap.size w W0:=Mc5;rw[<-ak];obtain⟨aj,HS⟩:=yH2 aE (fh.o.keep aE);have m8:=aE.size;have l0:=zab b0
 have HC:=zHi (fun(W':World) (h:Below W0.heap.size W0 W')=>(show W'.cell? ⟨w.heap.size,0,none⟩=some (.slice LA n0 c0)/\W'.cell? ⟨w.heap.size,1,none⟩=some (.slice CA n1 c1)/\W'.cell? ⟨w.heap.size,2,none⟩=some (.slice MA n2 c2)/\W'.cell? ⟨w.heap.size,3,none⟩=some (.slice DA dd.length c3)/\W'.cell? ⟨w.heap.size,4,none⟩=some (.slice WA n4 c4)/\W'.cell? ⟨w.heap.size,5,none⟩=some (.slice RA n5 c5)/\W'.cell? ⟨w.heap.size,6,none⟩=some (.slice GA n6 c6) from by
  refine⟨?_,?_,?_,?_,?_,?_,?_⟩<;>(refine(zah h l0).trans ?_;simp only[World.cell?,b0];rfl)))
 clear ak b0 aE fh;go_upto_region 2 with fail
 go_loopw [5] (fun i wr=>∃k:Nat,k<=l.length/\i=.int .i64 k/\Hid (R=(l.drop k).any (znj dd))/\Below W0.heap.size W0 wr) (fun i _=>l.length-(intOf i).toNat)
 case atStart=>exact⟨0,Nat.zero_le _,rfl,HR.o,Below.refl _ _⟩
 case round=>
  obtain⟨k,hk,rfl,HX,hB⟩:=hrel;have HB:=zHi hB;have aI:=hB.size;have cG:w.heap.size<wr.heap.size:=Mcu;obtain⟨d0,d1,d2,d3,d4,d5,d6⟩:=HC.o _ hB;by_cases ae:k<l.length
  ·obtain⟨b,off,rfl,hb,ah⟩:=(HS.o.keep hB).at ae;have hx:=HX.o;rw[List.drop_eq_getElem_cons ae,List.any_cons]at hx;obtain⟨av,am⟩:=yH2 hx ae;generalize l[k]=x at*;obtain⟨nm,nu,de⟩:=x;have i0:wr.cell? ⟨b,off+k*3,none⟩=some (.string nm):=ah 0 _ rfl;have ar:(k:Int)<(l.length:Int):=Mcu;have aT:(0:Int)<=(k:Int):=Mcu;have vV:=zHi (aj.o.trans (hB.mono m8));have gq:=zHi (fun W (h:Below wr.heap.size wr W)=>ic.o nm W (vV.o.trans (h.mono vV.o.size)));clear ah hx ae hB;cases hd:dd.any (zae nm)
   ·have HE:Hid (R=(l.drop (k+1)).any (znj dd)):=by show _=_;rw[av.o];unfold znj;rw[hd];rfl
    rw[hd]at gq;clear hd;go_upto_region 4 with fail
    (refine zaj Mcv Mcv ?_
     repeat(first|go_big_quiet_skip|(go_big_quiet_want;go_big_quiet_op;first|go_big_quiet_on|(apply Exists.intro;refine⟨fun _=>?_,?_⟩;(go_at_call 135;exact quietx (gq.o _ Bw));go_big_quiet_on)))
     refine wpQuiet_nil ?_
     rintro _ ⟨zq,rfl⟩)
    go_wp2_with fail
    go_round
    case rel=>exact⟨k+1,am.o,by go_num,HE.o,zbg HB.o zq⟩
    case measure=>have:=am.o;simp only[intOf];omega
   ·have HE:Hid (R=true):=by show _=_;rw[av.o];unfold znj;rw[hd];rfl
    rw[hd]at gq;clear hd;go_upto_region 4 with fail
    (refine zaj Mcv Mcv ?_
     repeat(first|go_big_quiet_skip|(go_big_quiet_want;go_big_quiet_op;first|go_big_quiet_on|(apply Exists.intro;refine⟨fun _=>?_,?_⟩;(go_at_call 135;exact quietx (gq.o _ Bw));go_big_quiet_on)))
     refine wpQuiet_nil ?_
     rintro _ ⟨zq,rfl⟩)
    go_wp2_with fail
    go_ret
    exact Ret.of (zaP HE.o.symm) (zbg vV.o zq)
  ·have ar:¬(k:Int)<(l.length:Int):=Mcu;have HE:Hid (R=false):=by show _=_;rw[HX.o,List.drop_of_length_le Mcu];rfl
   clear hB;go_wp2_with fail
   go_ret
   exact Ret.of (zaP HE.o.symm) (aj.o.trans (HB.o.mono m8))
end
def znk(ds:List Deed):Int:=(ds.getLast?.map (·.day)).getD 0
theorem zpe{ds:List Deed}{k:Nat}(h:k<ds.length):znk (ds.take (k+1))=ds[k].day:=by
 have e:ds.take (k+1)=ds.take k++[ds[k]]:=by rw[List.take_add_one,List.getElem?_eq_getElem h];rfl
 unfold znk;rw[e,List.getLast?_concat];rfl
open Go.Shelf
def zpf:Go.Shelf.Ren:=⟨fun|54=>28|64=>55|65=>54|78=>93|79=>94|80=>84|81=>85|82=>86|83=>87|84=>88|85=>89|61=>90|86=>91|87=>92|93=>116|89=>117|90=>118|94=>119|95=>120|69=>121|97=>151|n=>n,fun|25=>36|26=>9|3=>3|51=>120|0=>0|67=>155|69=>157|4=>4|61=>149|60=>148|44=>116|5=>5|9=>9|75=>171|79=>175|83=>197|84=>198|n=>n,fun|n=>n⟩
theorem srtStr:Go.Proofs.SlLaysN.n54 Tryz.prog zpf:= {
 mixed:=by kernel_rfl
 f54:=⟨Tryz.f28.name,by decide,Tryz.func28.trans (congrArg some Mcv)⟩
 f61:=⟨Tryz.f90.name,by decide,Tryz.func90.trans (congrArg some Mcv)⟩
 f64:=Tryz.func55.trans (congrArg some Mcv)
 f65:=⟨Tryz.f54.name,by decide,Tryz.func54.trans (congrArg some Mcv)⟩
 f69:=⟨Tryz.f121.name,by decide,Tryz.func121.trans (congrArg some Mcv)⟩
 f78:=Tryz.func93.trans (congrArg some Mcv)
 f79:=Tryz.func94.trans (congrArg some Mcv)
 f80:=⟨Tryz.f84.name,by decide,Tryz.func84.trans (congrArg some Mcv)⟩
 f81:=⟨Tryz.f85.name,by decide,Tryz.func85.trans (congrArg some Mcv)⟩
 f82:=⟨Tryz.f86.name,by decide,Tryz.func86.trans (congrArg some Mcv)⟩
 f83:=⟨Tryz.f87.name,by decide,Tryz.func87.trans (congrArg some Mcv)⟩
 f84:=⟨Tryz.f88.name,by decide,Tryz.func88.trans (congrArg some Mcv)⟩
 f85:=⟨Tryz.f89.name,by decide,Tryz.func89.trans (congrArg some Mcv)⟩
 f86:=⟨Tryz.f91.name,by decide,Tryz.func91.trans (congrArg some Mcv)⟩
 f87:=⟨Tryz.f92.name,by decide,Tryz.func92.trans (congrArg some Mcv)⟩
 f89:=Tryz.func117.trans (congrArg some Mcv)
 f90:=Tryz.func118.trans (congrArg some Mcv)
 f93:=⟨Tryz.f116.name,by decide,Tryz.func116.trans (congrArg some Mcv)⟩
 f94:=⟨Tryz.f119.name,by decide,Tryz.func119.trans (congrArg some Mcv)⟩
 f95:=⟨Tryz.f120.name,by decide,Tryz.func120.trans (congrArg some Mcv)⟩
 f97:=⟨Tryz.f151.name,by decide,Tryz.func151.trans (congrArg some Mcv)⟩
 t0:=Tryz.underlying0
 a0:=Tryz.isAgg0
 z0:=Tryz.sizeOf0
 v0:=Tryz.zeroValue0
 t3:=Tryz.underlying3
 a3:=Tryz.isAgg3
 z3:=Tryz.sizeOf3
 v3:=Tryz.zeroValue3
 t4:=Tryz.underlying4
 a4:=Tryz.isAgg4
 z4:=Tryz.sizeOf4
 v4:=Tryz.zeroValue4
 t5:=Tryz.underlying5
 a5:=Tryz.isAgg5
 z5:=Tryz.sizeOf5
 v5:=Tryz.zeroValue5
 t9:=Tryz.underlying9
 a9:=Tryz.isAgg9
 z9:=Tryz.sizeOf9
 v9:=Tryz.zeroValue9
 t25:=Tryz.underlying36
 a25:=Tryz.isAgg36
 z25:=Tryz.sizeOf36
 v25:=Tryz.zeroValue36
 t26:=Tryz.underlying9
 a26:=Tryz.isAgg9
 z26:=Tryz.sizeOf9
 v26:=Tryz.zeroValue9
 t44:=Tryz.underlying116
 a44:=Tryz.isAgg116
 z44:=Tryz.sizeOf116
 v44:=Tryz.zeroValue116
 t51:=Tryz.underlying120
 a51:=Tryz.isAgg120
 z51:=Tryz.sizeOf120
 v51:=Tryz.zeroValue120
 t60:=Tryz.underlying148
 a60:=Tryz.isAgg148
 z60:=Tryz.sizeOf148
 v60:=Tryz.zeroValue148
 t61:=Tryz.underlying149
 a61:=Tryz.isAgg149
 z61:=Tryz.sizeOf149
 v61:=Tryz.zeroValue149
 t67:=Tryz.underlying155
 a67:=Tryz.isAgg155
 z67:=Tryz.sizeOf155
 v67:=Tryz.zeroValue155
 t69:=Tryz.underlying157
 a69:=Tryz.isAgg157
 z69:=Tryz.sizeOf157
 v69:=Tryz.zeroValue157
 t75:=Tryz.underlying171
 a75:=Tryz.isAgg171
 z75:=Tryz.sizeOf171
 v75:=Tryz.zeroValue171
 t79:=Tryz.underlying175
 a79:=Tryz.isAgg175
 z79:=Tryz.sizeOf175
 v79:=Tryz.zeroValue175
 t83:=Tryz.underlying197
 a83:=Tryz.isAgg197
 z83:=Tryz.sizeOf197
 v83:=Tryz.zeroValue197
 t84:=Tryz.underlying198
 a84:=Tryz.isAgg198
 z84:=Tryz.sizeOf198
 v84:=Tryz.zeroValue198}

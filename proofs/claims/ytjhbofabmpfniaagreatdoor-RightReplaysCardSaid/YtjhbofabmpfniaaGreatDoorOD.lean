/- Walk of the reference's apart. -/
import Derived.Test.YtjhbofabmpfniaaGreatDoorOB
import Derived.Test.YtjhbofabmpfniaaGreatDoorE1
set_option linter.unusedSimpArgs false
set_option linter.unusedVariables false
set_option maxRecDepth 100000
set_option maxHeartbeats 4000000
namespace Go.Proofs.YtjhbofabmpfniaaGreatDoor
open Go.RowKit Go.Shelf
attribute [local go_sem] World.cell?_alloc_mark zae za3 zam za6 zas zat zau zav zaw zax zay
attribute [local go_sem] zaj zac
end Go.Proofs.YtjhbofabmpfniaaGreatDoor
namespace Go.Proofs.YtjhbofabmpfniaaGreatDoor
open Go.RowKit
def nAnn:ByteArray:=⟨#[97,110,110]⟩
def nBob:ByteArray:=⟨#[98,111,98]⟩
def nCat:ByteArray:=⟨#[99,97,116]⟩
def nDan:ByteArray:=⟨#[100,97,110]⟩
def nA1:ByteArray:=⟨#[97,49]⟩
def n0:ByteArray:=⟨#[]⟩
def zcj:List Law:=[⟨0,false,1,4⟩,⟨50000,true,1,2⟩]
def famD (k:Nat):Deed:=match k with
 |0=>⟨6,0,n0,nAnn,[⟨nBob,0,0⟩],0,0⟩
 |1=>⟨6,0,n0,nAnn,[⟨nCat,0,0⟩],0,0⟩
 |2=>⟨7,0,n0,nAnn,[⟨nDan,0,0⟩],0,0⟩
 |3=>⟨0,100,nA1,n0,[⟨nAnn,1,1⟩],1,0⟩
 |_=>⟨8,200,n0,nAnn,[],0,0⟩
def zbG:List Deed:=[famD 0,famD 1,famD 2,famD 3,famD 4]
def fam1:St:=⟨[(nAnn,nBob)],[],[],[],[],[]⟩
def fam2:St:=⟨[(nAnn,nBob),(nAnn,nCat)],[],[],[],[],[]⟩
def fam3:St:=⟨[(nAnn,nBob),(nAnn,nCat)],[(nAnn,nDan)],[],[],[],[]⟩
def fam4:St:=⟨[(nAnn,nBob),(nAnn,nCat)],[(nAnn,nDan)],[],[],[],[⟨nA1,1,-1,[(nAnn,1)],[]⟩]⟩
def zgG:Parts:=[(nBob,Rat.divInt 3 8),(nCat,Rat.divInt 3 8),(nDan,Rat.divInt 1 4)]
def fam5:St:=⟨[(nAnn,nBob),(nAnn,nCat)],[(nAnn,nDan)],[nAnn],[],[],[⟨nA1,1,-1,zgG,[nAnn]⟩]⟩
theorem fam_laws:za8 zcj=0:=by kernel_rfl
open Classical in
theorem fam_0:zbT zcj zbz 0 0 (famD 0)=(fam1,0):=by
 have h1:za5 (famD 0)=0:=Mco;have h2: ¬Desc zbz (zbf (famD 0)) (famD 0).frm:=zii rfl;unfold zbT;rw[h1];show(if(0 != 0)=true then _ else if decide (60<=0)=true then _ else if decide ((0:Int)<0)=true then _ else zcD zbz (famD 0))=_;unfold zcD;rw[decide_eq_false h2];rfl
open Classical in
theorem fam_1:zbT zcj fam1 1 0 (famD 1)=(fam2,0):=by
 have h1:za5 (famD 1)=0:=Mco;have h2: ¬Desc fam1 (zbf (famD 1)) (famD 1).frm:=zii Mco;unfold zbT;rw[h1];show(if(0 != 0)=true then _ else if decide (60<=1)=true then _ else if decide ((0:Int)<0)=true then _ else zcD fam1 (famD 1))=_;unfold zcD;rw[decide_eq_false h2];have e1:(zai fam1 (famD 1).frm).any (zaf (zbf (famD 1)))=false:=Mco;have e2:decide (2<=(zbR fam1 (zbf (famD 1))).length)=false:=Mco;rw[e1,e2];rfl
theorem fam_2:zbT zcj fam2 2 0 (famD 2)=(fam3,0):=by kernel_rfl
theorem fam_3:zbT zcj fam3 3 0 (famD 3)=(fam4,0):=by kernel_rfl
theorem fam_4:zbT zcj fam4 4 100 (famD 4)=(fam5,0):=by kernel_rfl
theorem zhl (upto:Int) (h:200<=upto):zaL zcj zbG upto=(fam5,5,0):=by
 have q0:decide ((famD 0).day<=upto)=true:=MdC;have q1:decide ((famD 1).day<=upto)=true:=MdC;have q2:decide ((famD 2).day<=upto)=true:=MdC;have q3:decide ((famD 3).day<=upto)=true:=by show decide ((100:Int)<=upto)=true;simp;omega
 have q4:decide ((famD 4).day<=upto)=true:=by show decide ((200:Int)<=upto)=true;simp;omega
 have z: ¬((0:Int) != 0)=true:=Mcp;unfold zaL zbG;rw[fam_laws,if_neg z];rw[zaV,fam_0,if_neg z,q0,if_pos rfl];show zaV zcj upto _ fam1 fam1 1 0=_;rw[zaV,fam_1,if_neg z,q1,if_pos rfl];show zaV zcj upto _ fam2 fam2 2 0=_;rw[zaV,fam_2,if_neg z,q2,if_pos rfl];show zaV zcj upto _ fam3 fam3 3 0=_;rw[zaV,fam_3,if_neg z,q3,if_pos rfl];show zaV zcj upto _ fam4 fam4 4 100=_;rw[zaV,fam_4,if_neg z,q4,if_pos rfl];rfl
def zfw:List Rec:=[⟨1,nAnn,n0,n0,5,0,0,0⟩,⟨0,nBob,n0,n0,9,0,0,0⟩,⟨0,nAnn,n0,n0,7,0,0,0⟩,⟨3,nAnn,n0,nA1,4,0,1,2⟩,⟨3,nBob,n0,nA1,4,0,2,3⟩]
theorem recs5_ok:zf2 zfw=0:=by kernel_rfl
end Go.Proofs.YtjhbofabmpfniaaGreatDoor
namespace Go.Proofs.YtjhbofabmpfniaaGreatDoor
open Go.RowKit Go.Shelf
attribute [local go_sem] World.cell?_alloc_mark zae za3 zam za6 zas zat zau zav zaw zax zay
attribute [local go_sem] zaj zac
theorem zgH {fn:Func} {p q:Tmp} (h:fn.results= #[.cell p 71, .tmp q]) (tmps:Array Value) (w:World) (B:Nat) (x0 x1 e:Value) (hp:tmps.getD p undef= .pointer (some ⟨B,0,none⟩)) (hq:tmps.getD q undef=e)
 (hx:w.heap[B]?=some (.cells #[x0,x1] 71)):(results fn tmps).run Tryz.prog w= .ok (.tuple #[.agg #[x0,x1],e]) w:=by
 obtain⟨h0,h1⟩:=cF2 hx;clear hx;rw[Array.getD_eq_getD_getElem?]at hp hq;simp only[results,h];simp[Sem.run_bind,hp,hq];go_simp
end Go.Proofs.YtjhbofabmpfniaaGreatDoor
namespace Go.Proofs.YtjhbofabmpfniaaGreatDoor
open Go.RowKit
attribute [local go_sem] World.cell?_alloc_mark zae za3 zam za6 zas zat zau zav zaw zax zay
theorem zcL (s:ByteArray) (w:World) (hs:s.size<=100000):
 Calls Tryz.prog 28 #[.string s] w (Ret0 w (.bool (zcA s))):=by
 go_enter Tryz.func28,Tryz.ntmps28
 by_cases h0:s.size=0
 ·have H0:=zHi h0;have h1:(s.size:Int)<1:=Mcn;clear h0;go_wp2_with fail
  go_ret
  exact⟨by simp[zcA,h1],rfl⟩
 have IS:0<s.size:=Mcn;have hg:(zdq s).getD 0 0=(s[0].toNat:Int):=by simp only[zdq,List.getD_eq_getElem?_getD,List.getElem?_map,Array.getElem?_toList];rw[Array.getElem?_eq_getElem IS];rfl
 go_wp2_with (first
  |(go_at_call 73;refine(zjG _ _).mono ?_;intro e wq hq;rcases Ret0.bools hq with⟨rfl,⟨hb,rfl⟩|⟨hb,rfl⟩⟩<;>clear hq)
  |(go_at_call 74;refine(zlv _ _).mono ?_;intro e wq hq;rcases Ret0.bools hq with⟨rfl,⟨hb,rfl⟩|⟨hb,rfl⟩⟩<;>clear hq))
 ·have HG:=zHi hg;clear hg;go_loop [3] (fun i=> ∃k:Nat,1<=k/\k<=s.size/\i= .int .i64 k/\zjj ((zdq s).drop 1)=zjj ((zdq s).drop k)) (fun i=>s.size-(intOf i).toNat)
  case atStart=>exact⟨1,by omega,by omega,rfl,rfl⟩
  case round=>
   obtain⟨k,fS,hk,rfl,hf⟩:=hrel;by_cases aa:k<s.size
   ·rw[zia s k aa,show s.data[k]=s[k]from rfl]at hf;have HF:=zHi hf;clear hf;have HL:=zHi aa
    go_wp2_with (first
     |(go_at_call 73;refine(zjG _ _).mono ?_;intro e wq hq;rcases Ret0.bools hq with⟨rfl,⟨hb,rfl⟩|⟨hb,rfl⟩⟩<;>clear hq)
     |(go_at_call 74;refine(zlv _ _).mono ?_;intro e wq hq;rcases Ret0.bools hq with⟨rfl,⟨hb,rfl⟩|⟨hb,rfl⟩⟩<;>clear hq))
    all_goals first
     |(go_round
       case rel=>exact⟨k+1,by omega,by have:=HL.o;omega,by go_num,by rw[HF.o,zjj,if_neg (by simp[*])]⟩
       case measure=>have:=HL.o;simp[intOf];omega)
     |(go_ret
       exact⟨by rw[zcA,HG.o,HF.o,zjj];simp[*],rfl⟩)
   ·have mK:(zdq s).drop k=[]:=List.drop_eq_nil_of_le (by rw[zgP];omega);rw[mK,zjj]at hf;clear mK;have HF:=zHi hf;clear hf;go_wp2_with fail
    go_ret
    exact⟨by rw[zcA,HG.o,HF.o];simp[*],rfl⟩
 ·go_ret
  exact⟨by rw[zcA,hg];simp[*],rfl⟩
 ·go_ret
  exact⟨by rw[zcA,hg];simp[*],rfl⟩
end Go.Proofs.YtjhbofabmpfniaaGreatDoor
namespace Go.Proofs.YtjhbofabmpfniaaGreatDoor
open Go.RowKit
end Go.Proofs.YtjhbofabmpfniaaGreatDoor
namespace Go.Proofs.YtjhbofabmpfniaaGreatDoor
open Go.RowKit Go.Shelf
attribute [local go_sem] World.cell?_alloc_mark zae za3 zam za6 zas zat zau zav zaw zax zay
attribute [local go_sem] zaj zac
theorem zcM (n:Int) (w:World):Calls Tryz.prog 66 #[.int .i64 n] w (Ret0 w (.bool (zbk n))):=by
 go_enter Tryz.func66,Tryz.ntmps66
 exact Mat
theorem zh2 (a b:Int) (w:World):Calls Tryz.prog 125 #[.agg #[.int .i64 a, .int .i64 b]] w (Ret w (.bool (za9 16 a b))):=by
 go_enter Tryz.func125,Tryz.ntmps125
 by_cases h1:inR b 1 16=true
 ·by_cases h2:inR a 0 b=true
  ·have x1:1<=b/\b<=16:=by simpa[inR]using h1
   have x2:0<=a/\a<=b:=by simpa[inR]using h2
   have g1:a.natAbs<=4611686018427387904:=Mcn;have g2:b.natAbs<=4611686018427387904:=Mcn;have G1:=zHi g1;have G2:=zHi g2;have hv:za9 16 a b=((Int.gcd a b:Int)==1):=by
    unfold za9;simp only[x1.1,x1.2,x2.1,x2.2,decide_true,Bool.true_and];rw[Bool.eq_iff_iff,beq_iff_eq,beq_iff_eq];omega
   have HV:=zHi hv;clear g1 g2 hv x1 x2
   go_wp2_with (first
    |(go_at_call 79;refine(zcy _ _ _ _).mono ?_;rintro e wq ⟨rfl,rfl⟩)
    |(go_at_call 156;refine(znV _ _ _ G1.o G2.o).mono ?_;rintro e w1 ⟨rfl,z1,rfl⟩))
   all_goals go_ret
   all_goals exact Ret.of (zaQ (by rw[HV.o])) Bw
  ·have hv:za9 16 a b=false:=by
    unfold za9;simp[inR]at h1 h2⊢;omega
   exact MaW
 ·have hv:za9 16 a b=false:=by
   unfold za9;simp[inR]at h1⊢;omega
  exact MaW
def zdX (p:RPart):Bool:=za9 16 p.num p.den&&p.num != 0
def sumR:List RPart->Rat->Rat×Bool
 | [],o=>(o,true)
 |p::l,o=>if zdX p then sumR l (o+p.rat)else(o,false)
theorem zjW {k:Nat} {o:Rat} (hk:k<=1000) (h:IsN 720720 o) (h0:0<=o) (h1:o<=(k:Rat)):zaI o:=by
 have hd:=zkn Mcp h;have hn:0<=o.num:=Rat.num_nonneg.2 h0;have h2:=(Rat.le_iff o (k:Rat)).1 h1;have e1:((k:Rat)).num=(k:Int):=Rat.num_natCast k;have e2:((k:Rat)).den=1:=Rat.den_natCast k;rw[e1,e2]at h2;have h3:o.num<=(k:Int)*(o.den:Int):=Mef;have h4:(k:Int)*(o.den:Int)<=1000*720720:=Int.mul_le_mul Mcn Mcn Mcn Mcn;exact⟨by omega,by omega⟩
theorem zoe (l:List RPart) (A:Option Addr) (c:Nat) (w:World) (hl:l.length<=1000) (hS:Sl w 3 RPart.cells A l):Calls Tryz.prog 179 #[.slice A l.length c] w (Ret w (.tuple #[zaB (sumR l 0).1, .bool (sumR l 0).2])):=by
 have HS:=zHi hS;obtain⟨R,hR⟩: ∃R,R=sumR l 0:=⟨_,rfl⟩
 rw[<-hR];have HR:=zHi hR;clear hS hR;go_enter Tryz.func179,Tryz.ntmps179
 go_upto_region 2 with(go_at_call 93;go_must(refine(ziH _).mono ?_);rintro e wq ⟨rfl,z0,rfl⟩)
 obtain⟨OB,gU⟩: ∃OB,OB=w.heap.size+1+z0.os.size:=⟨_,rfl⟩
 obtain⟨W0,ao⟩: ∃W0,W0=((w.alloc (.cells #[.int .i64 0, .int .i64 0] 71)).ext z0).alloc (.cells #[.int .i64 0, .int .i64 1] 71):=⟨_,rfl⟩
 have b0:W0.heap[w.heap.size]?=some (.cells #[.int .i64 0, .int .i64 0] 71):=by rw[ao];exact zal (zb2 (zar _ _ _ rfl))
 have b1:W0.heap[OB]?=some (.cells #[.int .i64 0, .int .i64 1] 71):=by rw[ao];exact zar _ _ _ (by rw[gU];simp[zae])
 have aJ:Below w.heap.size w W0:=McU;rw[<-ao,<-gU];have ak:=zHi aJ;have dG:w.heap.size<OB:=Mcn;clear ao aJ gU;go_upto_region 3 with fail
 go_loopw [5] (fun i wr=> ∃(k:Nat) (o:Rat),k<=l.length/\i= .int .i64 k/\Hid (R=sumR (l.drop k) o)/\Hid (IsN 720720 o/\0<=o/\o<=(k:Rat))/\Below w.heap.size w wr/\wr.heap[w.heap.size]?=some (.cells #[.int .i64 0, .int .i64 0] 71)/\wr.heap[OB]?=some (.cells #[.int .i64 o.num, .int .i64 o.den] 71)) (fun i _=>l.length-(intOf i).toNat)
 case atStart=>exact⟨0,0,Nat.zero_le _,rfl,by rw[List.drop_zero];exact HR.o,zHi ⟨zkm _,Rat.le_refl,by simp⟩,ak.o,b0,b1⟩
 case round=>
  obtain⟨k,o,hk,rfl,HX,HN,hB,g0,g1⟩:=hrel;have HB:=zHi hB;have aE:=hB.size;have x0:=zab g0;have x1:=zab g1;obtain⟨c0,c1⟩:=cF2 g1;obtain⟨t0,t1⟩:=cF2 g0;have f0: ∀j,wr.frozen? ⟨w.heap.size,j,none⟩=false:=fun j=>by simp[World.frozen?,g0]
  by_cases aa:k<l.length
  ·obtain⟨b,off,rfl,hb,ah⟩:=(HS.o.keep hB).at aa;have hx:=HX.o;rw[List.drop_eq_getElem_cons aa,sumR]at hx;have av:=zHi hx;have am:=zHi aa;generalize l[k]=x at*;obtain⟨nm,nu,de⟩:=x;have i1:wr.cell? ⟨b,off+k*3+1,none⟩=some (.int .i64 nu):=ah 1 _ rfl;have i2:wr.cell? ⟨b,off+k*3+2,none⟩=some (.int .i64 de):=ah 2 _ rfl;have ar:(k:Int)<(l.length:Int):=Mcn;have aT:(0:Int)<=(k:Int):=Mcn;have sY:=zHi (fun W=>zh2 nu de W);clear ah hx aa hB;cases bO:za9 16 nu de
   ·have HE:Hid (R=(o,false)):=by show _=_;rw[av.o];simp[zdX,bO]
    rw[bO]at sY;exact MV
   ·rw[bO]at sY;by_cases hz:nu=0
    ·subst hz;have HE:Hid (R=(o,false)):=by show _=_;rw[av.o];simp[zdX]
     exact MV
    ·have ja:(nu==0)=false:=Mdu;have l8:=zbj bO;have Dh:=zep bO;have l7:=l8.1;have Al:=l8.2.1;generalize hq:Rat.divInt nu de=q at*;have HE:Hid (R=sumR (l.drop (k+1)) (o+q)):=by show _=_;rw[av.o];unfold zdX RPart.rat;simp only;rw[bO,hq];simp[hz]
     have hn:=HN.o;have fS:((k+1:Nat):Rat)=(k:Rat)+1:=Mcq;have kK:Hid (IsN 720720 (o+q)/\0<=o+q/\o+q<=((k+1:Nat):Rat)):=by
      refine zHi ⟨zkk hn.1 Dh,?_,?_⟩
      ·have:=l8.2.2.1;have:=hn.2.1;grind
      ·rw[fS];have:=l8.2.2.2;have:=hn.2.2;grind
     have tX:zaI o:=zjW Mcn hn.1 hn.2.1 hn.2.2;have dQ:zaI q:=zjW (k:=1) Mcn Dh l8.2.2.1 (by simpa using l8.2.2.2);have kf:=zHi (fun W=>znW o q W tX dQ);unfold zaB at kf;rw[l7,Al]at kf;clear l8 Dh l7 Al hq hn fS tX dQ bO;go_upto_region 7 with(go_at_call 125;go_must(refine(sY.o _).mono ?_);rintro e wq ⟨rfl,z,rfl⟩)
     have j1:(wr.ext z).cell? ⟨b,off+k*3+1,none⟩=some (.int .i64 nu):=(za3 _ _ _ _ hb).trans i1;have j2:(wr.ext z).cell? ⟨b,off+k*3+2,none⟩=some (.int .i64 de):=(za3 _ _ _ _ hb).trans i2;have y0:(wr.ext z).heap[w.heap.size]?=_:=zb2 g0;have y1:(wr.ext z).heap[OB]?=_:=zb2 g1;have FC:Below w.heap.size w (wr.ext z):=zb6 HB.o z;clear c0 c1 t0 t1 f0 i1 i2 g0 g1 hb aE x0 x1;generalize wr.ext z=WY at*;have fE:=zHi FC;obtain⟨c0,c1⟩:=cF2 y1;clear FC;refine zaC 6 (fun bb w'=>bb=true\/(w'.cell? ⟨OB,0,none⟩=some (.int .i64 o.num)/\w'.cell? ⟨OB,1,none⟩=some (.int .i64 o.den)/\w'.cell? ⟨b,off+k*3+1,none⟩=some (.int .i64 nu)/\w'.cell? ⟨b,off+k*3+2,none⟩=some (.int .i64 de))) Mco (.inr ⟨c0,c1,j1,j2⟩) ?hrest
     case hrest=>
      intro hHeld;refine TkM 0 ?_;refine TkM 1 ?_;refine TkM 2 ?_;refine TkM 3 ?_;refine TkM 4 ?_;refine TkM 5 ?_;refine OnM 6 true fun K hK=> ?_
      go_simp
      refine(kf.o _).mono ?_;rintro e w5 ⟨rfl,z5,rfl⟩;have v0:(WY.drew.ext z5).heap[w.heap.size]?=_:=zb2 (w:=WY.drew) y0;have v1:(WY.drew.ext z5).heap[OB]?=_:=zb2 (w:=WY.drew) y1;have aq:Below w.heap.size w (WY.drew.ext z5):=zb6 (zaH fE.o) z5;refine NxM hK fun hHeld=> ?_
      clear hK K;generalize WY.drew.ext z5=W5 at*;obtain⟨s0,s1⟩:=cF2 v1;have sf: ∀j,W5.frozen? ⟨OB,j,none⟩=false:=fun j=>by simp[World.frozen?,v1]
      refine OnM 7 true fun K hK=> ?_
      go_simp
      refine NxM hK fun hHeld=> ?_
      clear hK K;refine zaN Mco ?_ _;clear hHeld;go_wp2_with fail
      go_round
      case rel=>exact⟨k+1,o+q,am.o,by go_num,HE,kK,zaM (zaM aq Mcr _) Mcr _,J_ne Mcn (J_ne Mcn v0),zer v1⟩
      case measure=>have:=am.o;simp only[intOf];omega
  ·have ar: ¬(k:Int)<(l.length:Int):=Mcn;have HE:Hid (R=(o,true)):=by show _=_;rw[HX.o,List.drop_of_length_le Mcn];rfl
   clear hB;go_wp2_with fail
   rw[HE.o];refine bodyPost_ret (v:= .tuple #[zaB o, .bool true]) ?_ rfl ?_
   ·exact zgH rfl _ _ w.heap.size _ _ _ rfl rfl (zer g0)
   ·exact Ret.of rfl (zaM (zaM HB.o Mcq _) Mcq _)
def sixV (a b c d e f:Int):Value:= .agg #[.int .i64 a, .int .i64 b, .int .i64 c, .int .i64 d, .int .i64 e, .int .i64 f]
def zkP (k:Int):Value:=if k=0 then sixV 1 0 2 1 1 1 else if k=1 then sixV 1 1 2 1 0 0 else if k=2 then sixV 1 1 0 0 0 0 else if k=3 then sixV 1 0 0 0 0 1 else if k=4 then sixV 0 1 2 1 0 0 else if k=8 then sixV 0 1 0 0 0 0 else sixV 0 1 1 0 0 0
theorem znh {fn:Func} {p:Tmp} (h:fn.results= #[.cell p 217]) (tmps:Array Value) (w:World) (B:Nat) (a b c d e f:Int) (hp:tmps.getD p undef= .pointer (some ⟨B,0,none⟩))
 (h0:w.cell? ⟨B,0,none⟩=some (.int .i64 a)) (h1:w.cell? ⟨B,1,none⟩=some (.int .i64 b)) (h2:w.cell? ⟨B,2,none⟩=some (.int .i64 c)) (h3:w.cell? ⟨B,3,none⟩=some (.int .i64 d)) (h4:w.cell? ⟨B,4,none⟩=some (.int .i64 e)) (h5:w.cell? ⟨B,5,none⟩=some (.int .i64 f)):
 (results fn tmps).run Tryz.prog w= .ok (sixV a b c d e f) w:=by
 rw[zdF h,hp];unfold sixV;go_simp
theorem zni (k:Int) (w:World):Calls Tryz.prog 176 #[.int .i64 k] w (Ret w (zkP k)):=by
 unfold zkP;go_enter Tryz.func176,Tryz.ntmps176
 by_cases h0:k=0
 ·rw[if_pos h0];subst h0;go_wp2_with fail
  refine bodyPost_ret (v:=sixV 1 0 2 1 1 1) ?_ rfl ?_
  ·exact MY
  ·exact Ret.of rfl Bw
 rw[if_neg h0];have e0:(k==0)=false:=Mdh;by_cases h1:k=1
 ·rw[if_pos h1];subst h1;go_wp2_with fail
  refine bodyPost_ret (v:=sixV 1 1 2 1 0 0) ?_ rfl ?_
  ·exact MY
  ·exact Ret.of rfl Bw
 rw[if_neg h1];have e1:(k==1)=false:=McT;by_cases h2:k=2
 ·rw[if_pos h2];subst h2;go_wp2_with fail
  refine bodyPost_ret (v:=sixV 1 1 0 0 0 0) ?_ rfl ?_
  ·exact MY
  ·exact Ret.of rfl Bw
 rw[if_neg h2];have e2:(k==2)=false:=Mef;by_cases h3:k=3
 ·rw[if_pos h3];subst h3;go_wp2_with fail
  refine bodyPost_ret (v:=sixV 1 0 0 0 0 1) ?_ rfl ?_
  ·exact MY
  ·exact Ret.of rfl Bw
 rw[if_neg h3];have e3:(k==3)=false:=by simpa using h3
 by_cases h4:k=4
 ·rw[if_pos h4];subst h4;go_wp2_with fail
  refine bodyPost_ret (v:=sixV 0 1 2 1 0 0) ?_ rfl ?_
  ·exact MY
  ·exact Ret.of rfl Bw
 rw[if_neg h4];have e4:(k==4)=false:=by simpa using h4
 by_cases h8:k=8
 ·rw[if_pos h8];subst h8;go_wp2_with fail
  refine bodyPost_ret (v:=sixV 0 1 0 0 0 0) ?_ rfl ?_
  ·exact MY
  ·exact Ret.of rfl Bw
 rw[if_neg h8];have e8:(k==8)=false:=by simpa using h8
 go_wp2_with fail
 refine bodyPost_ret (v:=sixV 0 1 1 0 0 0) ?_ rfl ?_
 ·exact MY
 ·exact Ret.of rfl Bw
def zh8 (p:RPart):Bool:=p.num==0&&p.den==0
theorem rBare_any (l:List RPart) (A:Option Addr) (c:Nat) (w:World) (hl:l.length<=1000000000) (hS:Sl w 3 RPart.cells A l):Calls Tryz.prog 178 #[.slice A l.length c] w (Ret0 w (.bool (l.all zh8))):=by
 have HS:=zHi hS;obtain⟨R,hR⟩: ∃R,R=l.all zh8:=⟨_,rfl⟩
 rw[<-hR];have HR:Hid (R=(l.drop 0).all zh8):=Mei;clear hS hR;go_enter Tryz.func178,Tryz.ntmps178
 go_upto_region 2 with fail
 go_loopw [3] (fun i wr=> ∃k:Nat,k<=l.length/\i= .int .i64 k/\w=wr/\Hid (R=(l.drop k).all zh8)) (fun i _=>l.length-(intOf i).toNat)
 case atStart=>exact⟨0,Nat.zero_le _,rfl,rfl,HR.o⟩
 case round=>
  obtain⟨k,hk,rfl,rfl,HX⟩:=hrel;by_cases aa:k<l.length
  ·obtain⟨b,off,rfl,hb,ah⟩:=HS.o.at aa;have hx:=HX.o;rw[List.drop_eq_getElem_cons aa,List.all_cons]at hx;have av:=zHi hx;have am:=zHi aa;generalize l[k]=x at*;obtain⟨nm,nu,de⟩:=x;have i1:w.cell? ⟨b,off+k*3+1,none⟩=some (.int .i64 nu):=ah 1 _ rfl;have i2:w.cell? ⟨b,off+k*3+2,none⟩=some (.int .i64 de):=ah 2 _ rfl;have ar:(k:Int)<(l.length:Int):=Mcn;have aT:(0:Int)<=(k:Int):=Mcn;clear ah hx aa;by_cases h1:nu=0
   ·subst h1;by_cases h2:de=0
    ·subst h2;have HE:Hid (R=(l.drop (k+1)).all zh8):=MdH;go_wp2_with fail
     exact MI
    ·have h3:(de==0)=false:=Mef;have HE:Hid (R=false):=by show _=_;rw[av.o];simp[zh8,h3]
     exact M8
   ·have h3:(nu==0)=false:=McT;have HE:Hid (R=false):=by show _=_;rw[av.o];simp[zh8,h3]
    exact M8
  ·have ar: ¬(k:Int)<(l.length:Int):=Mcn;have HE:Hid (R=true):=by show _=_;rw[HX.o,List.drop_of_length_le Mcn];rfl
   exact M8
def zd3 (l:List RPart) (frm:ByteArray) (k:Nat):Bool:=zcX (l.drop k) ((l.take k).map (·.name)).reverse&&(l.drop k).all fun p=>!zaf p.name frm
def clash (l:List RPart) (x:ByteArray) (j m:Nat):Bool:=((l.take m).drop j).any fun p=>zaf x p.name
theorem zoR {l:List RPart} {frm:ByteArray} {k:Nat} (h:k<l.length):zd3 l frm k=(!clash l l[k].name 0 k&&(!zaf l[k].name frm&&zd3 l frm (k+1))):=by
 unfold zd3 clash;rw[List.drop_eq_getElem_cons h,zcX,List.all_cons,List.take_add_one,List.getElem?_eq_getElem h,List.drop_zero];have e:((l.take k).map (·.name)).reverse.any (zaf l[k].name)=(l.take k).any fun p=>zaf l[k].name p.name:=by
  rw[List.any_reverse,List.any_map];rfl
 rw[e];simp only[Option.toList_some,List.map_append,List.map_cons,List.map_nil,List.reverse_append,List.reverse_cons,List.reverse_nil,List.nil_append,List.singleton_append];cases(l.take k).any fun p=>zaf l[k].name p.name<;>cases zaf l[k].name frm<;>simp
theorem zoS {l:List RPart} {x:ByteArray} {j m:Nat} (h:j<m) (hm:m<l.length):clash l x j m=(zaf x (l[j]' Mcn).name||clash l x (j+1) m):=by
 unfold clash;have hj:j<(l.take m).length:=Mc7;rw[List.drop_eq_getElem_cons hj,List.any_cons,List.getElem_take]
theorem clash_end {l:List RPart} {x:ByteArray} {j m:Nat} (h: ¬j<m):clash l x j m=false:=by
 unfold clash;rw[List.drop_of_length_le Mc7];rfl
theorem zmb (a b:ByteArray):zaf a b=zaf b a:=by rw[Bool.eq_iff_iff,za2,za2];exact⟨Eq.symm,Eq.symm⟩
theorem zoT (l:List RPart) (frm:ByteArray) (A:Option Addr) (c:Nat) (w:World) (hl:l.length<=1000000) (hS:Sl w 3 RPart.cells A l):Calls Tryz.prog 177 #[.slice A l.length c, .string frm] w (Ret w (.bool (zd3 l frm 0))):=by
 have HS:=zHi hS;obtain⟨R,hR⟩: ∃R,R=zd3 l frm 0:=⟨_,rfl⟩
 rw[<-hR];have HR:=zHi hR;clear hS hR;go_enter Tryz.func177,Tryz.ntmps177
 go_upto_region 2 with fail
 go_loopw [5,6] (fun i _ wr=> ∃k:Nat,k<=l.length/\i= .int .i64 k/\Hid (R=zd3 l frm k)/\Below w.heap.size w wr) (fun i _ _=>l.length-(intOf i).toNat)
 case atStart=>exact⟨0,Nat.zero_le _,rfl,HR.o,Below.refl _ _⟩
 case round=>
  obtain⟨k,hk,rfl,HX,hB⟩:=hrel;obtain⟨WR,oo⟩: ∃WR,WR=wr:=⟨_,rfl⟩
  subst oo;have HB:=zHi hB;by_cases aa:k<l.length
  ·have hx:=HX.o;rw[zoR aa]at hx;have av:=zHi hx;have am:=zHi aa;have ar:(k:Int)<(l.length:Int):=Mcn;have aT:(0:Int)<=(k:Int):=Mcn;clear hx hB;go_upto_region 5 with fail
   go_loopw [6] (fun v6 wr=> ∃j:Nat,j<=k/\v6= .int .i64 j/\Hid (R=(!clash l (l[k]'aa).name j k&&(!zaf (l[k]'aa).name frm&&zd3 l frm (k+1))))/\Below w.heap.size w wr) (fun v6 _=>k-(intOf v6).toNat)
   case atStart=>exact⟨0,Nat.zero_le _,rfl,av.o,HB.o⟩
   case round=>
    obtain⟨j,hj,rfl,HY,gx⟩:=hrel;have fE:=zHi gx;have oV:=gx.size;have xg:=(HS.o.keep gx).at aa;by_cases hjk:j<k
    ·have cX:j<l.length:=Mcn;have hy:=HY.o;rw[zoS hjk aa]at hy;obtain⟨b,off,hA,hb,ah⟩:=xg;obtain⟨b2,off2,lV,_,wy⟩:=(HS.o.keep gx).at cX;obtain⟨rfl,rfl⟩:b=b2/\off=off2:=by rw[hA]at lV;simpa using lV
     have i1:wr.cell? ⟨b,off+k*3,none⟩=some (.string (l[k]'aa).name):=ah 0 _ rfl;have i0:wr.cell? ⟨b,off+j*3,none⟩=some (.string (l[j]'cX).name):=wy 0 _ rfl;have vk:=zHi hy;have Ee:=zHi hjk;have Dj:(j:Int)<(k:Int):=Mcn;have tN:(0:Int)<=(j:Int):=Mcn;have Ko:(j:Int)<(l.length:Int):=Mcn;clear ah wy lV hy gx;subst hA;go_upto_region 7 with fail
     generalize cB:(l[k]'aa).name=n1 at*;generalize(l[j]'cX).name=n0 at*;cases hs:zaf n0 n1
     ·have bp:(n0.toList==n1.toList)=false:=hs;have fV:zaf n1 n0=false:=by rw[zmb];exact hs
      have HE:Hid (R=(!clash l n1 (j+1) k&&(!zaf n1 frm&&zd3 l frm (k+1)))):=by show _=_;rw[vk.o,fV];rfl
      (refine zan Mco Mco ?_
       repeat(first|go_big_quiet_skip|(go_big_quiet_want;go_big_quiet_op;first|go_big_quiet_on|(apply Exists.intro;refine⟨fun _=> ?_,?_⟩;(fail);go_big_quiet_on)))
       refine wpQuiet_nil ?_
       rintro _ ⟨zq,rfl⟩)
      go_wp2_with fail
      go_round
      case rel=>exact⟨j+1,Ee.o,by go_num,by(first|exact HE|(rw[cB];exact HE)),zb6 fE.o zq⟩
      case measure=>have:=Ee.o;simp only[intOf];omega
     ·have bp:(n0.toList==n1.toList)=true:=hs;have fV:zaf n1 n0=true:=by rw[zmb];exact hs
      have HE:Hid (R=false):=by show _=_;rw[vk.o,fV];rfl
      (refine zan Mco Mco ?_
       repeat(first|go_big_quiet_skip|(go_big_quiet_want;go_big_quiet_op;first|go_big_quiet_on|(apply Exists.intro;refine⟨fun _=> ?_,?_⟩;(fail);go_big_quiet_on)))
       refine wpQuiet_nil ?_
       rintro _ ⟨zq,rfl⟩)
      go_wp2_with fail
      go_ret
      exact Ret.of (zaQ HE.o.symm) (zb6 fE.o zq)
    ·have Dj: ¬(j:Int)<(k:Int):=Mcn;have hy:=HY.o;rw[clash_end hjk]at hy;obtain⟨b,off,rfl,hb,ah⟩:=xg;have vk:=zHi hy;have i1:wr.cell? ⟨b,off+k*3,none⟩=some (.string (l[k]'aa).name):=ah 0 _ rfl;clear ah hy gx hjk hj av;generalize(l[k]'aa).name=n1 at*;cases hs:zaf n1 frm
     ·have bp:(n1.toList==frm.toList)=false:=hs;have HE:Hid (R=zd3 l frm (k+1)):=by show _=_;rw[vk.o,hs];simp
      go_wp2_with fail
      go_round
      case rel=>exact⟨k+1,am.o,by go_num,HE.o,fE.o⟩
      case measure=>have:=am.o;simp only[intOf];omega
     ·have bp:(n1.toList==frm.toList)=true:=hs;have HE:Hid (R=false):=by show _=_;rw[vk.o,hs];simp
      go_wp2_with fail
      go_ret
      exact Ret.of (zaQ HE.o.symm) fE.o
  ·have ar: ¬(k:Int)<(l.length:Int):=Mcn;have HE:Hid (R=true):=by show _=_;rw[HX.o];unfold zd3;rw[List.drop_of_length_le Mcn];rfl
   clear hB;exact MU
end Go.Proofs.YtjhbofabmpfniaaGreatDoor

import Derived.Test.YtbobmplpdmplkaaGreatDoorO9
import Derived.Test.YtbobmplpdmplkaaGreatDoorRE
import Derived.Shelf.SlLaysNS
set_option linter.all false
set_option maxRecDepth 100000
set_option maxHeartbeats 4000000
namespace Go.Proofs.YtbobmplpdmplkaaGreatDoor
open Go.RowKit
attribute [local go_sem] World.cell?_alloc_mark zaf za4 zam za7 zaw zax zay zaz za0 za1 za2
attribute [local go_sem] zan zac
def toldOf(p:ByteArray)(d:Int)(l:List Rec):List ByteArray:=(l.filter fun x=>x.kind==3&&zae x.place p&&x.day==d).map (·.name)
theorem told_iff{p:ByteArray}{d:Int}{l:List Rec}{n:ByteArray}:n∈toldOf p d l↔ ∃x∈l,x.kind=3/\x.place=p/\x.day=d/\x.name=n:=by
 unfold toldOf;rw[List.mem_map];constructor
 ·rintro⟨x,hx,h⟩;rw[List.mem_filter]at hx;simp only[Bool.and_eq_true,beq_iff_eq,zau]at hx;exact⟨x,hx.1,hx.2.1.1,hx.2.1.2,hx.2.2,h⟩
 ·rintro⟨x,hx,h1,h2,h3,h4⟩;refine⟨x,List.mem_filter.2 ⟨hx,?_⟩,h4⟩;simp[h1,h2,h3,zb8]
structure Searched {α:Type} (r:α->α->Prop) (n:α) (queue seen:List α):Prop where
 reach:∀x,x∈queue\/x∈seen->Relation.TransGen r n x
 first:∀y,r n y->y∈seen\/y∈queue
 closed:∀x∈seen,∀y,r x y->y∈seen\/y∈queue
section
open Go.Shelf
end
section
open Go.Shelf
theorem zg0{fn:Func}{p q:Tmp}(h:fn.results= #[.cell p 31,.tmp q])(tmps:Array Value)(w:World)(B:Nat)(x0 x1 e:Value)(hp:tmps.getD p undef=.pointer (some ⟨B,0,none⟩))(hq:tmps.getD q undef=e)
 (hx:w.heap[B]?=some (.cells #[x0,x1] 31)):(results fn tmps).run Tryz.prog w=.ok (.tuple #[.agg #[x0,x1],e]) w:=by
 obtain⟨h0,h1⟩:=cF2 hx;clear hx;rw[Array.getD_eq_getD_getElem?]at hp hq;simp only[results,h];simp[Sem.run_bind,hp,hq];go_simp
theorem rMulI(a b c d:Int)(w:World)(ha:a.natAbs<=1000000000)(hb:b.natAbs<=1000000000)(hc:c.natAbs<=1000000000)(hd:d.natAbs<=1000000000)(ba:0<b)(ik:0<d)(_h:True):Calls Tryz.prog 168 #[.agg #[.int .i64 a,.int .i64 b],.agg #[.int .i64 c,.int .i64 d]] w (Ret w (zaA (Rat.divInt (a*c) (b*d)))):=by
 have m1:=zaN ha hd;have m2:=zaN hc hb;have m3:=zaN hb hd;have m4:0<b*d:=Int.mul_pos ba ik;obtain⟨m1,n1⟩:=m1;obtain⟨m2,n2⟩:=m2;obtain⟨m3,n3⟩:=m3;have w1:IntKind.i64.wrap (a*d)=a*d:=IntWalk.i64_in _ Mcy;have w2:IntKind.i64.wrap (c*b)=c*b:=IntWalk.i64_in _ Mcy;have w3:IntKind.i64.wrap (b*d)=b*d:=IntWalk.i64_in _ Mcy;have m5:=zaN ha hc;obtain⟨m5,n5⟩:=m5;have m6:=zaN hb hc;obtain⟨m6,n6⟩:=m6;have w5:IntKind.i64.wrap (a*c)=a*c:=IntWalk.i64_in _ Mcy;have w6:IntKind.i64.wrap (b*c)=b*c:=IntWalk.i64_in _ Mcy;have hs:(a*c).natAbs<=4611686018427387904:=Mcy;have hl:(b*d)<=4611686018427387904:=Mcy;have h4:0<(b*d):=m4;obtain⟨HS,HL,H4⟩:=yH3 hs hl h4;clear hs hl m4 h4 ha hb hc hd;go_enter Tryz.func168,Tryz.ntmps168
 go_wp2_with (go_at_call 186;go_must(refine(zeC _ _ _ HS.o H4.o HL.o).mono ?_);rintro e w1 ⟨rfl,z1,rfl⟩;simp only[zaA])
 refine bodyPost_ret (v:=zaA (Rat.divInt (a*c) (b*d))) ?_ rfl ?_
 ·exact Maf
 ·exact Ret.of rfl Bw
theorem zg1(p q:Rat)(w:World)(bU:zaI p)(dw:zaI q):Calls Tryz.prog 168 #[zaA p,zaA q] w (Ret w (zaA (p*q))):=by
 rw[zgI];exact rMulI _ _ _ _ _ bU.1 (by have:=bU.2;omega) dw.1 (by have:=dw.2;omega) (zbT p) (zbT q) trivial
def zh2(l:Parts)(n:ByteArray)(k:Nat):Int:=match(l.drop k).findIdx? fun p=>zae p.1 n with
 |none=> -1
 |some i=>((k+i:Nat):Int)
theorem zo9{l:Parts}{n:ByteArray}{k:Nat}(h:k<l.length):zh2 l n k=if zae l[k].1 n then(k:Int)else zh2 l n (k+1):=by
 unfold zh2;rw[List.drop_eq_getElem_cons h,List.findIdx?_cons];cases hs:zae l[k].1 n
 ·rw[if_neg McB,if_neg McB];cases(l.drop (k+1)).findIdx? fun p=>zae p.1 n with
  |none=>rfl
  |some i=>
   simp only[Option.map_some];omega
 ·rw[if_pos rfl,if_pos rfl];simp
theorem partI_end{l:Parts}{n:ByteArray}{k:Nat}(h:¬k<l.length):zh2 l n k= -1:=by
 unfold zh2;rw[List.drop_of_length_le Mcy];rfl
theorem zmF(l:Parts)(n:ByteArray):(zh2 l n 0= -1/\zag l n=0)\/∃(i:Nat) (h:i<l.length),zh2 l n 0=(i:Int)/\zag l n=l[i].2:=by
 unfold zh2 zag;rw[List.drop_zero];cases hx:l.findIdx? fun p=>zae p.1 n with
 |none=>
  refine .inl ⟨rfl,?_⟩;rw[List.findIdx?_eq_none_iff]at hx;have:l.find? (fun p=>zae p.1 n)=none:=by
   rw[List.find?_eq_none];intro p hp;rw[hx p hp];simp
  rw[this];rfl
 |some i=>
  rw[List.findIdx?_eq_some_iff_getElem]at hx;obtain⟨hi,h1,h2⟩:=hx;refine .inr ⟨i,hi,by simp,?_⟩;have:l.find? (fun p=>zae p.1 n)=some l[i]:=by
   rw[List.find?_eq_some_iff_getElem];exact⟨h1,i,hi,rfl,fun j hj=>by simpa using h2 j hj⟩
  rw[this];rfl
theorem rPart_any(l:Parts)(n:ByteArray)(A:Option Addr)(c:Nat)(w:World)(hl:l.length<=1000000000)(hS:Sl w 3 zaa A l):Calls Tryz.prog 40 #[.slice A l.length c,.string n] w (Ret0 w (.int .i64 (zh2 l n 0))):=by
 have HS:=zHi hS;obtain⟨R,hR⟩:∃R,R=zh2 l n 0:=⟨_,rfl⟩
 rw[<-hR];have HR:=zHi hR;clear hS hR;go_enter Tryz.func40,Tryz.ntmps40
 go_upto_region 2 with fail
 go_loopw [5] (fun i wr=>∃k:Nat,k<=l.length/\i=.int .i64 k/\w=wr/\Hid (R=zh2 l n k)) (fun i _=>l.length-(intOf i).toNat)
 case atStart=>exact⟨0,Nat.zero_le _,rfl,rfl,HR.o⟩
 case round=>
  obtain⟨k,hk,rfl,rfl,HX⟩:=hrel;by_cases ae:k<l.length
  ·obtain⟨b,off,rfl,hb,ah⟩:=HS.o.at ae;have hx:=HX.o;rw[zo9 ae]at hx;obtain⟨au,ak⟩:=yH2 hx ae;generalize l[k]=x at*;obtain⟨nm,q⟩:=x;have i0:w.cell? ⟨b,off+k*3,none⟩=some (.string nm):=ah 0 _ rfl;have ar:(k:Int)<(l.length:Int):=Mcy;have aQ:(0:Int)<=(k:Int):=Mcy;clear ah hx ae;cases hs:zae nm n
   ·have HE:Hid (R=zh2 l n (k+1)):=by show _=_;rw[au.o,hs];rfl
    have bn:(nm.toList==n.toList)=false:=hs;go_wp2_with fail
    exact MH
   ·have HE:Hid (R=(k:Int)):=by show _=_;rw[au.o,hs];rfl
    have bn:(nm.toList==n.toList)=true:=hs;exact M3
  ·have ar:¬(k:Int)<(l.length:Int):=Mcy;have HE:Hid (R= -1):=by show _=_;rw[HX.o,partI_end ae]
   exact M3
theorem zfg(l:Parts)(n:ByteArray)(A:Option Addr)(c:Nat)(w:World)(hl:l.length<=1000000000)(hS:Sl w 3 zaa A l):Calls Tryz.prog 14 #[.slice A l.length c,.string n] w (Ret w (zaA (zag l n))):=by
 have HP:=zHi (fun W (h:Below w.heap.size w W)=>rPart_any l n A c W hl (hS.keep h));rcases zmF l n with⟨h1,h2⟩|⟨i,hi,h1,h2⟩
 ·rw[h1]at HP;rw[h2];clear hS;go_enter Tryz.func14,Tryz.ntmps14
  go_wp2_with (first
   |(go_at_call 40;go_must(refine(HP.o _ Bw).mono ?_);rintro e wq ⟨rfl,rfl⟩)
   |(go_at_call 41;go_must(refine(ziC _).mono ?_);rintro e wq ⟨rfl,z,rfl⟩))
  refine bodyPost_ret (v:=zaA 0) ?_ rfl ?_
  ·exact Mcm
  ·exact Ret.of rfl Bw
 ·rw[h1]at HP;rw[h2];obtain⟨b,off,rfl,hb,ah⟩:=hS.at hi;generalize l[i]=x at*;obtain⟨nm,q⟩:=x;have i1:w.cell? ⟨b,off+i*3+1,none⟩=some (.int .i64 q.num):=ah 1 _ rfl;have i2:w.cell? ⟨b,off+i*3+2,none⟩=some (.int .i64 q.den):=ah 2 _ rfl;have ar:(i:Int)<(l.length:Int):=Mcy;have aQ:(0:Int)<=(i:Int):=Mcy;clear hS ah h1 h2;go_enter Tryz.func14,Tryz.ntmps14
  go_wp2_with (go_at_call 40;go_must(refine(HP.o _ Bw).mono ?_);rintro e wq ⟨rfl,rfl⟩)
  refine bodyPost_ret (v:=zaA q) ?_ rfl ?_
  ·exact Mcm
  ·exact Ret.of rfl Bw
end
open Go.Shelf
def zoA:Go.Shelf.Ren:=⟨fun|54=>35|64=>66|65=>65|78=>104|79=>105|80=>95|81=>96|82=>97|83=>98|84=>99|85=>100|61=>101|86=>102|87=>103|93=>128|89=>129|90=>130|94=>131|95=>132|69=>133|97=>161|n=>n,fun|25=>36|26=>9|3=>3|51=>128|0=>0|67=>164|69=>166|4=>4|61=>158|60=>157|44=>124|5=>5|9=>9|75=>181|79=>185|83=>206|84=>207|n=>n,fun|n=>n⟩
theorem srtStr:Go.Proofs.SlLaysN.n54 Tryz.prog zoA:= {
 mixed:=by kernel_rfl
 f54:=⟨Tryz.f35.name,by decide,Tryz.func35.trans (congrArg some Mcz)⟩
 f61:=⟨Tryz.f101.name,by decide,Tryz.func101.trans (congrArg some Mcz)⟩
 f64:=Tryz.func66.trans (congrArg some Mcz)
 f65:=⟨Tryz.f65.name,by decide,Tryz.func65.trans (congrArg some Mcz)⟩
 f69:=⟨Tryz.f133.name,by decide,Tryz.func133.trans (congrArg some Mcz)⟩
 f78:=Tryz.func104.trans (congrArg some Mcz)
 f79:=Tryz.func105.trans (congrArg some Mcz)
 f80:=⟨Tryz.f95.name,by decide,Tryz.func95.trans (congrArg some Mcz)⟩
 f81:=⟨Tryz.f96.name,by decide,Tryz.func96.trans (congrArg some Mcz)⟩
 f82:=⟨Tryz.f97.name,by decide,Tryz.func97.trans (congrArg some Mcz)⟩
 f83:=⟨Tryz.f98.name,by decide,Tryz.func98.trans (congrArg some Mcz)⟩
 f84:=⟨Tryz.f99.name,by decide,Tryz.func99.trans (congrArg some Mcz)⟩
 f85:=⟨Tryz.f100.name,by decide,Tryz.func100.trans (congrArg some Mcz)⟩
 f86:=⟨Tryz.f102.name,by decide,Tryz.func102.trans (congrArg some Mcz)⟩
 f87:=⟨Tryz.f103.name,by decide,Tryz.func103.trans (congrArg some Mcz)⟩
 f89:=Tryz.func129.trans (congrArg some Mcz)
 f90:=Tryz.func130.trans (congrArg some Mcz)
 f93:=⟨Tryz.f128.name,by decide,Tryz.func128.trans (congrArg some Mcz)⟩
 f94:=⟨Tryz.f131.name,by decide,Tryz.func131.trans (congrArg some Mcz)⟩
 f95:=⟨Tryz.f132.name,by decide,Tryz.func132.trans (congrArg some Mcz)⟩
 f97:=⟨Tryz.f161.name,by decide,Tryz.func161.trans (congrArg some Mcz)⟩
 t0:=Tryz.underlying0
 a0:=Tryz.isAgg0
 z0:=Tryz.sizeOf0
 v0:=Tryz.zeroValue0
 t3:=Tryz.underlying3
 a3:=Tryz.isAgg3
 z3:=Tryz.sizeOf3
 v3:=Tryz.zeroValue3
 t4:=Tryz.underlying4
 a4:=Tryz.isAgg4
 z4:=Tryz.sizeOf4
 v4:=Tryz.zeroValue4
 t5:=Tryz.underlying5
 a5:=Tryz.isAgg5
 z5:=Tryz.sizeOf5
 v5:=Tryz.zeroValue5
 t9:=Tryz.underlying9
 a9:=Tryz.isAgg9
 z9:=Tryz.sizeOf9
 v9:=Tryz.zeroValue9
 t25:=Tryz.underlying36
 a25:=Tryz.isAgg36
 z25:=Tryz.sizeOf36
 v25:=Tryz.zeroValue36
 t26:=Tryz.underlying9
 a26:=Tryz.isAgg9
 z26:=Tryz.sizeOf9
 v26:=Tryz.zeroValue9
 t44:=Tryz.underlying124
 a44:=Tryz.isAgg124
 z44:=Tryz.sizeOf124
 v44:=Tryz.zeroValue124
 t51:=Tryz.underlying128
 a51:=Tryz.isAgg128
 z51:=Tryz.sizeOf128
 v51:=Tryz.zeroValue128
 t60:=Tryz.underlying157
 a60:=Tryz.isAgg157
 z60:=Tryz.sizeOf157
 v60:=Tryz.zeroValue157
 t61:=Tryz.underlying158
 a61:=Tryz.isAgg158
 z61:=Tryz.sizeOf158
 v61:=Tryz.zeroValue158
 t67:=Tryz.underlying164
 a67:=Tryz.isAgg164
 z67:=Tryz.sizeOf164
 v67:=Tryz.zeroValue164
 t69:=Tryz.underlying166
 a69:=Tryz.isAgg166
 z69:=Tryz.sizeOf166
 v69:=Tryz.zeroValue166
 t75:=Tryz.underlying181
 a75:=Tryz.isAgg181
 z75:=Tryz.sizeOf181
 v75:=Tryz.zeroValue181
 t79:=Tryz.underlying185
 a79:=Tryz.isAgg185
 z79:=Tryz.sizeOf185
 v79:=Tryz.zeroValue185
 t83:=Tryz.underlying206
 a83:=Tryz.isAgg206
 z83:=Tryz.sizeOf206
 v83:=Tryz.zeroValue206
 t84:=Tryz.underlying207
 a84:=Tryz.isAgg207
 z84:=Tryz.sizeOf207
 v84:=Tryz.zeroValue207}

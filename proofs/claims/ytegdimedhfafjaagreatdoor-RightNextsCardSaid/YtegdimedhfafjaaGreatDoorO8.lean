import Derived.Test.YtegdimedhfafjaaGreatDoorO7
import Derived.Test.YtegdimedhfafjaaGreatDoorJQ
import Derived.Test.YtegdimedhfafjaaGreatDoorE6
set_option linter.all false
set_option maxRecDepth 100000
set_option maxHeartbeats 4000000
namespace Go.Proofs.YtegdimedhfafjaaGreatDoor
open Go.RowKit
attribute [local go_sem] World.cell?_alloc_mark zaf za5 zao za8 zav zaw zax zay zaz za0 za1
attribute [local go_sem] zaq zad
theorem zl7(l:Parts)(h:∀p∈l,0<p.2)(k:Nat):sumQ (l.take k)<=sumQ l:=by
 induction l generalizing k with
 |nil=>simp
 |cons p l ih=>
  cases k with
  |zero=>
   have h1:0<=sumQ l:=by
    have:=ih (fun q hq=>h q Mdl) 0;simpa[sumQ]using this
   have:=h p Mcp;rw[List.take_zero,sumQ,sumQ];grind
  |succ k=>
   have:=ih (fun q hq=>h q Mdl) k;rw[List.take_succ_cons,sumQ,sumQ];grind
structure WillInv (y:(Parts×Bool)×Rat):Prop where
 flag:y.1.2=false
 bd:Bd y.1.1 (1-y.2)
 isN:IsN 720720 y.2
 nn:0<=y.2
 le:y.2<=1
 small:zaJ y.2
theorem zk3{s:St}{frm:ByteArray}{l:Parts}(hw:WillOk l)(k:Nat):WillInv (zdd s frm (l.take k) ([],false) 1):=by
 have hp:∀p∈l.take k,0<p.2:=fun p hp=>hw.pos p (List.mem_of_mem_take hp)
 have hN:∀p∈l.take k,IsN 720720 p.2:=fun p hp=>hw.isN p (List.mem_of_mem_take hp)
 have h1:=zg0 (s:=s) (frm:=frm) (rest:=1) hp hN zd6 Mcp;obtain⟨g1,g2,g3,g4,g5⟩:=zig (s:=s) (frm:=frm) (out:=[]) (rest:=1) hp hN (Rat.le_trans (zl7 l hw.pos k) hw.le) zd6 Mcp (zgY _);rw[h1];have gs:zaF (zco s frm (l.take k) [] 1).1=false:=zc1 Mco Mco g2;have hn:=zbs (fun p hp=>by have:=g1.pos p hp;grind) (l:=(zco s frm (l.take k) [] 1).1);have ay:sumQ ([]:Parts)=0:=rfl;rw[ay]at g5;have bG:(zco s frm (l.take k) [] 1).2<=1:=McG;exact⟨rfl,⟨g1,gs,by grind⟩,g3,g4,bG,zcb g4 bG (zeu Mco Mco g3)⟩
theorem zl8{α:Type}{p q:α->Bool}:∀ {l:List α},(∀x∈l,p x=true->q x=true)->(∃x∈l,q x=true/\p x=false)->(l.filter p).length<(l.filter q).length
 | [],_,h=>by obtain⟨x,hx,_⟩:=h;cases hx
 |y::l,h1,h2=>by
  have bG:∀ {l:List α},(∀x∈l,p x=true->q x=true)->(l.filter p).length<=(l.filter q).length:=by
   intro l;induction l with
   |nil=>intro _;simp
   |cons z l ih=>
    intro h;have:=ih (fun x hx=>h x (by simp[hx]));cases hp:p z
    ·cases hq:q z<;>simp[hp,hq]<;>omega
    ·have hq:=h z Mcp hp;simp[hp,hq];omega
  have hl:=bG (l:=l) (fun x hx=>h1 x (by simp[hx]));obtain⟨x,hx,h3,h4⟩:=h2;rcases List.mem_cons.1 hx with rfl|hx
  ·simp[h3,h4];omega
  ·have:=zl8 (l:=l) (fun x hx=>h1 x (by simp[hx])) ⟨x,hx,h3,h4⟩;cases hp:p y
   ·cases hq:q y<;>simp[hp,hq]<;>omega
   ·have hq:=h1 y Mcp hp;simp[hp,hq];omega
open Classical in
noncomputable def zl9 (s:St) (n:ByteArray):Nat:=(s.children.filter fun e=>decide (e.1=n\/Desc s n e.1)).length
theorem zmQ{s:St}(ha:∀a,¬Desc s a a){n c:ByteArray}(hc:c∈zai s n):zl9 s c<zl9 s n:=by
 unfold zl9;have hd:=zfz hc;refine zl8 (fun e _ h=>?_) ⟨(n,c),zdp.1 hc,by simp,?_⟩
 ·simp only[decide_eq_true_eq]at h⊢;rcases h with h|h
  ·right;rw[h];exact hd
  ·right;exact zgT hd h
 ·simp only[decide_eq_false_iff_not,not_or];refine⟨fun e=>?_,fun h=>?_⟩
  ·have Kv:Desc s n n:=by
    have:=hd;rw[<-show n=c from e]at this;exact this
   exact ha n Kv
  ·exact ha n (zgT hd h)
theorem deep_of{s:St}(ha:∀a,¬Desc s a a):∀(f:Nat) (n:ByteArray),zl9 s n<f->Deep s f n
 |0,_,h=>by omega
 |f+1,n,h=>fun c hc=>deep_of ha f c (by have:=zmQ ha hc;omega)
theorem zk4{s:St}(ha:∀a,¬Desc s a a)(n:ByteArray):Deep s (zaX s) n:=deep_of ha _ n (by
 unfold zaX zl9
 exact Nat.lt_succ_of_le (List.length_filter_le _ _))
theorem part_big{q:Rat}(h0:0<q)(hb:bigQ q=false):1<=(1000000000:Rat)*q:=by
 unfold bigQ at hb;have hd:(q.den:Int)<=1000000000:=Mev;have hz:((q.den:Int):Rat)≠0:=ratI (by have:=q.den_pos;omega);have h1:q=q.num/((q.den:Int):Rat):=by rw[<-Rat.divInt_eq_div,Rat.num_divInt_den]
 have pH:q*((q.den:Int):Rat)=q.num:=by
  have:=Rat.div_mul_cancel (a:=(q.num:Rat)) hz;rw[<-h1]at this;exact this
 have hq:0<q.num:=by have:=(Rat.lt_iff 0 q).1 h0;simpa using this
 have h2:((1:Int):Rat)<=(q.num:Rat):=Rat.intCast_le_intCast.2 hq;have h3:((q.den:Int):Rat)<=((1000000000:Int):Rat):=Rat.intCast_le_intCast.2 hd;have h4:=Rat.mul_le_mul_of_nonneg_left h3 (show(0:Rat)<=q by grind);rw[pH]at h4;have e1:((1:Int):Rat)=1:=rfl;have e2:((1000000000:Int):Rat)=1000000000:=rfl;rw[e1]at h2;rw[e2]at h4;grind
theorem zlA:∀ {l:Parts},(∀p∈l,0<p.2)->zaF l=false->(l.length:Rat)<=1000000000*sumQ l
 | [],_,_=>by
   have:((([]:Parts).length:Nat):Rat)=0:=rfl;rw[this,sumQ];grind
 |p::l,h1,h2=>by
  unfold zaF at h2;rw[List.any_cons,Bool.or_eq_false_iff]at h2;have h3:=part_big (h1 p Mcp) h2.1;have h4:=zlA (l:=l) (fun q hq=>h1 q Mdl) h2.2;rw[List.length_cons,zg5,sumQ];grind
theorem Bd.len{out:Parts}{t:Rat}(h:Bd out t)(ht:t<=1):out.length<=1000000000:=by
 have h1:=zlA h.good.pos h.small;have h2:=h.le;have h3:((out.length:Int):Rat)<=((1000000000:Int):Rat):=by
  have e2:((1000000000:Int):Rat)=1000000000:=rfl;rw[e2,Rat.intCast_natCast];grind
 have:=Rat.intCast_le_intCast.1 h3;omega
open Go.Shelf
def intC(n:Nat):List Value:=[.int .i64 (n:Int)]
theorem zg6(n:Nat):(intC n).length=1:=rfl
theorem intC_one(n:Nat):∀u∈intC n,u.oneCell'=true:=by simp[intC,Value.oneCell']
theorem zg7(x:Rec):(Rec.cells x).length=8:=rfl
theorem recC_one(x:Rec):∀u∈Rec.cells x,u.oneCell'=true:=by simp[Rec.cells,Value.oneCell']
theorem elRec:ElTy Tryz.prog 59 58 8 88:=zd3 (z:=.agg #[.int .i64 0,.string ⟨#[]⟩,.string ⟨#[]⟩,.string ⟨#[]⟩,.int .i64 0,.int .i64 0,.int .i64 0,.int .i64 0]) Mcn Mcn rfl Mco
theorem of_snoc{l:List Rec}{set:List Nat}{k:Nat}(hk:k<set.length)(hl:set[k]<l.length):ofP l (set.take (k+1))=ofP l (set.take k)++[l[set[k]]]:=by
 unfold ofP;rw[List.take_succ_eq_append_getElem hk,List.filterMap_append];simp[List.getElem?_eq_getElem hl]
theorem of_len(l:List Rec)(set:List Nat):(ofP l set).length<=set.length:=List.length_filterMap_le _ _
theorem sl_rec{w:World}{b:Nat}{x:Rec}{t:TypeId}{fr:Nat×Nat}(h:w.heap[b]?=some (.cells (Rec.cells x).toArray t fr)):Sl w 8 Rec.cells (some ⟨b,0,none⟩) [x]:=fun _=>⟨b,0,rfl,zab h,fun k y hy j u hu=>by
 have hk:k=0:=Mcy;subst hk;simp only[List.getElem?_cons_zero,Option.some.injEq]at hy;subst hy;simp only[World.cell?,h,Nat.zero_mul,Nat.zero_add,Nat.add_zero]
 simpa using hu⟩
theorem some_any(l:List Rec)(set:List Nat)(A:Option Addr)(c:Nat)(SA:Option Addr)(sc:Nat)(w:World)(hc:l.length<=c)(H9:set.length<=sc)(aV:set.length<=1000)(aQ:∀i∈set,i<l.length)(hS:Sl w 8 Rec.cells A l)(hT:Sl w 1 intC SA set):
 Calls Tryz.prog 42 #[.slice A l.length c,.slice SA set.length sc] w (fun e w'=>∃v,e=.returned v/\OwnS w' w.heap.size 58 8 Rec.cells v (ofP l set)/\Below w.heap.size w w'):=by
 obtain⟨HS,HT,bX⟩:=yH3 hS hT aQ;clear hS hT aQ;go_enter Tryz.func42,Tryz.ntmps42
 go_wp2_with fail
 go_loopw [5,10] (fun v i wr=>∃k:Nat,k<=set.length/\i=.int .i64 k/\OwnS wr w.heap.size 58 8 Rec.cells v (ofP l (set.take k))/\Below w.heap.size w wr) (fun _ i _=>set.length-(intOf i).toNat)
 case atStart=>exact⟨0,Nat.zero_le _,rfl,OwnS.nil,Below.refl _ _⟩
 case round=>
  obtain⟨k,hk,rfl,ae,hB⟩:=hrel;obtain⟨VA,vc,rfl,_,jV⟩:=ae.sl zg7;obtain⟨HO,HB⟩:=yH2 ae hB;have aE:=hB.size;by_cases aa:k<set.length
  ·obtain⟨b,off,rfl,hb,ah⟩:=(HT.o.keep hB).at aa;have hi:=bX.o set[k] (List.getElem_mem aa);have bR:=of_snoc aa hi;have i0:wr.cell? ⟨b,off+k,none⟩=some (.int .i64 (set[k]:Int)):=McT;have iZ:=of_len l (set.take k);rw[List.length_take]at iZ;have ed:=zHi bR;clear bR ah;generalize set[k]=m at*;obtain⟨rb,roff,rfl,yo,oV⟩:=(HS.o.keep hB).at hi;have am:=zHi aa;generalize l[m]=x at*;generalize ofP l (set.take k)=acc at*;obtain⟨kd,nm,ot,pl,dy,tl,nu,de⟩:=x;have j0:wr.cell? ⟨rb,roff+m*8,none⟩=some (.int .i64 kd):=oV 0 _ rfl;have j1:wr.cell? ⟨rb,roff+m*8+1,none⟩=some (.string nm):=oV 1 _ rfl;have j2:wr.cell? ⟨rb,roff+m*8+2,none⟩=some (.string ot):=oV 2 _ rfl;have j3:wr.cell? ⟨rb,roff+m*8+3,none⟩=some (.string pl):=oV 3 _ rfl;have j4:wr.cell? ⟨rb,roff+m*8+4,none⟩=some (.int .i64 dy):=oV 4 _ rfl;have j5:wr.cell? ⟨rb,roff+m*8+5,none⟩=some (.int .i64 tl):=oV 5 _ rfl;have j6:wr.cell? ⟨rb,roff+m*8+6,none⟩=some (.int .i64 nu):=oV 6 _ rfl;have j7:wr.cell? ⟨rb,roff+m*8+7,none⟩=some (.int .i64 de):=oV 7 _ rfl;have au:(k:Int)<(set.length:Int):=Mcm;have aP:(0:Int)<=(k:Int):=Mcm;have fD:(k:Int)<=(sc:Int):=Mcm;have fH:(m:Int)<(l.length:Int):=Mcm;have nJ:(0:Int)<=(m:Int):=Mcm;have sK:(m:Int)<=(c:Int):=Mcm;have jQ:acc.length<=1000:=Mcm;clear oV ae hB iZ
   go_wp2_with (at_builtin
                go_loud(refine zau (v:=.slice VA acc.length vc) (n:=acc.length) (m:=1) rfl _ _ rfl elRec zg7 recC_one rfl (xs:=acc) (ys:=[⟨kd,nm,ot,pl,dy,tl,nu,de⟩]) (HO.o.keep (n:=wr.heap.size) Bw) rfl rfl rfl (sl_rec (zas _ _ _ rfl)) McL Mcm Mcr ?_)
                intro v3 w3 h1 h2 h3;have aC:=Below.grown (B:=w.heap.size) (a:=w) (HB.o.trans (Below.mono (B:=wr.heap.size) (zac (Below.refl _ _) _) aE)) h2 Mcr (fun j hj=>(HO.o.ge j hj).1);obtain⟨H1,aL⟩:=yH2 h1 aC
                clear h1 h2 h3 aC)
   go_round
   case rel=>exact⟨k+1,am.o,by go_num,by rw[ed.o];exact H1.o,aL.o⟩
   case measure=>have:=am.o;simp only[intOf];omega
  ·have au:¬(k:Int)<(set.length:Int):=Mcm;have oM:set.take k=set:=List.take_of_length_le Mcm;clear ae;generalize bu:ofP l (set.take k)=xs at*;rw[oM]at bu;subst bu;clear oM;go_wp2_with fail
   go_ret
   exact⟨_,rfl,HO.o,HB.o⟩
def cmpJ(a b:Int):Int:=if a<b then-1 else if b<a then 1 else 0
theorem nanJ_any(n:Int)(w:World):Calls Tryz.prog 118 #[.int .i64 n] w (Ret0 w (.bool false)):=by
 go_enter Tryz.func118,Tryz.ntmps118
 go_wp2
 go_ret
 exact⟨by simp,rfl⟩
theorem cmpJ_any(a b:Int)(w:World):Calls Tryz.prog 74 #[.int .i64 a,.int .i64 b] w (Ret0 w (.int .i64 (cmpJ a b))):=by
 have hX:a<b/\cmpJ a b= -1\/¬a<b/\b<a/\cmpJ a b=1\/¬a<b/\¬b<a/\cmpJ a b=0:=by
  unfold cmpJ;by_cases h:a<b
  ·exact .inl ⟨h,by simp[h]⟩
  ·by_cases h2:b<a
   ·exact .inr (.inl ⟨h,h2,by simp[h,h2]⟩)
   ·exact .inr (.inr ⟨h,h2,by simp[h,h2]⟩)
 rcases hX with⟨h1,hr⟩|⟨h1,h2,hr⟩|⟨h1,h2,hr⟩<;>rw[hr]<;>clear hr<;>
 (go_enter Tryz.func74,Tryz.ntmps74
  go_wp2_with (go_at_call 118;refine(nanJ_any _ _).mono ?_;rintro e wq ⟨rfl,rfl⟩)
  go_ret
  exact⟨rfl,rfl⟩)
def lexC:List Nat->List Nat->Int
 | [],[]=>0
 | [],_::_=> -1
 |_::_,[]=>1
 |a::x,b::y=>if a<b then-1 else if b<a then 1 else lexC x y
theorem zmR(a b:List Nat)(A B:Option Addr)(ac bc:Nat)(w:World)(ha:a.length<=ac)(hb:b.length<=bc)(Kf:a.length<=1000)(hS:Sl w 1 intC A a)(hT:Sl w 1 intC B b):
 Calls Tryz.prog 40 #[.slice A a.length ac,.slice B b.length bc] w (Ret0 w (.int .i64 (lexC a b))):=by
 obtain⟨HS,HT⟩:=yH2 hS hT;obtain⟨R,hR⟩:∃R,R=lexC (a.drop 0) (b.drop 0):=⟨_,rfl⟩
 rw[show lexC a b=R from by rw[hR];rfl];have HR:=zHi hR;clear hS hT hR;go_enter Tryz.func40,Tryz.ntmps40
 go_wp2_with fail
 go_loopw [11] (fun i wr=>∃k:Nat,k<=a.length/\k<=b.length/\i=.int .i64 k/\Hid (wr=w)/\Hid (R=lexC (a.drop k) (b.drop k))) (fun i _=>a.length-(intOf i).toNat)
 case atStart=>exact⟨0,Nat.zero_le _,Nat.zero_le _,rfl,rfl,HR.o⟩
 case round=>
  obtain⟨k,hk,pU,rfl,hw,HX⟩:=hrel;have hw:=hw.o;subst hw;have aP:(0:Int)<=(k:Int):=Mcm;have hkA:(k:Int)<=(ac:Int):=Mcm;have hkB:(k:Int)<=(bc:Int):=Mcm;by_cases aa:k<a.length
  ·have au:(k:Int)<(a.length:Int):=Mcm;obtain⟨b1,o1,rfl,_,c1⟩:=HS.o.at aa;have i0:=c1 0 _ rfl;rw[Nat.mul_one,Nat.add_zero]at i0;by_cases br:k<b.length
   ·have L2:(k:Int)<(b.length:Int):=Mcm;have xy:¬(b.length:Int)<=(k:Int):=Mcm;obtain⟨b2,o2,rfl,_,c2⟩:=HT.o.at br;have j0:=c2 0 _ rfl;rw[Nat.mul_one,Nat.add_zero]at j0;have hx:=HX.o;rw[List.drop_eq_getElem_cons aa,List.drop_eq_getElem_cons br,lexC]at hx;obtain⟨am,qN⟩:=yH2 aa br;generalize a[k]=m at*;generalize b[k]=n at*;obtain⟨av,HC⟩:=yH2 hx (fun W=>cmpJ_any m n W);clear hx c1 c2;by_cases h1:m<n
    ·have hc:cmpJ m n= -1:=by unfold cmpJ;rw[if_pos Mcm]
     have bw:Hid (R= -1):=by show _=_;rw[av.o,if_pos h1]
     exact MaQ
    ·by_cases h2:n<m
     ·have hc:cmpJ m n=1:=by unfold cmpJ;rw[if_neg Mcm,if_pos Mcm]
      have bw:Hid (R=1):=by show _=_;rw[av.o,if_neg h1,if_pos h2]
      exact MaQ
     ·have hc:cmpJ m n=0:=by unfold cmpJ;rw[if_neg Mcm,if_neg Mcm]
      have bw:Hid (R=lexC (a.drop (k+1)) (b.drop (k+1))):=by show _=_;rw[av.o,if_neg h1,if_neg h2]
      rw[hc]at HC;go_wp2_with (go_at_call 74;go_must(refine(HC.o _).mono ?_);rintro e wq ⟨rfl,rfl⟩)
      go_round
      case rel=>exact⟨k+1,am.o,qN.o,by go_num,by first|exact True.intro|rfl,bw.o⟩
      case measure=>have:=am.o;simp only[intOf];omega
   ·have xy:(b.length:Int)<=(k:Int):=Mcm;have hx:=HX.o;rw[List.drop_eq_getElem_cons aa,show b.drop k=[]from List.drop_eq_nil_of_le Mcm,lexC]at hx;have bw:Hid (R=1):=hx;clear hx c1;go_wp2_with fail
    exact Ma1
  ·have au:¬(k:Int)<(a.length:Int):=Mcm;have hx:=HX.o;rw[show a.drop k=[]from List.drop_eq_nil_of_le Mcm]at hx;by_cases br:k<b.length
   ·have cF:(a.length:Int)<(b.length:Int):=Mcm;rw[List.drop_eq_getElem_cons br,lexC]at hx;have bw:Hid (R= -1):=hx;clear hx;go_wp2_with fail
    exact Ma1
   ·have cF:¬(a.length:Int)<(b.length:Int):=Mcm;rw[show b.drop k=[]from List.drop_eq_nil_of_le Mcm,lexC]at hx;have bw:Hid (R=0):=hx;clear hx;go_wp2_with fail
    exact Ma1
theorem zk5(xs:List DV)(L:Option Addr)(n lc:Nat)(w:World)(hn:n=xs.length)(hl:xs.length<=100000)(hS:Sl w 7 DV.cells L xs):
 Calls Tryz.prog 24 #[.slice L n lc] w (zfk w 28 7 DV.cells xs):=by
 have HM:=zHi hn;have q22:∀(w:World) (a:Option Addr) (n c n' c':Nat),(binOp .eql 23 (.slice a n c) (.slice none n' c')).run Tryz.prog w=.ok (.bool a.isNone) w:=fun w a n c n' c'=>Lib.run_eql_slice_nil w _ _ a n c n' c' Tryz.underlying23
 clear hn;go_enter Tryz.func24,Tryz.ntmps24
 cases L with
 |none=>
  exact MM
 |some ad=>
  go_wp2_with (at_builtin;refine zck rfl _ _ rfl zex zbn zew rfl (World.ownsRow_made w #[] 0 (Nat.le_refl _) (Nat.zero_le _) Mcp) rfl HM.o (hS.keep Bw) ?q1 ?q2 Mcp ?_)
  case q1=>simp[maxLen,HM.o];omega
  case q2=>simp[HM.o];omega
  intro v' w' h1 h2 h3;go_wp2_with fail
  go_ret
  refine⟨v',rfl,OwnS.of_own zbn MdW,Below.grown Bw h2 Mcp Mc7⟩
theorem zlB(xs:List Law)(L:Option Addr)(n lc:Nat)(w:World)(hn:n=xs.length)(hl:xs.length<=100000)(hS:Sl w 4 Law.cells L xs):
 Calls Tryz.prog 23 #[.slice L n lc] w (zfk w 72 4 Law.cells xs):=by
 have HM:=zHi hn;have q22:∀(w:World) (a:Option Addr) (n c n' c':Nat),(binOp .eql 22 (.slice a n c) (.slice none n' c')).run Tryz.prog w=.ok (.bool a.isNone) w:=fun w a n c n' c'=>Lib.run_eql_slice_nil w _ _ a n c n' c' Tryz.underlying22
 clear hn;go_enter Tryz.func23,Tryz.ntmps23
 cases L with
 |none=>
  exact MM
 |some ad=>
  go_wp2_with (at_builtin;refine zck rfl _ _ rfl elLaw (fun _=>rfl) lw_one rfl (World.ownsRow_made w #[] 0 (Nat.le_refl _) (Nat.zero_le _) Mcp) rfl HM.o (hS.keep Bw) ?q1 ?q2 Mcp ?_)
  case q1=>simp[maxLen,HM.o];omega
  case q2=>simp[HM.o];omega
  intro v' w' h1 h2 h3;go_wp2_with fail
  go_ret
  refine⟨v',rfl,OwnS.of_own (fun _=>rfl) MdW,Below.grown Bw h2 Mcp Mc7⟩
theorem zjj(xs:List RPart)(L:Option Addr)(n lc:Nat)(w:World)(hn:n=xs.length)(hl:xs.length<=100000)(hS:Sl w 3 RPart.cells L xs):
 Calls Tryz.prog 57 #[.slice L n lc] w (zfk w 62 3 RPart.cells xs):=by
 have HM:=zHi hn;have q22:∀(w:World) (a:Option Addr) (n c n' c':Nat),(binOp .eql 26 (.slice a n c) (.slice none n' c')).run Tryz.prog w=.ok (.bool a.isNone) w:=fun w a n c n' c'=>Lib.run_eql_slice_nil w _ _ a n c n' c' Tryz.underlying26
 clear hn;go_enter Tryz.func57,Tryz.ntmps57
 cases L with
 |none=>
  exact MM
 |some ad=>
  go_wp2_with (at_builtin;refine zck rfl _ _ rfl elRPart zfm rp_one rfl (World.ownsRow_made w #[] 0 (Nat.le_refl _) (Nat.zero_le _) Mcp) rfl HM.o (hS.keep Bw) ?q1 ?q2 Mcp ?_)
  case q1=>simp[maxLen,HM.o];omega
  case q2=>simp[HM.o];omega
  intro v' w' h1 h2 h3;go_wp2_with fail
  go_ret
  refine⟨v',rfl,OwnS.of_own zfm MdW,Below.grown Bw h2 Mcp Mc7⟩
theorem dv_of{W:World}{A:Option Addr}{ds:List Deed}(h:SlW W 7 zdY A ds):∃xs:List DV,xs.map (·.d)=ds/\(∀x∈xs,x.d.to.length<=x.c/\Sl W 3 RPart.cells x.B x.d.to)/\Sl W 7 DV.cells A xs:=by
 by_cases h0:ds=[]
 ·subst h0;exact⟨[],rfl,by simp,fun h=>absurd h Mcp⟩
 ·have hl:0<ds.length:=by cases ds with
   |nil=>exact absurd rfl h0
   |cons _ _=>simp
  obtain⟨b,off,hA,hb,hc⟩:=h hl;have hx:∀(k:Nat) (hk:k<ds.length),∃y:DV,y.d=ds[k]/\y.d.to.length<=y.c/\Sl W 3 RPart.cells y.B y.d.to/\∀j u,y.cells[j]?=some u->W.cell? ⟨b,off+k*7+j,none⟩=some u:=fun k hk=>by
   obtain⟨cs,⟨B,c,h1,h2,h3⟩,h4⟩:=hc k _ (List.getElem?_eq_getElem hk);refine⟨⟨ds[k],B,c⟩,rfl,h1,h3,fun j u hu=>h4 j u ?_⟩;rw[h2];exact hu
  have b9:∀n,n<=ds.length->∃xs:List DV,xs.map (·.d)=ds.take n/\(∀x∈xs,x.d.to.length<=x.c/\Sl W 3 RPart.cells x.B x.d.to)/\∀k x,xs[k]?=some x->∀j u,x.cells[j]?=some u->W.cell? ⟨b,off+k*7+j,none⟩=some u:=by
   intro n;induction n with
   |zero=>intro _;exact⟨[],by simp,by simp,by simp⟩
   |succ n ih=>
    intro hn;obtain⟨xs,h1,h2,h3⟩:=ih Mcm;obtain⟨y,e1,e2,e3,e4⟩:=hx n Mcm;have ag:xs.length=n:=by
     have:=congrArg List.length h1;simp at this;omega
    refine⟨xs++[y],?_,?_,?_⟩
    ·rw[List.map_append,h1,List.take_add_one,List.getElem?_eq_getElem (show n<ds.length by omega)];simp[e1]
    ·intro x uu;rcases List.mem_append.1 uu with uu|uu
     ·exact h2 x uu
     ·rw[List.mem_singleton]at uu;subst uu;exact⟨e2,e3⟩
    ·intro k x hk;by_cases jB:k<n
     ·rw[List.getElem?_append_left Mcm]at hk;exact h3 k x hk
     ·have fQ:k=n:=by
       exact MbJ
      subst fQ;rw[List.getElem?_append_right Mcm,ag]at hk;simp at hk;subst hk;exact e4
  obtain⟨xs,h1,h2,h3⟩:=b9 ds.length (Nat.le_refl _);rw[List.take_length]at h1;exact⟨xs,h1,h2,fun _=>⟨b,off,hA,hb,h3⟩⟩

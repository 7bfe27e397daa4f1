import Derived.Test.YthhgkjfgpkbliaaGreatDoorO0
import Derived.Test.YthhgkjfgpkbliaaGreatDoorJ6
set_option linter.all false
set_option maxRecDepth 100000
set_option maxHeartbeats 4000000
namespace Go.Proofs.YthhgkjfgpkbliaaGreatDoor
open Go.RowKit
attribute [local go_sem] World.cell?_alloc_mark zae zav zai zaw zam zan zao zap zaq zar zas
attribute [local go_sem] zah zac
structure Found (s:St) (nm:ByteArray) (out xs:List ByteArray):Prop where
 nd:out.Nodup
 desc:∀n∈out,Desc s nm n
 from':∀x∈xs,x=nm\/x∈out
 seen:∀x,(x=nm\/x∈out)->x∈xs\/∀c∈zaf s x,c∈out
structure Look (s:St) (nm x:ByteArray) (j:Nat) (out xs:List ByteArray):Prop where
 nd:out.Nodup
 desc:∀n∈out,Desc s nm n
 from':∀x∈xs,x=nm\/x∈out
 seen:∀y,(y=nm\/y∈out)->y∈xs\/y=x\/∀c∈zaf s y,c∈out
 mine:x=nm\/x∈out
 done:∀c∈(zaf s x).take j,c∈out
theorem zkB(s:St)(nm:ByteArray):Found s nm [] [nm]:=⟨List.nodup_nil,by simp,by simp,fun x hx=> .inl (by simpa using hx)⟩
theorem found_pop{s:St}{nm x:ByteArray}{out xs:List ByteArray}(h:Found s nm out (x::xs)):Look s nm x 0 out xs:=
 ⟨h.nd,h.desc,fun y hy=>h.from' y (by simp[hy]),fun y hy=>by
   rcases h.seen y hy with h1|h1
   ·rcases List.mem_cons.1 h1 with rfl|h1
    ·exact .inr (.inl rfl)
    ·exact .inl h1
   ·exact .inr (.inr h1),h.from' x MbF,by simp⟩
theorem look_end{s:St}{nm x:ByteArray}{out xs:List ByteArray}(h:Look s nm x (zaf s x).length out xs):Found s nm out xs:=
 ⟨h.nd,h.desc,h.from',fun y hy=>by
   rcases h.seen y hy with h1|rfl|h1
   ·exact .inl h1
   ·exact .inr fun c hc=>h.done c Mcv
   ·exact .inr h1⟩
theorem look_old{s:St}{nm x:ByteArray}{j:Nat}{out xs:List ByteArray}(h:Look s nm x j out xs)(hj:j<(zaf s x).length)(hc:(zaf s x)[j]∈out):Look s nm x (j+1) out xs:=
 ⟨h.nd,h.desc,h.from',h.seen,h.mine,fun c ar=>by
   rw[List.take_succ_eq_append_getElem hj]at ar;rcases List.mem_append.1 ar with h1|h1
   ·exact h.done c h1
   ·rw[List.mem_singleton.1 h1];exact hc⟩
theorem zl5{s:St}{nm x:ByteArray}{j:Nat}{out xs:List ByteArray}(h:Look s nm x j out xs)(hj:j<(zaf s x).length)(hc:(zaf s x)[j]∉out):Look s nm x (j+1) (out++[(zaf s x)[j]]) (xs++[(zaf s x)[j]]):=by
 have b8:(zaf s x)[j]∈zaf s x:=List.getElem_mem _;refine⟨?_,fun n hn=>?_,fun y hy=>?_,fun y hy=>?_,?_,fun c ar=>?_⟩
 ·exact List.nodup_append.2 ⟨h.nd,by simp,fun a ha b hb e=>by rw[List.mem_singleton.1 hb]at e;exact hc (e▸ha)⟩
 ·rcases List.mem_append.1 hn with h1|h1
  ·exact h.desc n h1
  ·rw[List.mem_singleton.1 h1];rcases h.mine with rfl|hm
   ·exact zew b8
   ·exact zgI (h.desc x hm) b8
 ·rcases List.mem_append.1 hy with h1|h1
  ·rcases h.from' y h1 with h2|h2
   ·exact .inl h2
   ·exact .inr (by simp[h2])
  ·exact .inr (by simp[List.mem_singleton.1 h1])
 ·rcases hy with hy|hy
  ·rcases h.seen y (.inl hy)with h1|h1|h1
   ·exact .inl (by simp[h1])
   ·exact .inr (.inl h1)
   ·exact .inr (.inr fun c hc=>by simp[h1 c hc])
  ·rcases List.mem_append.1 hy with h1|h1
   ·rcases h.seen y (.inr h1)with h2|h2|h2
    ·exact .inl (by simp[h2])
    ·exact .inr (.inl h2)
    ·exact .inr (.inr fun c hc=>by simp[h2 c hc])
   ·exact .inl (by simp[List.mem_singleton.1 h1])
 ·rcases h.mine with h1|h1
  ·exact .inl h1
  ·exact .inr (by simp[h1])
 ·rw[List.take_succ_eq_append_getElem hj]at ar;rcases List.mem_append.1 ar with h1|h1
  ·simp[h.done c h1]
  ·simp[List.mem_singleton.1 h1]
theorem found_end{s:St}{nm:ByteArray}{out:List ByteArray}(h:Found s nm out []):∀n,n∈out↔Desc s nm n:=fun n=>by
 refine⟨h.desc n,fun hd=>zgH (out:=fun x=>x∈out) ?_ ?_ hd⟩
 ·intro c hc;rcases h.seen nm (.inl rfl)with h1|h1
  ·simp at h1
  ·exact h1 c hc
 ·intro x hx c hc;rcases h.seen x (.inr hx)with h1|h1
  ·simp at h1
  ·exact h1 c hc
theorem zl6{α:Type}[DecidableEq α]:∀ {a b:List α},a.Nodup->(∀x∈a,x∈b)->a.length<=b.length
 | [],_,_,_=>Nat.zero_le _
 |x::a,b,h,hs=>by
  have h':=List.nodup_cons.1 h;have hx:x∈b:=hs x MbF;have h1:a.length<=(b.erase x).length:=zl6 h'.2 fun y hy=>by
   have ag:y≠x:=fun e=>h'.1 (e▸hy)
   exact(List.mem_erase_of_ne ag).2 (hs y (by simp[hy]))
  have h2:=List.length_erase_of_mem hx;have h3:0<b.length:=List.length_pos_of_mem hx;simp only[List.length_cons];omega
theorem out_few{s:St}{nm:ByteArray}{out:List ByteArray}(hn:out.Nodup)(hd:∀n∈out,Desc s nm n):out.length<=s.children.length:=by
 have wk:∀n∈out,n∈s.children.map (·.2):=fun n CI=>by
  have:∃y,(y,n)∈s.children:=by
   cases hd n CI with
   |single h=>exact⟨nm,zcJ.1 h⟩
   |tail _ h=>exact⟨_,zcJ.1 h⟩
  obtain⟨y,hy⟩:=this;exact List.mem_map.2 ⟨(y,n),hy,rfl⟩
 haveI:DecidableEq ByteArray:=fun a b=>Classical.propDecidable _
 have:=zl6 hn wk;simpa using this
theorem zd8{y:Int}(h:0<=y):zlp y=y/4-y/100+y/400:=by
 unfold zlp;rw[Int.tdiv_eq_ediv_of_nonneg h,Int.tdiv_eq_ediv_of_nonneg h,Int.tdiv_eq_ediv_of_nonneg h]
theorem zl7{y:Int}(h:0<=y):zhF y=((y%4==0&&y%100 != 0)||y%400==0):=by
 unfold zhF;rw[Int.tmod_eq_emod_of_nonneg h,Int.tmod_eq_emod_of_nonneg h,Int.tmod_eq_emod_of_nonneg h]
def leapQ(y:Int):Bool:=y.tmod 4==0&&(y.tmod 100 != 0||y.tmod 400==0)
theorem leapQ_eq{y:Int}(h:0<=y):leapQ y=zhF y:=by
 rw[zl7 h];unfold leapQ;rw[Int.tmod_eq_emod_of_nonneg h,Int.tmod_eq_emod_of_nonneg h,Int.tmod_eq_emod_of_nonneg h,Bool.eq_iff_iff];simp only[Bool.and_eq_true,Bool.or_eq_true,beq_iff_eq,bne_iff_ne];omega
def begP(y:Int):Int:=365*(y-1800)+zlp (y-1)-436
theorem zcb(y:Int):zaL y 1=begP y:=by
 unfold zaL begP;simp[zdF]
theorem beg_up{y:Int}(h:1800<=y):begP (y+1)=begP y+365+(if zhF y then 1 else 0):=by
 unfold begP;rw[zd8 MbC,zd8 MbC,zl7 MbC];have e:y+1-1=y:=MbC;rw[e];split
 ·exact Ma0
 ·exact Ma0
theorem beg_low{day:Int}(h0:0<=day)(h1:day<=200000):begP (1800+day.tdiv 366)<=day:=by
 unfold begP;rw[Int.tdiv_eq_ediv_of_nonneg h0,zd8 MbC];omega
theorem beg_high{day:Int}(h0:0<=day)(h1:day<=200000):day<begP (1800+day.tdiv 366+10+1):=by
 unfold begP;rw[Int.tdiv_eq_ediv_of_nonneg h0,zd8 MbC];omega
theorem zl8(y:Int){m:Nat}(h1:1<=m)(h2:m<=12):zaB y m=if(m:Int)==2&&zhF y then 29 else[31,28,31,30,31,30,31,31,30,31,30,31].getD (m-1) 0:=by
 unfold zaB;have:m=1\/m=2\/m=3\/m=4\/m=5\/m=6\/m=7\/m=8\/m=9\/m=10\/m=11\/m=12:=by omega
 rcases this with rfl|rfl|rfl|rfl|rfl|rfl|rfl|rfl|rfl|rfl|rfl|rfl<;>rfl
theorem zfm(y:Int){m:Nat}(h1:1<=m)(h2:m<=12):28<=zaB y m/\zaB y m<=31:=by
 rw[zl8 y h1 h2];have:m=1\/m=2\/m=3\/m=4\/m=5\/m=6\/m=7\/m=8\/m=9\/m=10\/m=11\/m=12:=by omega
 rcases this with rfl|rfl|rfl|rfl|rfl|rfl|rfl|rfl|rfl|rfl|rfl|rfl<;>simp<;>split<;>simp
theorem zgz(y:Int){m:Nat}(h:1<=m):zaL y (m+1)=zaL y m+zaB y m:=by
 obtain⟨k,rfl⟩:∃k,m=k+1:=⟨m-1,by omega⟩
 unfold zaL;simp only[Nat.add_sub_cancel,zdF];have:((k+1:Nat):Int)=(k:Int)+1:=by omega
 rw[this];omega
theorem zmp{y:Int}(h:1800<=y):zaL (y+1) 1=zaL y 12+zaB y 12:=by
 rw[zcb,beg_up h,<-zcb,show(12:Int)=((12:Nat):Int) by rfl,<-zgz y MbC];unfold zaL;have e:zdF y (12+1-1)=365+(if zhF y then 1 else 0):=by
  simp only[zdF,zaB,lensP];cases zhF y<;>simp
 rw[e];simp[zdF];omega
structure DateIs (day y:Int) (m:Nat):Prop where
 y0:1800<=y
 y1:y<=2400
 m0:1<=m
 m1:m<=12
 lo:zaL y m<=day
 hi:day<zaL y m+zaB y m
theorem year_step{day:Int}{f:Nat}{y:Int}(h:zaL (y+1) 1<=day):zeA day (f+1) y=zeA day f (y+1):=by
 rw[zeA,if_pos McB]
theorem year_stop{day:Int}{y:Int}(h:¬zaL (y+1) 1<=day):∀f,zeA day f y=y
 |0=>rfl
 |f+1=>by rw[zeA,if_neg McB]
theorem zmq{day y:Int}{f m:Nat}(hm:m<12)(h:zaL y (m+1)<=day):zdt day y (f+1) m=zdt day y f (m+1):=by
 rw[zdt,if_pos (by simp[hm,h])]
theorem zmr{day y:Int}{m:Nat}(h:¬(m<12/\zaL y (m+1)<=day)):∀f,zdt day y f m=m
 |0=>rfl
 |f+1=>by rw[zdt,if_neg McB]
section
open Go.Shelf
def zfn:List Int:=[31,28,31,30,31,30,31,31,30,31,30,31]
def LensIn(w:World):Prop:=1<w.heap.size/\∀(k:Nat) (n:Int),zfn[k]?=some n->w.cell? ⟨1,k,none⟩=some (.int .i64 n)
theorem LensIn.keep{w W:World}{n:Nat}(h:LensIn w)(hB:Below n w W)(hn:w.heap.size<=n:=by first|exact Nat.le_refl _|omega):LensIn W:=
 ⟨Nat.lt_of_lt_of_le h.1 hB.size,fun k x hx=>(hB.cell (p:=⟨1,_,none⟩) (Nat.lt_of_lt_of_le h.1 hn)).trans (h.2 k x hx)⟩
theorem zdJ(n lo hi:Int)(w:World):Calls Tryz.prog 84 #[.int .i64 n,.int .i64 lo,.int .i64 hi] w (Ret0 w (.bool (inR n lo hi))):=by
 go_enter Tryz.func84,Tryz.ntmps84
 go_wp2_with fail
 all_goals go_ret
 all_goals exact⟨by first|(simp_all[inR];done)|(simp_all[inR];omega),rfl⟩
theorem zfG(n:Int)(w:World):Calls Tryz.prog 83 #[.int .i64 n] w (Ret0 w (.bool (zbu n))):=by
 go_enter Tryz.func83,Tryz.ntmps83
 go_wp2_with (go_at_call 84;refine(zdJ _ _ _ _).mono ?_;rintro e wq ⟨rfl,rfl⟩)
 go_ret
 exact⟨rfl,rfl⟩
theorem zms(y:Int)(w:World)(h0:0<=y)(h1:y<=100000):Calls Tryz.prog 189 #[.int .i64 y] w (Ret0 w (.bool (zhF y))):=by
 rw[<-leapQ_eq h0];have w1:wrap64 (y.tmod 4)=y.tmod 4:=Mb9;have w2:wrap64 (y.tmod 100)=y.tmod 100:=Mb9;have w3:wrap64 (y.tmod 400)=y.tmod 400:=Mb9;have v1:IntKind.i64.wrap (y.tmod 4)=y.tmod 4:=Mb6;have v2:IntKind.i64.wrap (y.tmod 100)=y.tmod 100:=Mb6;have v3:IntKind.i64.wrap (y.tmod 400)=y.tmod 400:=Mb6;go_enter Tryz.func189,Tryz.ntmps189
 go_wp2_with fail
 all_goals go_ret
 all_goals exact⟨by simp[leapQ,Int.tmod_eq_emod_of_nonneg h0, *],rfl⟩
theorem zez(y:Int)(m:Nat)(w:World)(hL:LensIn w)(h0:0<=y)(h1:y<=100000)(cO:1<=m)(gz:m<=12):Calls Tryz.prog 126 #[.int .i64 y,.int .i64 m] w (Ret0 w (.int .i64 (zaB y m))):=by
 have hd:=zl8 y cO gz;have aa:m-1<zfn.length:=by simp[zfn];omega
 have hc:=hL.2 (m-1) _ (List.getElem?_eq_getElem aa);have hg:zfn.getD (m-1) 0=zfn[m-1]:=Mb5;have bp:[31,28,31,30,31,30,31,31,30,31,30,31].getD (m-1) 0=zfn[m-1]:=hg;rw[bp]at hd;generalize zfn[m-1]=len at hc hd;have hw:IntKind.i64.wrap ((m:Int)-1)=(m:Int)-1:=IntWalk.i64_in _ MbC;have tg:(0:Int)<=(m:Int)-1:=MbC;have cY:(m:Int)-1<12:=MbC;have fI:((m:Int)-1).toNat=m-1:=MbC;have HD:=zHi hd;clear hd hg bp hL aa;by_cases h2:m=2
 ·subst h2;cases hl:zhF y
  ·exact M8
  ·exact M8
 ·have hb:((m:Int)==2)=false:=McL;have cw:¬(m:Int)=2:=MbC;go_enter Tryz.func126,Tryz.ntmps126
  go_wp2_with fail
  go_ret
  exact⟨by rw[HD.o,hb];simp,rfl⟩
theorem zhd(y:Int)(w:World)(h0:1800<=y)(h1:y<=100000):Calls Tryz.prog 188 #[.int .i64 y] w (Ret0 w (.int .i64 (begP y))):=by
 have hp:0<=y-1:=MbC;have e1:(y-1).tdiv 4=(y-1)/4:=Int.tdiv_eq_ediv_of_nonneg hp;have e2:(y-1).tdiv 100=(y-1)/100:=Int.tdiv_eq_ediv_of_nonneg hp;have e3:(y-1).tdiv 400=(y-1)/400:=Int.tdiv_eq_ediv_of_nonneg hp;have hv:begP y=365*(y-1800)+(y-1)/4-(y-1)/100+(y-1)/400-436:=by unfold begP;rw[zd8 hp];omega
 have HV:=zHi hv;clear hv;have k0:IntKind.i64.wrap (y-1)=y-1:=IntWalk.i64_in _ MbC;have k1:IntKind.i64.wrap (y-1800)=y-1800:=IntWalk.i64_in _ MbC;have k2:IntKind.i64.wrap (365*(y-1800))=365*(y-1800):=IntWalk.i64_in _ MbC;go_enter Tryz.func188,Tryz.ntmps188
 go_wp2_with fail
 go_ret
 refine⟨congrArg Ending.returned (zbU ?_),rfl⟩;rw[HV.o]
theorem zcL{y:Int}{m:Nat}(h0:1800<=y)(h1:y<=2500)(cO:1<=m)(gz:m<=13):0<=zaL y m/\zaL y m<=1000000:=by
 have hb:begP y=365*(y-1800)+(y-1)/4-(y-1)/100+(y-1)/400-436:=by unfold begP;rw[zd8 MbC];omega
 have h:∀k:Nat,k<=12->begP y<=zaL y (k+1)/\zaL y (k+1)<=begP y+31*k:=fun k=>by
  induction k with
  |zero=>intro _;rw[zcb];omega
  |succ k ih=>
   intro hk;have:=ih MbC;have h2:=zgz y (show 1<=k+1 by omega);have h3:=zfm y (show 1<=k+1 by omega) (show k+1<=12 by omega);omega
 obtain⟨k,rfl⟩:∃k,m=k+1:=⟨m-1,by omega⟩
 have:=h k MbC;omega
theorem dayOf_any(y:Int)(m:Nat)(d:Int)(w:World)(hL:LensIn w)(h0:1800<=y)(h1:y<=2500)(cO:1<=m)(gz:m<=12)(kw:0<=d)(ip:d<=1000):
 Calls Tryz.prog 125 #[.int .i64 y,.int .i64 m,.int .i64 d] w (Ret0 w (.int .i64 (zaL y m+d-1))):=by
 have dG:=zcL (m:=1) h0 h1 MbC MbC;rw[zcb]at dG;have k0:IntKind.i64.wrap (begP y+d)=begP y+d:=IntWalk.i64_in _ MbC;have k1:IntKind.i64.wrap (begP y+d-1)=begP y+d-1:=IntWalk.i64_in _ MbC;go_enter Tryz.func125,Tryz.ntmps125
 go_wp2_with (go_at_call 188;refine(zhd _ _ h0 MbC).mono ?_;rintro e wq ⟨rfl,rfl⟩)
 go_loop [7,8] (fun n i=>∃k:Nat,1<=k/\k<=m/\i=.int .i64 k/\n=.int .i64 (zaL y k+d-1)) (fun _ i=>m-(intOf i).toNat)
 case atStart=>exact⟨1,by omega,cO,rfl,by rw[zcb]⟩
 case round=>
  obtain⟨k,cM,eR,rfl,rfl⟩:=hrel;by_cases aa:k<m
  ·have hb:=zcL (m:=k) h0 h1 cM MbC;have nN:=zfm y cM (show k<=12 by omega);have hu:=zgz y cM;have HU:=zHi hu;have k2:IntKind.i64.wrap (zaL y k+d-1+zaB y k)=zaL y k+d-1+zaB y k:=IntWalk.i64_in _ MbC;have aT:(k:Int)<(m:Int):=MbC;clear hu;go_wp2_with (go_at_call 126;refine(zez y k _ hL MbC MbC cM MbC).mono ?_;rintro e wq ⟨rfl,rfl⟩)
   go_round
   case rel=>exact⟨k+1,by omega,by omega,by go_num,by rw[HU.o];exact zbU MbC⟩
   case measure=>simp[intOf];omega
  ·obtain rfl:k=m:=by omega
   have aT:¬(k:Int)<(k:Int):=MbC;exact Map
def dateV(y m d:Int):Value:=.agg #[.int .i64 y,.int .i64 m,.int .i64 d]
theorem zjv{fn:Func}{p:Tmp}(h:fn.results= #[.cell p 180])(tmps:Array Value)(w:World)(B:Nat)(x y z:Int)(hp:tmps.getD p undef=.pointer (some ⟨B,0,none⟩))
 (h0:w.cell? ⟨B,0,none⟩=some (.int .i64 x))(h1:w.cell? ⟨B,1,none⟩=some (.int .i64 y))(h2:w.cell? ⟨B,2,none⟩=some (.int .i64 z)):(results fn tmps).run Tryz.prog w=.ok (dateV x y z) w:=by
 rw[zd3 h,hp];unfold dateV;go_simp
theorem J_set3{w:World}{g:Nat}{z0 z1 z2 a b c:Value}{t:TypeId}{fr:Nat×Nat}(h:w.heap[g]?=some (.cells #[z0,z1,z2] t fr)):(((w.setCell ⟨g,0,none⟩ a).setCell ⟨g,1,none⟩ b).setCell ⟨g,2,none⟩ c).heap[g]?=some (.cells #[a,b,c] t fr):=by
 have:=Joins.block_setCell (i:=2) (Joins.block_setCell (i:=1) (Joins.block_setCell (i:=0) h a) b) c;simpa using this
theorem zmt(day:Int)(w:World)(hL:LensIn w)(h0:0<=day)(h1:day<=200000):
 Calls Tryz.prog 124 #[.int .i64 day] w (fun e w'=>DateIs day (zcR day) (zbV day)/\Ret w (dateV (zcR day) (zbV day) (day-zaL (zcR day) (zbV day)+1)) e w'):=by
 have cX:=beg_low h0 h1;have iv:=beg_high h0 h1;have yk:day.tdiv 366=day/366:=Int.tdiv_eq_ediv_of_nonneg h0;have mO:0<=day/366:=MbC;have dJ:day/366<=546:=MbC;rw[yk]at cX iv;have zo:zcR day=zeA day 10 (1800+day/366):=by unfold zcR;rw[yk]
 obtain⟨HY,HH⟩:=yH2 zo iv;clear zo iv;go_enter Tryz.func124,Tryz.ntmps124
 go_wp2_with fail
 go_loopg [] 10 (fun gg wr=>∃(f:Nat) (y:Int),f<=gg/\y+f=1800+day/366+10/\1800<=y/\y<=2400/\Hid (zcR day=zeA day f y)/\Hid (begP y<=day)/\Below w.heap.size w wr/\wr.heap[w.heap.size]?=some (.cells #[.int .i64 0,.int .i64 0,.int .i64 0] 180)/\wr.heap[w.heap.size+1]?=some (.cells #[.int .i64 y,.int .i64 1,.int .i64 0] 180))
 case atStart=>exact⟨10,1800+day/366,Nat.le_refl _,by omega,by omega,by omega,HY.o,cX,Bw,zal (za3 _ _ _ rfl),za3 _ _ _ MbF⟩
 case round=>
  obtain⟨f,y,hf,hyf,rS,wy,xu,zw,hB,g0,g1⟩:=hrel;have a0:wr.cell? ⟨w.heap.size+1,0,none⟩=some (.int .i64 y):=MbI;have a1:wr.cell? ⟨w.heap.size+1,1,none⟩=some (.int .i64 1):=MbI;have a2:wr.cell? ⟨w.heap.size+1,2,none⟩=some (.int .i64 0):=MbI;have z0:wr.frozen? ⟨w.heap.size+1,0,none⟩=false:=MbY;have z1:wr.frozen? ⟨w.heap.size+1,1,none⟩=false:=MbY;have z2:wr.frozen? ⟨w.heap.size+1,2,none⟩=false:=MbY;have b0:wr.cell? ⟨w.heap.size,0,none⟩=some (.int .i64 0):=MbG;have b1:wr.cell? ⟨w.heap.size,1,none⟩=some (.int .i64 0):=MbG;have b2:wr.cell? ⟨w.heap.size,2,none⟩=some (.int .i64 0):=MbG;have x0:wr.frozen? ⟨w.heap.size,0,none⟩=false:=MbX;have x1:wr.frozen? ⟨w.heap.size,1,none⟩=false:=MbX;have x2:wr.frozen? ⟨w.heap.size,2,none⟩=false:=MbX;have e1:w.heap.size+1<wr.heap.size:=zad g1;have e0:w.heap.size<wr.heap.size:=zad g0;have hLr:=hL.keep hB;have k0:IntKind.i64.wrap (y+1)=y+1:=IntWalk.i64_in _ MbC;by_cases hc:begP (y+1)<=day
  ·have hf1:f≠0:=by
    rintro rfl;have:=HH.o;rw[show y=1800+day/366+10 by omega]at hc;omega
   obtain⟨f',rfl⟩:∃f',f=f'+1:=⟨f-1,by omega⟩
   have HN:Hid (zcR day=zeA day f' (y+1)):=by
    show _=_;rw[xu.o,year_step (by rw[zcb];exact hc)]
   have HC:=zHi hc;go_wp2_with (go_at_call 188;refine(zhd _ _ MbC MbC).mono ?_;rintro e wq ⟨rfl,rfl⟩)
   go_roundg f'
   case measure=>omega
   case rel=>
    refine⟨f',y+1,Nat.le_refl _,by omega,by omega,by omega,HN,HC.o,by repeat(first|exact B_refl|exact Below.refl _ _|assumption|with_reducible refine zau ?_ _|with_reducible refine zbH ?_ _|with_reducible refine zaI ?_|with_reducible refine zdY ?_ _|with_reducible refine zaU ?_ (by dsimp only;omega) _),J_ne MbC g0,?_⟩;have:=Joins.block_setCell (i:=0) g1 (.int .i64 (y+1));simpa using this
  ·have HN:Hid (zcR day=y):=by
    show _=_;rw[xu.o,year_stop (by rw[zcb];exact hc)]
   have vz:=zcL (m:=1) rS MbC MbC MbC;rw[zcb]at vz;have k1:IntKind.i64.wrap (day-begP y)=day-begP y:=IntWalk.i64_in _ MbC;have yJ:zbV day=zdt day y 12 1:=by unfold zbV;rw[HN.o]
   have Ag:=zHi yJ;have zp:day<zaL y 12+zaB y 12:=by
    rw[<-zmp rS,zcb];omega
   have AQ:=zHi zp;have ol:=zw.o;have od:Hid (zaL y 1<=day):=by show _<=_;rw[zcb];exact ol
   clear yJ zp ol;obtain⟨G0,G1⟩:=yH2 g0 g1;go_upto_region 5 with(go_at_call 188;refine(zhd _ _ MbC MbC).mono ?_;rintro e wq ⟨rfl,rfl⟩)
   clear a0 a1 a2 z0 z1 z2 b0 b1 b2 x0 x1 x2 g0 g1;go_loopg [0] 12 (fun gg v wm=>∃(m:Nat),1<=m/\m<=12/\12-m<=gg/\v=.int .i64 (day-zaL y m)/\Hid (zbV day=zdt day y (13-m) m)/\Hid (zaL y m<=day)/\Below w.heap.size w wm/\wm.heap[w.heap.size]?=some (.cells #[.int .i64 0,.int .i64 0,.int .i64 0] 180)/\wm.heap[w.heap.size+1]?=some (.cells #[.int .i64 y,.int .i64 m,.int .i64 0] 180))
   case atStart=>exact⟨1,by omega,by omega,by omega,by rw[zcb],Ag.o,od.o,hB,G0.o,G1.o⟩
   case round=>
    obtain⟨m,cO,gz,j8,rfl,HM,Ab,AZ,g0,g1⟩:=hrel;have a0:wr.cell? ⟨w.heap.size+1,0,none⟩=some (.int .i64 y):=MbI;have a1:wr.cell? ⟨w.heap.size+1,1,none⟩=some (.int .i64 m):=MbI;have a2:wr.cell? ⟨w.heap.size+1,2,none⟩=some (.int .i64 0):=MbI;have z0:wr.frozen? ⟨w.heap.size+1,0,none⟩=false:=MbY;have z1:wr.frozen? ⟨w.heap.size+1,1,none⟩=false:=MbY;have z2:wr.frozen? ⟨w.heap.size+1,2,none⟩=false:=MbY;have b0:wr.cell? ⟨w.heap.size,0,none⟩=some (.int .i64 0):=MbG;have b1:wr.cell? ⟨w.heap.size,1,none⟩=some (.int .i64 0):=MbG;have b2:wr.cell? ⟨w.heap.size,2,none⟩=some (.int .i64 0):=MbG;have x0:wr.frozen? ⟨w.heap.size,0,none⟩=false:=MbX;have x1:wr.frozen? ⟨w.heap.size,1,none⟩=false:=MbX;have x2:wr.frozen? ⟨w.heap.size,2,none⟩=false:=MbX;have e1:w.heap.size+1<wr.heap.size:=zad g1;have e0:w.heap.size<wr.heap.size:=zad g0;have xN:=hL.keep AZ;have nN:=zfm y cO gz;have vA:=zcL (m:=m) rS MbC cO MbC;have hu:=zgz y cO;have HU:=zHi hu;have kF:=Ab.o;have k2:IntKind.i64.wrap (day-zaL y m-zaB y m)=day-zaL y m-zaB y m:=IntWalk.i64_in _ MbC;have k3:IntKind.i64.wrap ((m:Int)+1)=(m:Int)+1:=IntWalk.i64_in _ MbC;have k4:IntKind.i64.wrap (day-zaL y m+1)=day-zaL y m+1:=IntWalk.i64_in _ MbC;by_cases bY:zaB y m<=day-zaL y m
    ·have vO:m<12:=by
      rcases Nat.lt_or_ge m 12 with h|h
      ·exact h
      ·have:=AQ.o;obtain rfl:m=12:=by omega
       rw[show((12:Nat):Int)=12 from rfl]at bY;omega
     have jn:Hid (zbV day=zdt day y (13-(m+1)) (m+1)):=by
      show _=_;rw[HM.o,show 13-m=(13-(m+1))+1 by omega,zmq vO (by rw[hu];omega)]
     have qI:zaL y (m+1)<=day:=by rw[hu];omega
     have dY:=zHi qI;clear hu kF qI;go_wp2_with (go_at_call 126;refine(zez y m _ xN MbC MbC cO gz).mono ?_;rintro e wq ⟨rfl,rfl⟩)
     go_roundg (12-(m+1))
     case measure=>omega
     case rel=>
      refine⟨m+1,by omega,by omega,Nat.le_refl _,by rw[HU.o];exact zbU MbC,jn,dY.o,by repeat(first|exact B_refl|exact Below.refl _ _|assumption|with_reducible refine zau ?_ _|with_reducible refine zbH ?_ _|with_reducible refine zaI ?_|with_reducible refine zdY ?_ _|with_reducible refine zaU ?_ (by dsimp only;omega) _),J_ne MbC g0,?_⟩;have:=Joins.block_setCell (i:=1) g1 (.int .i64 ((m:Int)+1));simpa using this
    ·have jn:Hid (zbV day=m):=by
      show _=_;rw[HM.o,zmr (by rw[hu];omega)]
     have HD:Hid (DateIs day (zcR day) (zbV day)):=by
      show DateIs _ _ _;rw[HN.o,jn.o];exact⟨rS,by omega,cO,gz,kF,by omega⟩
     clear hu kF;go_wp2_with (go_at_call 126;refine(zez y m _ xN MbC MbC cO gz).mono ?_;rintro e wq ⟨rfl,rfl⟩)
     refine bodyPost_ret (v:=dateV (zcR day) (zbV day) (day-zaL (zcR day) (zbV day)+1)) ?_ rfl ?_
     ·rw[HN.o,jn.o];have g2:=J_set3 (a:=.int .i64 y) (b:=.int .i64 m) (c:=.int .i64 (day-zaL y m+1)) (J_ne (b:=w.heap.size+1) (o:=2) (v:=.int .i64 (day-zaL y m+1)) MbC g0);refine zjv rfl _ _ w.heap.size _ _ _ rfl ?_ ?_ ?_;all_goals simp[World.cell?,g2]
     ·exact⟨HD.o,Ret.of rfl (by repeat(first|exact B_refl|exact Below.refl _ _|assumption|with_reducible refine zau ?_ _|with_reducible refine zbH ?_ _|with_reducible refine zaI ?_|with_reducible refine zdY ?_ _|with_reducible refine zaU ?_ (by dsimp only;omega) _))⟩
theorem zmu(day mo:Int)(w:World)(hL:LensIn w)(h0:0<=day)(h1:day<=200000)(nR: -12000<=mo)(cO:mo<=12000):
 Calls Tryz.prog 85 #[.int .i64 day,.int .i64 mo] w (fun e w'=>∃n:Int,∃ok:Bool,(ok=true->zct day mo=n/\0<=n)/\(ok=false->zct day mo= -1)/\Ret w (.tuple #[.int .i64 n,.bool ok]) e w'):=by
 have hA:zct day mo=if !inR ((zcR day*12+zbV day-1+mo)/12) 1800 2347 then-1 else
  if zbu (zaL ((zcR day*12+zbV day-1+mo)/12) ((zcR day*12+zbV day-1+mo)%12+1).toNat+min (day-zaL (zcR day) (zbV day)+1) (zaB ((zcR day*12+zbV day-1+mo)/12) ((zcR day*12+zbV day-1+mo)%12+1))-1)then
   zaL ((zcR day*12+zbV day-1+mo)/12) ((zcR day*12+zbV day-1+mo)%12+1).toNat+min (day-zaL (zcR day) (zbV day)+1) (zaB ((zcR day*12+zbV day-1+mo)/12) ((zcR day*12+zbV day-1+mo)%12+1))-1 else-1:=rfl
 have HA:=zHi hA;clear hA;have HD:=zHi (fun W h=>zmt day W h h0 h1);generalize zcR day=y at*;generalize zbV day=m at*;generalize zct day mo=R at*;go_enter Tryz.func85,Tryz.ntmps85
 go_upto_region 2 with(go_at_call 124;refine(HD.o _ hL).mono ?_;rintro e wq ⟨sM,rfl,z,rfl⟩;simp only[dateV])
 obtain⟨d1,d2,d3,d4,d5,d6⟩:=sM;obtain⟨f1,f2⟩:=zfm y d3 d4;obtain⟨X,hX⟩:∃X,X=day-zaL y m+1:=⟨_,rfl⟩
 obtain⟨N,hN⟩:∃N,N=12*y+m-1+mo:=⟨_,rfl⟩
 have jV:Hid (R=if !inR (N/12) 1800 2347 then-1 else if zbu (zaL (N/12) (N%12+1).toNat+min X (zaB (N/12) (N%12+1))-1)then zaL (N/12) (N%12+1).toNat+min X (zaB (N/12) (N%12+1))-1 else-1):=by
  show _=_;rw[HA.o,hX,hN,show y*12+(m:Int)-1+mo=12*y+m-1+mo by omega]
 have hX1:1<=X:=MbC;have nJ:X<=31:=MbC;rw[<-hX];have k1:IntKind.i64.wrap (12*y)=12*y:=IntWalk.i64_in _ MbC;have k2:IntKind.i64.wrap (12*y+m)=12*y+m:=IntWalk.i64_in _ MbC;have k3:IntKind.i64.wrap (12*y+m-1)=12*y+m-1:=IntWalk.i64_in _ MbC;have k4:IntKind.i64.wrap (12*y+m-1+mo)=N:=by rw[hN];exact IntWalk.i64_in _ MbC
 have Bq: -20000<=N/\N<=100000:=MbC;obtain⟨Br,Bt⟩:=Bq;clear HA hX hN HD d5 d6 f1 f2;by_cases hN0:N<0
 ·have uM:inR (N/12) 1800 2347=false:=by simp[inR];omega
  have HR:Hid (R= -1):=by show _=_;rw[jV.o,uM];rfl
  clear uM;go_wp2_with fail
  go_ret2
  exact⟨0,false,by simp,fun _=>HR.o,Ret.of rfl Bw⟩
 ·have uM:0<=N:=MbC;have mO:0<=N/12:=MbC;obtain⟨mm,cq⟩:∃mm:Nat,(mm:Int)=N%12+1:=⟨(N%12+1).toNat,by omega⟩
  have dI:1<=mm:=MbC;have mJ:mm<=12:=MbC;have ht:(N%12+1).toNat=mm:=MbC;have ng:Hid (R=if !inR (N/12) 1800 2347 then-1 else if zbu (zaL (N/12) mm+min X (zaB (N/12) mm)-1)then zaL (N/12) mm+min X (zaB (N/12) mm)-1 else-1):=by
   show _=_;rw[jV.o,ht,<-cq]
  have k5:IntKind.i64.wrap (N%12+1)=(mm:Int):=by rw[cq];exact IntWalk.i64_in _ MbC
  obtain⟨Y,hY⟩:∃Y,N/12=Y:=⟨_,rfl⟩
  rw[hY]at ng;have hY1:Y<=10000:=MbC;have dJ:0<=Y:=MbC;clear jV ht;have tY:=zHi cq;clear cq;cases aB:inR Y 1800 2347
  ·have HR:Hid (R= -1):=by show _=_;rw[ng.o,aB];rfl
   go_wp2_with (go_at_call 84;refine(zdJ _ _ _ _).mono ?_;rintro e wq ⟨rfl,rfl⟩;rw[aB])
   all_goals go_ret2
   all_goals exact⟨0,false,by simp,fun _=>HR.o,Ret.of rfl Bw⟩
  ·have yf:1800<=Y/\Y<=2347:=by simpa[inR]using aB
   obtain⟨f1,f2⟩:=zfm Y dI mJ;have vz:=zcL (m:=mm) yf.1 MbC dI MbC;have HR:Hid (R=if zbu (zaL Y mm+min X (zaB Y mm)-1)then zaL Y mm+min X (zaB Y mm)-1 else-1):=by show _=_;rw[ng.o,aB];rfl
   have cQ:Hid (∀W,Below w.heap.size w W->LensIn W):=fun W h=>hL.keep h
   clear ng hL;go_upto_region 6 with(go_at_call 84;refine(zdJ _ _ _ _).mono ?_;rintro e wq ⟨rfl,rfl⟩;rw[aB])
   obtain⟨wX,wK⟩:=yH2 (fun W (hW:Below w.heap.size w W)=>zez Y mm W (cQ.o _ hW) dJ MbC dI mJ) (fun d W (hW:Below w.heap.size w W) (gv:0<=d) (kw:d<=1000)=>dayOf_any Y mm d W (cQ.o _ hW) yf.1 MbC dI mJ gv kw);generalize zaB Y mm=L at*;clear vz;refine zaA MbE MbE ?_;repeat(first|go_big_quiet_skip|(go_big_quiet_want;go_big_quiet_op;first|go_big_quiet_on|(apply Exists.intro;refine⟨fun _=>?_,?_⟩;(first|(go_at_call 126;exact zkr (wX.o _ Bw))|(go_at_call 125;exact zkr (wK.o _ _ Bw MbC MbC)));go_big_quiet_on)))
   refine wpQuiet_nil ?_;rintro _ ⟨zq,rfl⟩;generalize hO:zaL Y mm+min X L-1=out at*;have HO:=zHi hO;clear hO wX wK cQ;cases hd:zbu out
   ·have gD:=zHi hd;go_wp2_with (go_at_call 83;refine(zfG _ _).mono ?_;rintro e wq ⟨rfl,rfl⟩;rw[hd])
    go_ret2
    exact⟨out,false,by simp,fun _=>by rw[HR.o,gD.o];rfl,Ret.of rfl Bw⟩
   ·have gD:=zHi hd;go_wp2_with (go_at_call 83;refine(zfG _ _).mono ?_;rintro e wq ⟨rfl,rfl⟩;rw[hd])
    go_ret2
    refine⟨out,true,fun _=>⟨by rw[HR.o,gD.o];rfl,?_⟩,by simp,Ret.of rfl Bw⟩;have h:=gD.o;simp[zbu,inR]at h;omega
theorem ziB(day mo:Int)(w:World)(hL:LensIn w)(h0:0<=day)(h1:day<=200000)(nR:0<=mo)(cO:mo<=12000):
 Calls Tryz.prog 31 #[.int .i64 day,.int .i64 mo] w (fun e w'=>∃n er:Int,(er=0->zct day mo=n/\0<=n)/\(er≠0->zct day mo= -1)/\Ret w (.tuple #[.int .i64 n,.int .i64 er]) e w'):=by
 have kw:inR day 0 200000=true:=by simp[inR];omega
 have ip:inR mo (-12000) 12000=true:=by simp[inR];omega
 have HL:=zHi (zmu day mo w hL h0 h1 MbC cO);go_enter Tryz.func31,Tryz.ntmps31
 go_wp2_with (first
  |(go_at_call 83;refine(zfG _ _).mono ?_;rintro e wq ⟨rfl,rfl⟩;unfold zbu;rw[kw])
  |(go_at_call 84;refine(zdJ _ _ _ _).mono ?_;rintro e wq ⟨rfl,rfl⟩;rw[ip])
  |(go_at_call 85;refine(HL.o).mono ?_;rintro e wq ⟨n,ok,h1,h2,rfl,z,rfl⟩;obtain⟨H1,H2⟩:=yH2 h1 h2;clear h1 h2;cases ok))
 all_goals go_ret2
 all_goals first
  |exact⟨0,2,by simp,fun _=>H2.o trivial,Ret.of rfl Bw⟩
  |exact⟨n,0,fun _=>H1.o trivial,by simp,Ret.of rfl Bw⟩
theorem zif(day ys:Int)(w:World)(hL:LensIn w)(h0:0<=day)(h1:day<=200000)(nR:0<=ys)(cO:ys<=99):
 Calls Tryz.prog 144 #[.int .i64 day,.int .i64 ys] w (Ret w (.int .i64 (zc9 day ys))):=by
 have HL:=zHi (ziB day (12*ys) w hL h0 h1 MbC MbC);go_enter Tryz.func144,Tryz.ntmps144
 go_wp2_with (go_at_call 31;refine(HL.o).mono ?_;rintro e wq ⟨n,er,k1,k2,rfl,z,rfl⟩;obtain⟨H1,H2⟩:=yH2 k1 k2;clear k1 k2;by_cases ir:er=0)
 all_goals go_ret
 all_goals first
  |exact Ret.of (zbU (by unfold zc9;exact(H1.o (by first|trivial|exact ir)).1.symm)) Bw
  |exact Ret.of (zbU (by unfold zc9;exact(H2.o (by first|trivial|exact ir)).symm)) Bw
end
def zaQ(q:Rat):Rat:=if bigQ q then 0 else q
theorem zfo(q:Rat):bigQ (zaQ q)=false:=by
 unfold zaQ;cases h:bigQ q
 ·simpa using h
 ·simp[bigQ]
theorem zcc{q:Rat}(h:0<=q):0<=zaQ q:=by
 unfold zaQ;split
 ·exact Rat.le_refl
 ·exact h
theorem zfH{q:Rat}(h:0<=q):zaQ q<=q:=by
 unfold zaQ;split
 ·exact h
 ·exact Rat.le_refl
theorem zef{q:Rat}(h:bigQ q=false):zaQ q=q:=by simp[zaQ,h]
def zeg(own:Rat)(p:ByteArray×Rat)(x:Parts×Bool):Parts×Bool:=
 (setP x.1 p.1 (zaQ (zab x.1 p.1+zaQ (own*p.2))),x.2||bigQ (own*p.2)||bigQ (zab x.1 p.1+zaQ (own*p.2)))
def zdy(own:Rat):Parts->Parts×Bool->Parts×Bool
 | [],x=>x
 |p::l,x=>zdy own l (zeg own p x)
theorem zeh(own:Rat):∀(a b:Parts) (x:Parts×Bool),zdy own (a++b) x=zdy own b (zdy own a x)
 | [],_,_=>rfl
 |p::a,b,x=>zeh own a b _
theorem zei{own:Rat}:∀ {l:Parts} {x:Parts×Bool},x.2=true->(zdy own l x).2=true
 | [],_,h=>h
 |p::l,x,h=>zei (l:=l) (by simp[zeg,h])
theorem zg0{l:Parts}(h:GoodParts l){n:ByteArray}{q:Rat}(hq:0<=q):GoodParts (setP l n q):=by
 by_cases h0:q=0
 ·subst h0;rw[zgv h.asc];exact zbl h
 ·refine⟨set_asc h.asc n q,fun p hp=>?_⟩;rcases zi6 hp with rfl|hp
  ·show 0<q;grind
  ·exact h.pos p hp
theorem zkC{l:Parts}(h:GoodParts l)(n:ByteArray)(q:Rat):sumQ (setP l n q)=sumQ l-zab l n+q:=by
 have hw:=zcr (n:=n) h;rw[zgV h.asc];by_cases hq:q==0
 ·rw[if_pos hq];have:q=0:=by simpa using hq
  subst this;grind
 ·rw[if_neg hq,zc3];grind
theorem zd9{l:Parts}{n:ByteArray}{q:Rat}(h:zaC l=false)(hq:bigQ q=false):zaC (setP l n q)=false:=by
 unfold zaC at*;rw[List.any_eq_false]at*;intro p hp;rcases zi6 hp with rfl|hp
 ·simpa using hq
 ·exact h p hp
theorem zhe{n:ByteArray}{q:Rat}:∀ {l:Parts},(setP l n q).length<=l.length+1
 | []=>by unfold setP;split<;>simp
 |x::l=>by
  unfold setP;have:=zhe (n:=n) (q:=q) (l:=l);split
  ·simpa using this
  ·split
   ·split<;>simp<;>omega
   ·split<;>simp
theorem zcs{l:Parts}(n:ByteArray)(h:zaC l=false):bigQ (zab l n)=false:=by
 unfold zab;cases hf:l.find? (fun p=>zag p.1 n)with
 |none=>simp[bigQ]
 |some p=>
  unfold zaC at h;rw[List.any_eq_false]at h;simpa using h p (List.mem_of_find?_eq_some hf)
theorem zcM{l:Parts}(h:GoodParts l)(n:ByteArray):zab l n<=sumQ l:=by
 have h1:=zcr (n:=n) h;have h2:=zcC (l:=zaj l n) fun p hp=>by have:=(zbl h (n:=n)).pos p hp;grind
 grind
theorem zcl{q:Rat}(h0:0<=q)(h1:q<=1)(hb:bigQ q=false):zaD q:=by
 unfold bigQ at hb;have hd:=q.den_pos;have cw:(q.den:Int)<=1000000000:=by simpa using hb
 rw[Rat.le_iff]at h0 h1;have h2:0<=q.num:=Mcf;have h3:q.num<=(q.den:Int):=Mb7;exact⟨by omega,by omega⟩
structure Bd (out:Parts) (t:Rat):Prop where
 good:GoodParts out
 small:zaC out=false
 le:sumQ out<=t
theorem Bd.share{out:Parts}{t:Rat}(h:Bd out t)(ht:t<=1)(n:ByteArray):zaD (zab out n):=
 zcl (zbg h.good n) (by have:=zcM h.good n;have:=h.le;grind) (zcs n h.small)
theorem Bd.set{out:Parts}{t g:Rat}(h:Bd out t)(n:ByteArray)(hg:0<=g):Bd (setP out n (zaQ (zab out n+g))) (t+g):=by
 have hs:=zbg h.good n;have h1:0<=zab out n+g:=MbV;refine⟨zg0 h.good (zcc h1),zd9 h.small (zfo _),?_⟩;rw[zkC h.good];have:=zfH h1;have:=h.le;grind
theorem Bd.gain{own:Rat}{out:Parts}{t:Rat}{p:ByteArray×Rat}{f:Bool}(h:Bd out t)(ho:0<=own)(hp:0<=p.2):Bd (zeg own p (out,f)).1 (t+own*p.2):=by
 have hm:0<=own*p.2:=Rat.mul_nonneg ho hp;have h1:=h.set p.1 (zcc hm);have h2:=zfH hm;exact⟨h1.good,h1.small,by have:=h1.le;grind [zeg]⟩
theorem zl9{out:Parts}(h:GoodParts out){n:ByteArray}{g:Rat}(hg:0<=g)(hb:bigQ (zab out n+g)=false):setP out n (zaQ (zab out n+g))=za6 out n g:=by
 rw[zef hb,zgU h hg]
theorem zjw{n:ByteArray}{q:Rat}:∀ {l:Parts},GoodParts l->0<q->(n,zab l n+q)∈za6 l n q
 | [],_,hq=>by
   have:(q==0)=false:=by rw[beq_eq_false_iff_ne];grind
   simp[za6,this,zab,Rat.zero_add]
 |x::l,h,hq=>by
  have mO:(q==0)=false:=by rw[beq_eq_false_iff_ne];grind
  have ht:GoodParts l:=⟨(List.pairwise_cons.1 h.asc).2,fun p hp=>h.pos p (by simp[hp])⟩
  rw[za6,mO];cases hl:zbm x.1 n
  ·cases hs:zag x.1 n
   ·have aa:zbm n x.1=true:=by
     rcases zde x.1 n with h1|h1|h1
     ·rw[hl]at h1;cases h1
     ·exact absurd h1 (zb5.1 hs)
     ·exact h1
    have h0:zab (x::l) n=0:=(zcw fun p hp=>by
     rcases List.mem_cons.1 hp with rfl|hp
     ·exact(zcp aa).symm
     ·exact(zcp (zbx aa ((List.pairwise_cons.1 h.asc).1 p hp))).symm).1
    simp[h0,Rat.zero_add]
   ·rw[zaT,hs];simp
  ·rw[zaT,zfg hl];simp only[Bool.false_eq_true,if_false,if_true];exact List.mem_cons_of_mem _ (zjw ht hq)
theorem zej{out:Parts}(h:GoodParts out)(hs:zaC out=false){n:ByteArray}{g:Rat}(hg:0<=g):zaC (za6 out n g)=bigQ (zab out n+g):=by
 by_cases h0:g=0
 ·subst h0;have:za6 out n 0=out:=by cases out<;>simp[za6]
  rw[this,hs,Rat.add_zero,zcs n hs]
 ·cases hb:bigQ (zab out n+g)
  ·rw[<-zgU h hg];exact zd9 hs hb
  ·unfold zaC;rw[List.any_eq_true];exact⟨_,zjw h MbV,hb⟩
theorem zhf{own:Rat}(ho:0<=own):∀ {l out:Parts},(∀p∈l,0<=p.2)->GoodParts out->zaC out=false->
 (∀o,zbI own l out=some o->zdy own l (out,false)=(o,false))/\(zbI own l out=none->(zdy own l (out,false)).2=true)
 | [],out,_,_,_=>by
   refine⟨fun o h=>?_,fun h=>?_⟩
   ·rw[zbI]at h;cases h;rfl
   ·rw[zbI]at h;cases h
 |p::l,out,hp,hg,hs=>by
  have hm:0<=own*p.2:=Rat.mul_nonneg ho (hp p MbF);rw[zbI];show(∀o,_=_->zdy own l (zeg own p (out,false))=_)/\(_->(zdy own l (zeg own p (out,false))).2=true);cases h1:bigQ (own*p.2)
  ·have eH:zaQ (own*p.2)=own*p.2:=zef h1;have cm:=zej hg hs (n:=p.1) hm;rw[if_neg MbF];cases h2:bigQ (zab out p.1+own*p.2)
   ·have e:zeg own p (out,false)=(za6 out p.1 (own*p.2),false):=by
     unfold zeg;simp only[eH,h1,h2,Bool.or_self];rw[zl9 hg hm h2]
    rw[cm,h2,if_neg MbF,e];exact zhf ho (fun q hq=>hp q Mcx) (zb6 hm hg) (by rw[cm,h2])
   ·rw[cm,h2,if_pos rfl];refine⟨fun o h=>by(cases h),fun _=>zei ?_⟩;simp[zeg,eH,h2]
  ·rw[if_pos rfl];refine⟨fun o h=>by(cases h),fun _=>zei ?_⟩;simp[zeg,h1]
theorem zkD{own:Rat}(ho:0<=own):∀ {l out:Parts} {f:Bool} {t:Rat},(∀p∈l,0<=p.2)->Bd out t->Bd (zdy own l (out,f)).1 (t+own*sumQ l)
 | [],out,f,t,_,h=>by
   show Bd out (t+own*0);rw[Rat.mul_zero,Rat.add_zero];exact h
 |p::l,out,f,t,hp,h=>by
  have h1:=zkD ho (l:=l) (f:=(zeg own p (out,f)).2) (fun q hq=>hp q Mcx) (h.gain (f:=f) ho (hp p MbF));have e:t+own*p.2+own*sumQ l=t+own*sumQ (p::l):=by rw[sumQ];grind
  rw[e]at h1;exact h1
def zcd(hs:Parts)(frm:ByteArray)(tl:Parts):Parts×Bool:=
 zdy (zab hs frm) tl (setP hs frm (zaQ (zab hs frm*(1-sumQ tl))),bigQ (zab hs frm*(1-sumQ tl)))
theorem ziC{hs tl:Parts}{frm:ByteArray}(hg:GoodParts hs)(hl:zaC hs=false)(hp:∀p∈tl,0<=p.2)(h1:sumQ tl<=1):
 (if bigQ (zab hs frm*(1-sumQ tl))then none else zbI (zab hs frm) tl (za6 (zaj hs frm) frm (zab hs frm*(1-sumQ tl))))=if(zcd hs frm tl).2 then none else some (zcd hs frm tl).1:=by
 have ho:=zbg hg frm;have hk:0<=zab hs frm*(1-sumQ tl):=Rat.mul_nonneg ho MbV;unfold zcd;cases hb:bigQ (zab hs frm*(1-sumQ tl))
 ·rw[zef hb,if_neg MbF];have e:setP hs frm (zab hs frm*(1-sumQ tl))=za6 (zaj hs frm) frm (zab hs frm*(1-sumQ tl)):=by
   rw[zgV hg.asc];split
   ·rename_i h0
    have:zab hs frm*(1-sumQ tl)=0:=by simpa using h0
    rw[this];cases zaj hs frm<;>simp[za6]
   ·rfl
  have aw:=zg0 hg (n:=frm) hk;have tp:=zd9 (n:=frm) hl hb;obtain⟨g1,g2⟩:=zhf ho hp aw tp;rw[e]at g1 g2⊢;cases hx:zbI (zab hs frm) tl (za6 (zaj hs frm) frm (zab hs frm*(1-sumQ tl)))with
  |none=>rw[g2 hx,if_pos rfl]
  |some o=>rw[g1 o hx,if_neg MbF]
 ·rw[if_pos rfl,zei rfl,if_pos rfl]
def zcx(n:ByteArray)(f:Rat)(x:Parts×Bool):Parts×Bool:=
 (setP x.1 n (zaQ (zab x.1 n+f)),x.2||bigQ (zab x.1 n+f))
mutual
def zbz(part:Rat):List Tree->Parts×Bool->Parts×Bool
 | [],x=>x
 |t::l,x=>zbz part l (zdj part t x)
def zdj(part:Rat):Tree->Parts×Bool->Parts×Bool
 | .leaf n,x=>zcx n part x
 | .node l,x=>zbz (zaQ (part*(1/(l.length:Rat)))) l (x.1,x.2||bigQ (part*(1/(l.length:Rat))))
end
def zce(l:List Tree)(f:Rat)(x:Parts×Bool):Parts×Bool:=
 zbz (zaQ (f*(1/(l.length:Rat)))) l (x.1,x.2||bigQ (f*(1/(l.length:Rat))))
theorem zmv(part:Rat)(l:List Tree)(x:Parts×Bool):zdj part (.node l) x=zce l part x:=by rw[zdj,zce]
theorem zfp(part:Rat):∀(a b:List Tree) (x:Parts×Bool),zbz part (a++b) x=zbz part b (zbz part a x)
 | [],_,_=>by rw[List.nil_append,zbz]
 |t::a,b,x=>by rw[List.cons_append,zbz,zbz,zfp part a b]
def zc8(s:St)(frm:ByteArray):Parts->Parts×Bool->Rat->(Parts×Bool)×Rat
 | [],x,rest=>(x,rest)
 |p::l,x,rest=>if zgl s p.1 frm then zc8 s frm l (zcx p.1 p.2 x) (rest-p.2)else zc8 s frm l x rest
def zbR(s:St)(n:ByteArray):ByteArray:=if zgl s (zbi s n) n then zbi s n else⟨#[]⟩
def zbL(s:St)(law:Law)(n:ByteArray):Parts×Bool:=
 let y:=zc8 s n (zbp s n) ([],false) 1
 let sp:=zbR s n
 let lines:=zbF s law.stems n (zaX s) n
 if lines.isEmpty then zcx sp y.2 y.1 else
 if noB sp then zce lines y.2 y.1 else
 zce lines (y.2-y.2*Rat.divInt law.num law.den) (zcx sp (y.2*Rat.divInt law.num law.den) y.1)
mutual
theorem ze0{part:Rat}:∀ {l:List Tree} {x:Parts×Bool},x.2=true->(zbz part l x).2=true
 | [],x,h=>by rw[zbz];exact h
 |t::l,x,h=>by rw[zbz];exact ze0 (tree_mark h)
theorem tree_mark{part:Rat}:∀ {t:Tree} {x:Parts×Bool},x.2=true->(zdj part t x).2=true
 | .leaf n,x,h=>by rw[zdj];simp[zcx,h]
 | .node l,x,h=>by rw[zdj];exact ze0 (by simp[h])
end
theorem zfq{out:Parts}(h:GoodParts out){n:ByteArray}{f:Rat}(hf:0<=f)(hb:bigQ (zab out n+f)=false):zcx n f (out,false)=(za6 out n f,false):=by
 unfold zcx;simp only[hb,Bool.or_self];rw[zl9 h hf hb]
theorem ziD(a:Rat)(n:Nat):a*(1/(n:Rat))=a/(n:Rat):=by
 rw[Rat.div_def,Rat.div_def,Rat.one_mul]
theorem zdK{a:Rat}(h:0<=a)(n:Nat):0<=a*(1/(n:Rat)):=by
 rw[ziD];exact zcn h Rat.natCast_nonneg
mutual
theorem zfI{each:Rat}(he:0<=each):∀ {l:List Tree} {out:Parts},GoodParts out->zaC out=false->
 (∀o,zcq each l out=some o->zbz each l (out,false)=(o,false))/\(zcq each l out=none->(zbz each l (out,false)).2=true)
 | [],out,hg,hs=>by
   rw[zcq,zbz];exact MaZ
 |t::l,out,hg,hs=>by
  obtain⟨h1,h2⟩:=tree_same he (t:=t) hg hs;rw[zcq,zbz];cases ht:zgm each t out with
  |none=>
   refine⟨fun o h=>by(cases h),fun _=>ze0 (h2 ht)⟩
  |some o1=>
   rw[h1 o1 ht];obtain⟨g1,g2⟩:=zjm he hg hs ht;exact zfI he g1 g2
theorem tree_same{each:Rat}(he:0<=each):∀ {t:Tree} {out:Parts},GoodParts out->zaC out=false->
 (∀o,zgm each t out=some o->zdj each t (out,false)=(o,false))/\(zgm each t out=none->(zdj each t (out,false)).2=true)
 | .leaf n,out,hg,hs=>by
   rw[zgm,zdj,zej hg hs he];cases hb:bigQ (zab out n+each)
   ·rw[if_neg MbF,zfq hg he hb];exact MaZ
   ·rw[if_pos rfl];refine⟨fun o h=>by(cases h),fun _=>by simp[zcx,hb]⟩
 | .node l,out,hg,hs=>by
   rw[zgm,zdj,ziD];cases hb:bigQ (each/(l.length:Rat))
   ·rw[if_neg MbF,zef hb];exact zfI (zcn he Rat.natCast_nonneg) hg hs
   ·exact Mbb
end
theorem zmw(out:Parts)(n:ByteArray):za6 out n 0=out:=by cases out<;>simp[za6]
theorem zfJ{out:Parts}(h:GoodParts out)(hs:zaC out=false)(n:ByteArray):zcx n 0 (out,false)=(out,false):=by
 rw[zfq h Rat.le_refl (by rw[Rat.add_zero];exact zcs n hs),zmw]
theorem zfr(k:Nat):zaQ (0*(1/(k:Rat)))=0/\bigQ (0*(1/(k:Rat)))=false:=by
 rw[Rat.zero_mul];exact⟨zef MbD,by decide⟩
mutual
theorem zfK:∀ {l:List Tree} {out:Parts},GoodParts out->zaC out=false->zbz 0 l (out,false)=(out,false)
 | [],out,_,_=>by rw[zbz]
 |t::l,out,hg,hs=>by rw[zbz,tree_zero hg hs,zfK hg hs]
theorem tree_zero:∀ {t:Tree} {out:Parts},GoodParts out->zaC out=false->zdj 0 t (out,false)=(out,false)
 | .leaf n,out,hg,hs=>by rw[zdj,zfJ hg hs]
 | .node l,out,hg,hs=>by
   rw[zdj,(zfr l.length).1,(zfr l.length).2];exact zfK hg hs
end
theorem zeM{l:List Tree}{out:Parts}(hg:GoodParts out)(hs:zaC out=false):zce l 0 (out,false)=(out,false):=by
 rw[zce,(zfr l.length).1,(zfr l.length).2];exact zfK hg hs
theorem zfs{s:St}{frm:ByteArray}:∀ {l out:Parts} {rest:Rat},(∀p∈l,0<p.2)->(∀p∈l,IsN 720720 p.2)->GoodParts out->(∀p∈out,IsN 720720 p.2)->
 zc8 s frm l (out,false) rest=(((zc2 s frm l out rest).1,false),(zc2 s frm l out rest).2)
 | [],out,rest,_,_,_,_=>rfl
 |p::l,out,rest,hp,hN,hg,hn=>by
  have hl:=fun q (hq:q∈l)=>hp q Mcx
  have pF:=fun q (hq:q∈l)=>hN q Mcx
  rw[zc8,zc2];split
  ·have h0:0<=p.2:=by have:=hp p MbF;grind
   have bJ:=zdf (nm:=p.1) (hN p MbF) hn;have hb:bigQ (zab out p.1+p.2)=false:=by
    rw[<-zej hg (zcI MbD MbD hn) h0];exact zcI MbD MbD bJ
   rw[zfq hg h0 hb];exact zfs hl pF (zb6 h0 hg) bJ
  ·exact zfs hl pF hg hn
theorem isN_law{law:Law}(hl:za2 16 law.num law.den=true):(∃d:Nat,0<d/\d<=16/\IsN d (Rat.divInt law.num law.den))/\0<=Rat.divInt law.num law.den/\Rat.divInt law.num law.den<=1:=by
 refine⟨?_,(zbo hl).2.2⟩;have hd:=hl;unfold za2 at hd;simp only[Bool.and_eq_true,decide_eq_true_eq]at hd;refine⟨law.den.toNat,by omega,by omega,law.num,?_⟩;have hz:(law.den:Rat)≠0:=ratI MbC;have e:((law.den.toNat:Nat):Rat)=(law.den:Rat):=by rw[<-Rat.intCast_natCast,Int.toNat_of_nonneg MbC]
 rw[Rat.divInt_eq_div,e];grind
theorem zdA{n:Nat}(h0:0<n)(h1:n<=1000000000){q:Rat}(h:IsN n q):bigQ q=false:=by
 have:=isN_den h0 h;unfold bigQ;simp;omega
theorem zhg{s:St}{law:Law}{n:ByteArray}(hw:WillOk (zbp s n))(hl:za2 16 law.num law.den=true):
 (∀o,zdZ s law n=some o->(zbL s law n)=(o,false))/\(zdZ s law n=none->(zbL s law n).2=true):=by
 have jU:=zfs (s:=s) (frm:=n) (rest:=1) hw.pos hw.isN zcU MbF;have hg:=zgN (s:=s) (frm:=n) (out:=[]) (rest:=1) hw.pos hw.isN hw.le zcU MbF (zi4 _);unfold zdZ zbL zbR;rw[jU];generalize zc2 s n (zbp s n) [] 1=q at*;obtain⟨out,rest⟩:=q;dsimp only at*;obtain⟨g1,g2,g3,g4,g5⟩:=hg;have gs:zaC out=false:=zcI MbD MbD g2;obtain⟨⟨ld,ld0,ld1,l1⟩,l2,l3⟩:=isN_law hl;generalize Rat.divInt law.num law.den=la at*;generalize(if zgl s (zbi s n) n=true then zbi s n else⟨#[]⟩)=sp at*;generalize zbF s law.stems n (zaX s) n=tr at*;by_cases hr:rest=0
 ·subst hr;have hz:(0:Rat)-0=0:=MbV;simp only[Rat.zero_mul,hz,beq_self_eq_true,if_true];refine⟨fun o h=>?_,fun h=>by cases h⟩;cases h;split
  ·exact zfJ g1 gs sp
  ·split
   ·exact zeM g1 gs
   ·rw[zfJ g1 gs,zeM g1 gs]
 ·have kP:(rest==0)=false:=by simpa using hr
  have jT:0<rest:=MbV;simp only[kP,Bool.false_eq_true,if_false];cases he:tr.isEmpty
  ·simp only[Bool.false_eq_true,if_false];have qi:∀ {x:Parts} {r:Rat},GoodParts x->zaC x=false->0<=r->
    (∀o,(if bigQ (r/(tr.length:Rat))=true then none else zcq (r/(tr.length:Rat)) tr x)=some o->zce tr r (x,false)=(o,false))/\((if bigQ (r/(tr.length:Rat))=true then none else zcq (r/(tr.length:Rat)) tr x)=none->(zce tr r (x,false)).2=true):=fun {x r} hx br ti=>by
    rw[zce,ziD];cases hb:bigQ (r/(tr.length:Rat))
    ·rw[if_neg MbF,zef hb];exact zfI (zcn ti Rat.natCast_nonneg) hx br
    ·exact Mbb
   cases hn:noB sp
   ·simp only[Bool.false_eq_true,if_false];have eX:0<=rest*la:=Rat.mul_nonneg g4 l2;have gQ:rest*la<=rest:=by
     have:=Rat.mul_nonneg g4 (show 0<=1-la by grind);grind
    have hb:bigQ (zab out sp+rest*la)=false:=by
     have h1:IsN (720720*ld) (zab out sp+rest*la):=by
      refine isN_add (isN_up ?_) (zkx g3 l1);unfold zab;cases hf:out.find? (fun p=>zag p.1 sp)with
      |none=>exact isN_zero _
      |some p=>exact g2 p (List.mem_of_find?_eq_some hf)
     exact zdA MbC MbC h1
    rw[zfq g1 eX hb];have bp:=zb6 (n:=sp) eX g1;have bk:zaC (za6 out sp (rest*la))=false:=by rw[zej g1 gs eX];exact hb
    by_cases hz:rest-rest*la=0
    ·rw[hz];simp only[beq_self_eq_true,if_true];exact⟨fun o h=>by cases h;exact zeM bp bk,fun h=>by cases h⟩
    ·have iK:(rest-rest*la==0)=false:=by simpa using hz
     simp only[iK,Bool.false_eq_true,if_false];exact qi bp bk MbV
   ·simp only[if_true];have hz:rest-0=rest:=MbV;simp only[hz,kP,Bool.false_eq_true,if_false];exact qi g1 gs g4
  ·simp only[if_true];have hb:bigQ (zab out sp+rest)=false:=by
    rw[<-zej g1 gs g4];exact zcI MbD MbD (zdf g3 g2)
   rw[zfq g1 g4 hb];exact MaZ
theorem zjx{l:Parts}(h:GoodParts l){n:ByteArray}{q:Rat}(m:ByteArray):zab (setP l n q) m=if zag m n then q else zab l m:=by
 have hw:=zbl h (n:=n);have h0:zab (zaj l n) n=0:=by rw[zbK,zbk];rfl
 rw[zgV h.asc];by_cases hq:q==0
 ·rw[if_pos hq,zbK];have:q=0:=by simpa using hq
  rw[this]
 ·rw[if_neg hq,zdg hw,h0,Rat.zero_add];cases hs:zag m n
  ·simp only[Bool.false_eq_true,if_false];rw[zbK,hs];rfl
  ·rfl
theorem eqS_same(a b:ByteArray):eqS a b=zag a b:=rfl
theorem zek{V:Type}(k:ByteArray)(v:V)(n:ByteArray):∀m:List (ByteArray×V),mget eqS n (mput eqS k v m)=if zag n k then some v else mget eqS n m
 | []=>rfl
 |x::m=>by
  rw[mput];have mE:eqS k x.1=zag k x.1:=rfl;rw[mE];cases hk:zag k x.1
  ·rw[if_neg MbF,mget,mget,zek k v n m];have eB:eqS n x.1=zag n x.1:=rfl;rw[eB];cases hn:zag n x.1
   ·simp
   ·have CM:zag n k=false:=by
     rw[zb5];intro e;rw[zak]at hn;rw[zb5]at hk;exact hk (e▸hn)
    simp[CM]
  ·have mE:k=x.1:=zak.1 hk;rw[if_pos rfl,mget,mget];show(if zag n k=true then _ else _)=_;cases hn:zag n k
   ·have:eqS n x.1=false:=by rw[eqS_same,<-mE,hn]
    simp[this]
   ·simp
theorem zft{V:Type}(k:ByteArray)(v:V):∀m:List (ByteArray×V),(m.map (·.1)).Nodup->((mput eqS k v m).map (·.1)).Nodup/\∀x∈(mput eqS k v m).map (·.1),x=k\/x∈m.map (·.1)
 | [],_=>by simp[mput]
 |x::m,h=>by
  rw[mput];have mE:eqS k x.1=zag k x.1:=rfl;rw[mE];rw[List.map_cons,List.nodup_cons]at h;cases hk:zag k x.1
  ·obtain⟨h1,h2⟩:=zft k v m h.2;rw[if_neg MbF,List.map_cons];refine⟨List.nodup_cons.2 ⟨fun hx=>?_,h1⟩,fun y hy=>?_⟩
   ·rcases h2 _ hx with e|e
    ·rw[e,zbk]at hk;cases hk
    ·exact h.1 e
   ·rcases List.mem_cons.1 hy with rfl|hy
    ·exact .inr MbF
    ·rcases h2 y hy with e|e
     ·exact .inl e
     ·exact .inr (by simp[e])
  ·have e:k=x.1:=zak.1 hk;rw[if_pos rfl,List.map_cons];refine⟨List.nodup_cons.2 ⟨by rw[e];exact h.1,h.2⟩,fun y hy=>?_⟩;rcases List.mem_cons.1 hy with rfl|hy
   ·exact .inl rfl
   ·exact .inr (by simp[hy])
theorem zc5{V:Type}{n:ByteArray}{v:V}:∀ {m:List (ByteArray×V)},mget eqS n m=some v->(n,v)∈m
 | [],h=>by simp[mget]at h
 |x::m,h=>by
  rw[mget]at h;have eB:eqS n x.1=zag n x.1:=rfl;rw[eB]at h;cases hn:zag n x.1
  ·rw[hn,if_neg MbF]at h;exact List.mem_cons_of_mem _ (zc5 h)
  ·rw[hn,if_pos rfl]at h;have e:=zak.1 hn;simp only[Option.some.injEq]at h;rw[e,<-h];exact List.mem_cons_self
theorem zg1{V:Type}{n:ByteArray}{v:V}:∀ {m:List (ByteArray×V)},(m.map (·.1)).Nodup->(n,v)∈m->mget eqS n m=some v
 | [],_,h=>by simp at h
 |x::m,hd,h=>by
  rw[List.map_cons,List.nodup_cons]at hd;rw[mget];have eB:eqS n x.1=zag n x.1:=rfl;rw[eB];rcases List.mem_cons.1 h with rfl|h
  ·rw[zbk,if_pos rfl]
  ·have ag:zag n x.1=false:=zb5.2 fun e=>hd.1 (by rw[<-e];exact List.mem_map.2 ⟨_,h,rfl⟩)
   rw[ag,if_neg MbF];exact zg1 hd.2 h
theorem rAbs_any(n:Int)(w:World)(h:n.natAbs<=4611686018427387904):Calls Tryz.prog 173 #[.int .i64 n] w (Ret0 w (.int .i64 (n.natAbs:Int))):=by
 have h0: -4611686018427387904<=n:=MbC;have h1:n<=4611686018427387904:=MbC;have hw:IntKind.i64.wrap (-n)= -n:=MbU;clear h;go_enter Tryz.func173,Tryz.ntmps173
 by_cases h:n<0
 ·go_wp2_with fail
  go_ret
  exact⟨by rw[show((n.natAbs:Nat):Int)= -n by omega];first|rfl|(show Ending.returned (Value.int .i64 (max n (-n)))=_;rw[show max n (-n)= -n by omega]),rfl⟩
 ·by_cases h2:n=0
  ·subst h2;exact Map
  ·go_wp2_with fail
   go_ret
   exact⟨by rw[show((n.natAbs:Nat):Int)=n by omega];first|rfl|(show Ending.returned (Value.int .i64 (max n (-n)))=_;rw[show max n (-n)=n by omega]),rfl⟩
theorem rGcd_any(a b:Int)(w:World)(ha:a.natAbs<=4611686018427387904)(hb:b.natAbs<=4611686018427387904):Calls Tryz.prog 113 #[.int .i64 a,.int .i64 b] w (Ret w (.int .i64 (Int.gcd a b))):=by
 go_enter Tryz.func113,Tryz.ntmps113
 go_wp2_with fail
 go_loopw [0,1] (fun x y wr=>∃p q:Int,x=.int .i64 p/\y=.int .i64 q/\p.natAbs<=4611686018427387904/\q.natAbs<=4611686018427387904/\Hid (Int.gcd a b=Int.gcd p q)/\∃z,wr=w.ext z) (fun _ y _=>(intOf y).natAbs)
 case atStart=>exact⟨a,b,rfl,rfl,ha,hb,rfl,zaM (Below.refl _ _)⟩
 case round=>
  obtain⟨p,q,rfl,rfl,hp,hq,HG,z,rfl⟩:=hrel;by_cases hz:q=0
  ·subst hz;have HP:=zHi hp;clear hp hq;go_wp2_with (go_at_call 173;go_must(refine(rAbs_any _ _ HP.o).mono ?_);rintro e wq ⟨rfl,rfl⟩)
   go_ret
   exact Ret.of (zbU (by rw[HG.o];simp[Int.gcd])) Bw
  ·have fG:(q==0)=false:=by simp[hz]
   have hm:=tmod_lt p q hz;have hG:=zHi (zlr p q);have rM:IntKind.i64.wrap (p.tmod q)=p.tmod q:=IntWalk.i64_in _ MbC;go_wp2_with fail
   go_quiet (fail)
   go_wp2_with fail
   all_goals(first
    |(go_round
      case rel=>exact⟨q,p.tmod q,rfl,rfl,hq,by omega,by show _=_;rw[HG.o,hG.o],zaM Bw⟩
      case measure=>simp only[intOf];omega))
theorem zhh(a b:Int)(w:World)(ha:a.natAbs<=4611686018427387904)(ax:0<b)(hb:b<=4611686018427387904):Calls Tryz.prog 58 #[.int .i64 a,.int .i64 b] w (Ret w (za9 (Rat.divInt a b))):=by
 have hg:=zls (a:=a) ax;obtain⟨g,HG⟩:∃g:Int,g=(Int.gcd a b:Int):=⟨_,rfl⟩
 have nO:0<g:=MbC;have mD:(g==0)=false:=MbH;have e1:a.tdiv g=(Rat.divInt a b).num:=by rw[zeu ax,HG,zd1 (Int.gcd_dvd_left ..)]
 have e2:b.tdiv g=((Rat.divInt a b).den:Int):=by rw[zd0 ax,HG,zd1 (Int.gcd_dvd_right ..)]
 have n1:(a.tdiv g).natAbs<=4611686018427387904:=Nat.le_trans (Int.natAbs_tdiv_le_natAbs _ _) ha;have n2:(b.tdiv g).natAbs<=4611686018427387904:=Nat.le_trans (Int.natAbs_tdiv_le_natAbs _ _) MbC;have w1:wrap64 (a.tdiv g)=a.tdiv g:=by unfold wrap64;omega
 have w2:wrap64 (b.tdiv g)=b.tdiv g:=by unfold wrap64;omega
 have HA:=zHi ha;have eu:b.natAbs<=4611686018427387904:=MbC;have BR:¬b<0:=MbC;obtain⟨HB,E1,E2⟩:=yH3 eu e1 e2;clear ha hb ax hg e1 e2 n1 n2 eu;go_enter Tryz.func58,Tryz.ntmps58
 go_wp2_with (go_at_call 113;refine(rGcd_any _ _ _ HA.o HB.o).mono ?_;rintro e w1 ⟨rfl,z1,rfl⟩;rw[<-HG])
 go_region
 go_wp2_with fail
 refine bodyPost_ret (v:=za9 (Rat.divInt a b)) ?_ rfl ?_
 ·refine zbA rfl _ _ w.heap.size _ _ rfl ?_ ?_
  ·rw[<-E1.o];simp[go_sem];rw[<-HG];exact w1
  ·rw[<-E2.o];simp[go_sem];rw[<-HG];exact w2
 ·exact Ret.of rfl Bw
theorem rSubI(a b c d:Int)(w:World)(ha:a.natAbs<=1000000000)(hb:b.natAbs<=1000000000)(hc:c.natAbs<=1000000000)(hd:d.natAbs<=1000000000)(ax:0<b)(gv:0<d)(_h:True):Calls Tryz.prog 19 #[.agg #[.int .i64 a,.int .i64 b],.agg #[.int .i64 c,.int .i64 d]] w (Ret w (za9 (Rat.divInt (a*d-c*b) (b*d)))):=by
 have m1:=zaP ha hd;have m2:=zaP hc hb;have m3:=zaP hb hd;have m4:0<b*d:=Int.mul_pos ax gv;obtain⟨m1,n1⟩:=m1;obtain⟨m2,n2⟩:=m2;obtain⟨m3,n3⟩:=m3;have w1:IntKind.i64.wrap (a*d)=a*d:=IntWalk.i64_in _ MbC;have w2:IntKind.i64.wrap (c*b)=c*b:=IntWalk.i64_in _ MbC;have w3:IntKind.i64.wrap (b*d)=b*d:=IntWalk.i64_in _ MbC;have m5:=zaP ha hc;obtain⟨m5,n5⟩:=m5;have m6:=zaP hb hc;obtain⟨m6,n6⟩:=m6;have w5:IntKind.i64.wrap (a*c)=a*c:=IntWalk.i64_in _ MbC;have w6:IntKind.i64.wrap (b*c)=b*c:=IntWalk.i64_in _ MbC;have hs:(a*d-c*b).natAbs<=4611686018427387904:=MbC;have hl:(b*d)<=4611686018427387904:=MbC;have h4:0<(b*d):=m4;obtain⟨HS,HL,H4⟩:=yH3 hs hl h4;clear hs hl m4 h4 ha hb hc hd;go_enter Tryz.func19,Tryz.ntmps19
 go_wp2_with (go_at_call 58;go_must(refine(zhh _ _ _ HS.o H4.o HL.o).mono ?_);rintro e w1 ⟨rfl,z1,rfl⟩;simp only[za9])
 refine bodyPost_ret (v:=za9 (Rat.divInt (a*d-c*b) (b*d))) ?_ rfl ?_
 ·exact Max
 ·exact Ret.of rfl Bw
theorem rSub_any(p q:Rat)(w:World)(cf:zaD p)(eH:zaD q):Calls Tryz.prog 19 #[za9 p,za9 q] w (Ret w (za9 (p-q))):=by
 rw[zhT];exact rSubI _ _ _ _ _ cf.1 (by have:=cf.2;omega) eH.1 (by have:=eH.2;omega) (zci p) (zci q) trivial
theorem rZero_any(w:World):Calls Tryz.prog 57 #[] w (Ret w (.agg #[.int .i64 0,.int .i64 1])):=by
 go_enter Tryz.func57,Tryz.ntmps57
 go_wp2_with fail
 refine bodyPost_ret (v:=.agg #[.int .i64 0,.int .i64 1]) ?_ rfl ?_
 ·refine zbA rfl _ _ w.heap.size _ _ rfl ?_ ?_
  ·simp[go_sem]
  ·simp[go_sem]
 ·exact Ret.of rfl Bw

import Derived.Test.YtcfheecahnnhjaaGreatDoorO0
import Derived.Test.YtcfheecahnnhjaaGreatDoorJ6
set_option linter.all false
set_option maxRecDepth 100000
set_option maxHeartbeats 4000000
namespace Go.Proofs.YtcfheecahnnhjaaGreatDoor
open Go.RowKit
attribute [local go_sem] World.cell?_alloc_mark zag za4 zar zaB zaw zax zay zaz za0 za1 za2
attribute [local go_sem] zas zad
structure Found (s:St) (nm:ByteArray) (out xs:List ByteArray):Prop where
 nd:out.Nodup
 desc:∀n∈out,Desc s nm n
 from':∀x∈xs,x=nm\/x∈out
 seen:∀x,(x=nm\/x∈out)->x∈xs\/∀c∈zai s x,c∈out
structure Look (s:St) (nm x:ByteArray) (j:Nat) (out xs:List ByteArray):Prop where
 nd:out.Nodup
 desc:∀n∈out,Desc s nm n
 from':∀x∈xs,x=nm\/x∈out
 seen:∀y,(y=nm\/y∈out)->y∈xs\/y=x\/∀c∈zai s y,c∈out
 mine:x=nm\/x∈out
 done:∀c∈(zai s x).take j,c∈out
theorem zmB(s:St)(nm:ByteArray):Found s nm [] [nm]:=⟨List.nodup_nil,by simp,by simp,fun x hx=> .inl (by simpa using hx)⟩
theorem found_pop{s:St}{nm x:ByteArray}{out xs:List ByteArray}(h:Found s nm out (x::xs)):Look s nm x 0 out xs:=
 ⟨h.nd,h.desc,fun y hy=>h.from' y (by simp[hy]),fun y hy=>by
   rcases h.seen y hy with h1|h1
   ·rcases List.mem_cons.1 h1 with rfl|h1
    ·exact .inr (.inl rfl)
    ·exact .inl h1
   ·exact .inr (.inr h1),h.from' x Mcx,by simp⟩
theorem look_end{s:St}{nm x:ByteArray}{out xs:List ByteArray}(h:Look s nm x (zai s x).length out xs):Found s nm out xs:=
 ⟨h.nd,h.desc,h.from',fun y hy=>by
   rcases h.seen y hy with h1|rfl|h1
   ·exact .inl h1
   ·exact .inr fun c hc=>h.done c MdY
   ·exact .inr h1⟩
theorem look_old{s:St}{nm x:ByteArray}{j:Nat}{out xs:List ByteArray}(h:Look s nm x j out xs)(hj:j<(zai s x).length)(hc:(zai s x)[j]∈out):Look s nm x (j+1) out xs:=
 ⟨h.nd,h.desc,h.from',h.seen,h.mine,fun c aM=>by
   rw[List.take_succ_eq_append_getElem hj]at aM;rcases List.mem_append.1 aM with h1|h1
   ·exact h.done c h1
   ·rw[List.mem_singleton.1 h1];exact hc⟩
theorem znM{s:St}{nm x:ByteArray}{j:Nat}{out xs:List ByteArray}(h:Look s nm x j out xs)(hj:j<(zai s x).length)(hc:(zai s x)[j]∉out):Look s nm x (j+1) (out++[(zai s x)[j]]) (xs++[(zai s x)[j]]):=by
 have bH:(zai s x)[j]∈zai s x:=List.getElem_mem _;refine⟨?_,fun n hn=>?_,fun y hy=>?_,fun y hy=>?_,?_,fun c aM=>?_⟩
 ·exact List.nodup_append.2 ⟨h.nd,by simp,fun a ha b hb e=>by rw[List.mem_singleton.1 hb]at e;exact hc (e▸ha)⟩
 ·rcases List.mem_append.1 hn with h1|h1
  ·exact h.desc n h1
  ·rw[List.mem_singleton.1 h1];rcases h.mine with rfl|hm
   ·exact zfy bH
   ·exact zic (h.desc x hm) bH
 ·rcases List.mem_append.1 hy with h1|h1
  ·rcases h.from' y h1 with h2|h2
   ·exact .inl h2
   ·exact .inr (by simp[h2])
  ·exact .inr (by simp[List.mem_singleton.1 h1])
 ·rcases hy with hy|hy
  ·rcases h.seen y (.inl hy)with h1|h1|h1
   ·exact .inl (by simp[h1])
   ·exact .inr (.inl h1)
   ·exact .inr (.inr fun c hc=>by simp[h1 c hc])
  ·rcases List.mem_append.1 hy with h1|h1
   ·rcases h.seen y (.inr h1)with h2|h2|h2
    ·exact .inl (by simp[h2])
    ·exact .inr (.inl h2)
    ·exact .inr (.inr fun c hc=>by simp[h2 c hc])
   ·exact .inl (by simp[List.mem_singleton.1 h1])
 ·rcases h.mine with h1|h1
  ·exact .inl h1
  ·exact .inr (by simp[h1])
 ·rw[List.take_succ_eq_append_getElem hj]at aM;rcases List.mem_append.1 aM with h1|h1
  ·simp[h.done c h1]
  ·simp[List.mem_singleton.1 h1]
theorem found_end{s:St}{nm:ByteArray}{out:List ByteArray}(h:Found s nm out []):∀n,n∈out↔Desc s nm n:=fun n=>by
 refine⟨h.desc n,fun hd=>zib (out:=fun x=>x∈out) ?_ ?_ hd⟩
 ·intro c hc;rcases h.seen nm (.inl rfl)with h1|h1
  ·simp at h1
  ·exact h1 c hc
 ·intro x hx c hc;rcases h.seen x (.inr hx)with h1|h1
  ·simp at h1
  ·exact h1 c hc
theorem zkv{α:Type}[DecidableEq α]:∀ {a b:List α},a.Nodup->(∀x∈a,x∈b)->a.length<=b.length
 | [],_,_,_=>Nat.zero_le _
 |x::a,b,h,hs=>by
  have h':=List.nodup_cons.1 h;have hx:x∈b:=hs x Mcx;have h1:a.length<=(b.erase x).length:=zkv h'.2 fun y hy=>by
   have ai:y≠x:=fun e=>h'.1 (e▸hy)
   exact(List.mem_erase_of_ne ai).2 (hs y (by simp[hy]))
  have h2:=List.length_erase_of_mem hx;have h3:0<b.length:=List.length_pos_of_mem hx;simp only[List.length_cons];omega
theorem out_few{s:St}{nm:ByteArray}{out:List ByteArray}(hn:out.Nodup)(hd:∀n∈out,Desc s nm n):out.length<=s.children.length:=by
 have E3:∀n∈out,n∈s.children.map (·.2):=fun n L7=>by
  have:∃y,(y,n)∈s.children:=by
   cases hd n L7 with
   |single h=>exact⟨nm,zdx.1 h⟩
   |tail _ h=>exact⟨_,zdx.1 h⟩
  obtain⟨y,hy⟩:=this;exact List.mem_map.2 ⟨(y,n),hy,rfl⟩
 haveI:DecidableEq ByteArray:=fun a b=>Classical.propDecidable _
 have:=zkv hn E3;simpa using this
theorem zd1{y:Int}(h:0<=y):zeZ y=y/4-y/100+y/400:=by
 unfold zeZ;rw[Int.tdiv_eq_ediv_of_nonneg h,Int.tdiv_eq_ediv_of_nonneg h,Int.tdiv_eq_ediv_of_nonneg h]
theorem znN{y:Int}(h:0<=y):zgO y=((y%4==0&&y%100 != 0)||y%400==0):=by
 unfold zgO;rw[Int.tmod_eq_emod_of_nonneg h,Int.tmod_eq_emod_of_nonneg h,Int.tmod_eq_emod_of_nonneg h]
def leapQ(y:Int):Bool:=y.tmod 4==0&&(y.tmod 100 != 0||y.tmod 400==0)
theorem leapQ_eq{y:Int}(h:0<=y):leapQ y=zgO y:=by
 rw[znN h];unfold leapQ;rw[Int.tmod_eq_emod_of_nonneg h,Int.tmod_eq_emod_of_nonneg h,Int.tmod_eq_emod_of_nonneg h,Bool.eq_iff_iff];simp only[Bool.and_eq_true,Bool.or_eq_true,beq_iff_eq,bne_iff_ne];omega
def begP(y:Int):Int:=365*(y-1800)+zeZ (y-1)-436
theorem zbH(y:Int):zaD y 1=begP y:=by
 unfold zaD begP;simp[ze4]
theorem beg_up{y:Int}(h:1800<=y):begP (y+1)=begP y+365+(if zgO y then 1 else 0):=by
 unfold begP;rw[zd1 Mcu,zd1 Mcu,znN Mcu];have e:y+1-1=y:=Mcu;rw[e];split
 ·exact MbI
 ·exact MbI
theorem beg_low{day:Int}(h0:0<=day)(h1:day<=200000):begP (1800+day.tdiv 366)<=day:=by
 unfold begP;rw[Int.tdiv_eq_ediv_of_nonneg h0,zd1 Mcu];omega
theorem znO{day:Int}(h0:0<=day)(h1:day<=200000):day<begP (1800+day.tdiv 366+10+1):=by
 unfold begP;rw[Int.tdiv_eq_ediv_of_nonneg h0,zd1 Mcu];omega
theorem znP(y:Int){m:Nat}(h1:1<=m)(h2:m<=12):za6 y m=if(m:Int)==2&&zgO y then 29 else[31,28,31,30,31,30,31,31,30,31,30,31].getD (m-1) 0:=by
 unfold za6;have:m=1\/m=2\/m=3\/m=4\/m=5\/m=6\/m=7\/m=8\/m=9\/m=10\/m=11\/m=12:=by omega
 rcases this with rfl|rfl|rfl|rfl|rfl|rfl|rfl|rfl|rfl|rfl|rfl|rfl<;>rfl
theorem zdH(y:Int){m:Nat}(h1:1<=m)(h2:m<=12):28<=za6 y m/\za6 y m<=31:=by
 rw[znP y h1 h2];have:m=1\/m=2\/m=3\/m=4\/m=5\/m=6\/m=7\/m=8\/m=9\/m=10\/m=11\/m=12:=by omega
 rcases this with rfl|rfl|rfl|rfl|rfl|rfl|rfl|rfl|rfl|rfl|rfl|rfl<;>simp<;>split<;>simp
theorem zf3(y:Int){m:Nat}(h:1<=m):zaD y (m+1)=zaD y m+za6 y m:=by
 obtain⟨k,rfl⟩:∃k,m=k+1:=⟨m-1,by omega⟩
 unfold zaD;simp only[Nat.add_sub_cancel,ze4];have:((k+1:Nat):Int)=(k:Int)+1:=by omega
 rw[this];omega
theorem zjC{y:Int}(h:1800<=y):zaD (y+1) 1=zaD y 12+za6 y 12:=by
 rw[zbH,beg_up h,<-zbH,show(12:Int)=((12:Nat):Int) by rfl,<-zf3 y Mcu];unfold zaD;have e:ze4 y (12+1-1)=365+(if zgO y then 1 else 0):=by
  simp only[ze4,za6,lensP];cases zgO y<;>simp
 rw[e];simp[ze4];omega
structure DateIs (day y:Int) (m:Nat):Prop where
 y0:1800<=y
 y1:y<=2400
 m0:1<=m
 m1:m<=12
 lo:zaD y m<=day
 hi:day<zaD y m+za6 y m
theorem zlp{day:Int}{f:Nat}{y:Int}(h:zaD (y+1) 1<=day):zeq day (f+1) y=zeq day f (y+1):=by
 rw[zeq,if_pos Mdy]
theorem zlq{day:Int}{y:Int}(h:¬zaD (y+1) 1<=day):∀f,zeq day f y=y
 |0=>rfl
 |f+1=>by rw[zeq,if_neg Mdy]
theorem zjD{day y:Int}{f m:Nat}(hm:m<12)(h:zaD y (m+1)<=day):zdo day y (f+1) m=zdo day y f (m+1):=by
 rw[zdo,if_pos (by simp[hm,h])]
theorem zjE{day y:Int}{m:Nat}(h:¬(m<12/\zaD y (m+1)<=day)):∀f,zdo day y f m=m
 |0=>rfl
 |f+1=>by rw[zdo,if_neg Mdy]
section
open Go.Shelf
def zgp:List Int:=[31,28,31,30,31,30,31,31,30,31,30,31]
def LensIn(w:World):Prop:=4<w.heap.size/\∀(k:Nat) (n:Int),zgp[k]?=some n->w.cell? ⟨4,k,none⟩=some (.int .i64 n)
theorem LensIn.keep{w W:World}{n:Nat}(h:LensIn w)(hB:Below n w W)(hn:w.heap.size<=n:=by first|exact Nat.le_refl _|omega):LensIn W:=
 ⟨Nat.lt_of_lt_of_le h.1 hB.size,fun k x hx=>(hB.cell (p:=⟨4,_,none⟩) (Nat.lt_of_lt_of_le h.1 hn)).trans (h.2 k x hx)⟩
theorem zeD(n lo hi:Int)(w:World):Calls Tryz.prog 188 #[.int .i64 n,.int .i64 lo,.int .i64 hi] w (Ret0 w (.bool (inR n lo hi))):=by
 go_enter Tryz.func188,Tryz.ntmps188
 go_wp2_with fail
 all_goals go_ret
 all_goals exact⟨by first|(simp_all[inR];done)|(simp_all[inR];omega),rfl⟩
theorem zgZ(n:Int)(w:World):Calls Tryz.prog 187 #[.int .i64 n] w (Ret0 w (.bool (zbl n))):=by
 go_enter Tryz.func187,Tryz.ntmps187
 go_wp2_with (go_at_call 188;refine(zeD _ _ _ _).mono ?_;rintro e wq ⟨rfl,rfl⟩)
 go_ret
 exact⟨rfl,rfl⟩
theorem zo5(y:Int)(w:World)(h0:0<=y)(h1:y<=100000):Calls Tryz.prog 217 #[.int .i64 y] w (Ret0 w (.bool (zgO y))):=by
 rw[<-leapQ_eq h0];have w1:wrap64 (y.tmod 4)=y.tmod 4:=McV;have w2:wrap64 (y.tmod 100)=y.tmod 100:=McV;have w3:wrap64 (y.tmod 400)=y.tmod 400:=McV;have v1:IntKind.i64.wrap (y.tmod 4)=y.tmod 4:=McQ;have v2:IntKind.i64.wrap (y.tmod 100)=y.tmod 100:=McQ;have v3:IntKind.i64.wrap (y.tmod 400)=y.tmod 400:=McQ;go_enter Tryz.func217,Tryz.ntmps217
 go_wp2_with fail
 all_goals go_ret
 all_goals exact⟨by simp[leapQ,Int.tmod_eq_emod_of_nonneg h0, *],rfl⟩
theorem zf4(y:Int)(m:Nat)(w:World)(hL:LensIn w)(h0:0<=y)(h1:y<=100000)(cf:1<=m)(dX:m<=12):Calls Tryz.prog 204 #[.int .i64 y,.int .i64 m] w (Ret0 w (.int .i64 (za6 y m))):=by
 have hd:=znP y cf dX;have ae:m-1<zgp.length:=by simp[zgp];omega
 have hc:=hL.2 (m-1) _ (List.getElem?_eq_getElem ae);have hg:zgp.getD (m-1) 0=zgp[m-1]:=Mdi;have cj:[31,28,31,30,31,30,31,31,30,31,30,31].getD (m-1) 0=zgp[m-1]:=hg;rw[cj]at hd;generalize zgp[m-1]=len at hc hd;have hw:IntKind.i64.wrap ((m:Int)-1)=(m:Int)-1:=IntWalk.i64_in _ Mcu;have ut:(0:Int)<=(m:Int)-1:=Mcu;have cx:(m:Int)-1<12:=Mcu;have fM:((m:Int)-1).toNat=m-1:=Mcu;have HD:=zHi hd;clear hd hg cj hL ae;by_cases h2:m=2
 ·subst h2;cases hl:zgO y
  ·exact Max
  ·exact Max
 ·have hb:((m:Int)==2)=false:=Meo;have bs:¬(m:Int)=2:=Mcu;go_enter Tryz.func204,Tryz.ntmps204
  go_wp2_with fail
  go_ret
  exact⟨by rw[HD.o,hb];simp,rfl⟩
theorem zix(y:Int)(w:World)(h0:1800<=y)(h1:y<=100000):Calls Tryz.prog 216 #[.int .i64 y] w (Ret0 w (.int .i64 (begP y))):=by
 have hp:0<=y-1:=Mcu;have e1:(y-1).tdiv 4=(y-1)/4:=Int.tdiv_eq_ediv_of_nonneg hp;have e2:(y-1).tdiv 100=(y-1)/100:=Int.tdiv_eq_ediv_of_nonneg hp;have e3:(y-1).tdiv 400=(y-1)/400:=Int.tdiv_eq_ediv_of_nonneg hp;have hv:begP y=365*(y-1800)+(y-1)/4-(y-1)/100+(y-1)/400-436:=by unfold begP;rw[zd1 hp];omega
 have HV:=zHi hv;clear hv;have k0:IntKind.i64.wrap (y-1)=y-1:=IntWalk.i64_in _ Mcu;have k1:IntKind.i64.wrap (y-1800)=y-1800:=IntWalk.i64_in _ Mcu;have k2:IntKind.i64.wrap (365*(y-1800))=365*(y-1800):=IntWalk.i64_in _ Mcu;go_enter Tryz.func216,Tryz.ntmps216
 exact MbP
theorem zbZ{y:Int}{m:Nat}(h0:1800<=y)(h1:y<=2500)(cf:1<=m)(dX:m<=13):0<=zaD y m/\zaD y m<=1000000:=by
 have hb:begP y=365*(y-1800)+(y-1)/4-(y-1)/100+(y-1)/400-436:=by unfold begP;rw[zd1 Mcu];omega
 have h:∀k:Nat,k<=12->begP y<=zaD y (k+1)/\zaD y (k+1)<=begP y+31*k:=fun k=>by
  induction k with
  |zero=>intro _;rw[zbH];omega
  |succ k ih=>
   intro hk;have:=ih Mcu;have h2:=zf3 y (show 1<=k+1 by omega);have h3:=zdH y (show 1<=k+1 by omega) (show k+1<=12 by omega);omega
 obtain⟨k,rfl⟩:∃k,m=k+1:=⟨m-1,by omega⟩
 have:=h k Mcu;omega
theorem dayOf_any(y:Int)(m:Nat)(d:Int)(w:World)(hL:LensIn w)(h0:1800<=y)(h1:y<=2500)(cf:1<=m)(dX:m<=12)(cg:0<=d)(dW:d<=1000):
 Calls Tryz.prog 203 #[.int .i64 y,.int .i64 m,.int .i64 d] w (Ret0 w (.int .i64 (zaD y m+d-1))):=by
 have jg:=zbZ (m:=1) h0 h1 Mcu Mcu;rw[zbH]at jg;have k0:IntKind.i64.wrap (begP y+d)=begP y+d:=IntWalk.i64_in _ Mcu;have k1:IntKind.i64.wrap (begP y+d-1)=begP y+d-1:=IntWalk.i64_in _ Mcu;go_enter Tryz.func203,Tryz.ntmps203
 go_wp2_with (go_at_call 216;refine(zix _ _ h0 Mcu).mono ?_;rintro e wq ⟨rfl,rfl⟩)
 go_loop [7,8] (fun n i=>∃k:Nat,1<=k/\k<=m/\i=.int .i64 k/\n=.int .i64 (zaD y k+d-1)) (fun _ i=>m-(intOf i).toNat)
 case atStart=>exact⟨1,by omega,cf,rfl,by rw[zbH]⟩
 case round=>
  obtain⟨k,fX,pU,rfl,rfl⟩:=hrel;by_cases ae:k<m
  ·have hb:=zbZ (m:=k) h0 h1 fX Mcu;have fW:=zdH y fX (show k<=12 by omega);have hu:=zf3 y fX;have HU:=zHi hu;have k2:IntKind.i64.wrap (zaD y k+d-1+za6 y k)=zaD y k+d-1+za6 y k:=IntWalk.i64_in _ Mcu;have bu:(k:Int)<(m:Int):=Mcu;clear hu;go_wp2_with (go_at_call 204;refine(zf4 y k _ hL Mcu Mcu fX Mcu).mono ?_;rintro e wq ⟨rfl,rfl⟩)
   go_round
   case rel=>exact⟨k+1,by omega,by omega,by go_num,by rw[HU.o];exact zbB Mcu⟩
   case measure=>simp[intOf];omega
  ·exact Mco
def zmC(y m d:Int):Value:=.agg #[.int .i64 y,.int .i64 m,.int .i64 d]
theorem zlr{fn:Func}{p:Tmp}(h:fn.results= #[.cell p 233])(tmps:Array Value)(w:World)(B:Nat)(x y z:Int)(hp:tmps.getD p undef=.pointer (some ⟨B,0,none⟩))
 (h0:w.cell? ⟨B,0,none⟩=some (.int .i64 x))(h1:w.cell? ⟨B,1,none⟩=some (.int .i64 y))(h2:w.cell? ⟨B,2,none⟩=some (.int .i64 z)):(results fn tmps).run Tryz.prog w=.ok (zmC x y z) w:=by
 rw[zdJ h,hp];unfold zmC;go_simp
theorem J_set3{w:World}{g:Nat}{z0 z1 z2 a b c:Value}{t:TypeId}{fr:Nat×Nat}(h:w.heap[g]?=some (.cells #[z0,z1,z2] t fr)):(((w.setCell ⟨g,0,none⟩ a).setCell ⟨g,1,none⟩ b).setCell ⟨g,2,none⟩ c).heap[g]?=some (.cells #[a,b,c] t fr):=by
 have:=Joins.block_setCell (i:=2) (Joins.block_setCell (i:=1) (Joins.block_setCell (i:=0) h a) b) c;simpa using this
theorem zo6(day:Int)(w:World)(hL:LensIn w)(h0:0<=day)(h1:day<=200000):
 Calls Tryz.prog 202 #[.int .i64 day] w (fun e w'=>DateIs day (zbU day) (zbh day)/\Ret w (zmC (zbU day) (zbh day) (day-zaD (zbU day) (zbh day)+1)) e w'):=by
 have dS:=beg_low h0 h1;have eW:=znO h0 h1;have xv:day.tdiv 366=day/366:=Int.tdiv_eq_ediv_of_nonneg h0;have dL:0<=day/366:=Mcu;have cM:day/366<=546:=Mcu;rw[xv]at dS eW;have zu:zbU day=zeq day 10 (1800+day/366):=by unfold zbU;rw[xv]
 obtain⟨HY,HH⟩:=yH2 zu eW;clear zu eW;go_enter Tryz.func202,Tryz.ntmps202
 go_wp2_with fail
 go_loopg [] 10 (fun gg wr=>∃(f:Nat) (y:Int),f<=gg/\y+f=1800+day/366+10/\1800<=y/\y<=2400/\Hid (zbU day=zeq day f y)/\Hid (begP y<=day)/\Below w.heap.size w wr/\wr.heap[w.heap.size]?=some (.cells #[.int .i64 0,.int .i64 0,.int .i64 0] 233)/\wr.heap[w.heap.size+1]?=some (.cells #[.int .i64 y,.int .i64 1,.int .i64 0] 233))
 case atStart=>exact⟨10,1800+day/366,Nat.le_refl _,by omega,by omega,by omega,HY.o,dS,Bw,zal (zaq _ _ _ rfl),zaq _ _ _ Mcx⟩
 case round=>
  obtain⟨f,y,hf,LM,lq,LL,vZ,fA,hB,g0,g1⟩:=hrel;have a0:wr.cell? ⟨w.heap.size+1,0,none⟩=some (.int .i64 y):=McA;have a1:wr.cell? ⟨w.heap.size+1,1,none⟩=some (.int .i64 1):=McA;have a2:wr.cell? ⟨w.heap.size+1,2,none⟩=some (.int .i64 0):=McA;have z0:wr.frozen? ⟨w.heap.size+1,0,none⟩=false:=McJ;have z1:wr.frozen? ⟨w.heap.size+1,1,none⟩=false:=McJ;have z2:wr.frozen? ⟨w.heap.size+1,2,none⟩=false:=McJ;have b0:wr.cell? ⟨w.heap.size,0,none⟩=some (.int .i64 0):=Mcy;have b1:wr.cell? ⟨w.heap.size,1,none⟩=some (.int .i64 0):=Mcy;have b2:wr.cell? ⟨w.heap.size,2,none⟩=some (.int .i64 0):=Mcy;have x0:wr.frozen? ⟨w.heap.size,0,none⟩=false:=McI;have x1:wr.frozen? ⟨w.heap.size,1,none⟩=false:=McI;have x2:wr.frozen? ⟨w.heap.size,2,none⟩=false:=McI;have e1:w.heap.size+1<wr.heap.size:=zab g1;have e0:w.heap.size<wr.heap.size:=zab g0;have hLr:=hL.keep hB;have k0:IntKind.i64.wrap (y+1)=y+1:=IntWalk.i64_in _ Mcu;by_cases hc:begP (y+1)<=day
  ·have Kr:f≠0:=by
    exact MbN
   obtain⟨f',rfl⟩:∃f',f=f'+1:=⟨f-1,by omega⟩
   have HN:Hid (zbU day=zeq day f' (y+1)):=by
    show _=_;rw[vZ.o,zlp Mef]
   have HC:=zHi hc;go_wp2_with (go_at_call 216;refine(zix _ _ Mcu Mcu).mono ?_;rintro e wq ⟨rfl,rfl⟩)
   exact MS
  ·have HN:Hid (zbU day=y):=by
    show _=_;rw[vZ.o,zlq Mef]
   have so:=zbZ (m:=1) lq Mcu Mcu Mcu;rw[zbH]at so;have k1:IntKind.i64.wrap (day-begP y)=day-begP y:=IntWalk.i64_in _ Mcu;have yf:zbh day=zdo day y 12 1:=by unfold zbh;rw[HN.o]
   have kL:=zHi yf;have zv:day<zaD y 12+za6 y 12:=by
    rw[<-zjC lq,zbH];omega
   have C1:=zHi zv;have lE:=fA.o;have aj:Hid (zaD y 1<=day):=by show _<=_;rw[zbH];exact lE
   clear yf zv lE;obtain⟨G0,G1⟩:=yH2 g0 g1;go_upto_region 5 with(go_at_call 216;refine(zix _ _ Mcu Mcu).mono ?_;rintro e wq ⟨rfl,rfl⟩)
   clear a0 a1 a2 z0 z1 z2 b0 b1 b2 x0 x1 x2 g0 g1;go_loopg [0] 12 (fun gg v wm=>∃(m:Nat),1<=m/\m<=12/\12-m<=gg/\v=.int .i64 (day-zaD y m)/\Hid (zbh day=zdo day y (13-m) m)/\Hid (zaD y m<=day)/\Below w.heap.size w wm/\wm.heap[w.heap.size]?=some (.cells #[.int .i64 0,.int .i64 0,.int .i64 0] 233)/\wm.heap[w.heap.size+1]?=some (.cells #[.int .i64 y,.int .i64 m,.int .i64 0] 233))
   case atStart=>exact⟨1,by omega,by omega,by omega,by rw[zbH],kL.o,aj.o,hB,G0.o,G1.o⟩
   case round=>
    obtain⟨m,cf,dX,pN,rfl,HM,qJ,Fa,g0,g1⟩:=hrel;have a0:wr.cell? ⟨w.heap.size+1,0,none⟩=some (.int .i64 y):=McA;have a1:wr.cell? ⟨w.heap.size+1,1,none⟩=some (.int .i64 m):=McA;have a2:wr.cell? ⟨w.heap.size+1,2,none⟩=some (.int .i64 0):=McA;have z0:wr.frozen? ⟨w.heap.size+1,0,none⟩=false:=McJ;have z1:wr.frozen? ⟨w.heap.size+1,1,none⟩=false:=McJ;have z2:wr.frozen? ⟨w.heap.size+1,2,none⟩=false:=McJ;have b0:wr.cell? ⟨w.heap.size,0,none⟩=some (.int .i64 0):=Mcy;have b1:wr.cell? ⟨w.heap.size,1,none⟩=some (.int .i64 0):=Mcy;have b2:wr.cell? ⟨w.heap.size,2,none⟩=some (.int .i64 0):=Mcy;have x0:wr.frozen? ⟨w.heap.size,0,none⟩=false:=McI;have x1:wr.frozen? ⟨w.heap.size,1,none⟩=false:=McI;have x2:wr.frozen? ⟨w.heap.size,2,none⟩=false:=McI;have e1:w.heap.size+1<wr.heap.size:=zab g1;have e0:w.heap.size<wr.heap.size:=zab g0;have Fu:=hL.keep Fa;have fW:=zdH y cf dX;have oG:=zbZ (m:=m) lq Mcu cf Mcu;have hu:=zf3 y cf;have HU:=zHi hu;have cY:=qJ.o;have k2:IntKind.i64.wrap (day-zaD y m-za6 y m)=day-zaD y m-za6 y m:=IntWalk.i64_in _ Mcu;have k3:IntKind.i64.wrap ((m:Int)+1)=(m:Int)+1:=IntWalk.i64_in _ Mcu;have k4:IntKind.i64.wrap (day-zaD y m+1)=day-zaD y m+1:=IntWalk.i64_in _ Mcu;by_cases cD:za6 y m<=day-zaD y m
    ·have sK:m<12:=by
      rcases Nat.lt_or_ge m 12 with h|h
      ·exact h
      ·have:=C1.o;obtain rfl:m=12:=by omega
       rw[show((12:Nat):Int)=12 from rfl]at cD;omega
     have kM:Hid (zbh day=zdo day y (13-(m+1)) (m+1)):=by
      show _=_;rw[HM.o,show 13-m=(13-(m+1))+1 by omega,zjD sK (by rw[hu];omega)]
     have xW:zaD y (m+1)<=day:=by rw[hu];omega
     have gw:=zHi xW;clear hu cY xW;go_wp2_with (go_at_call 204;refine(zf4 y m _ Fu Mcu Mcu cf dX).mono ?_;rintro e wq ⟨rfl,rfl⟩)
     go_roundg (12-(m+1))
     case measure=>omega
     case rel=>
      refine⟨m+1,by omega,by omega,Nat.le_refl _,by rw[HU.o];exact zbB Mcu,kM,gw.o,by repeat(first|exact B_refl|exact Below.refl _ _|assumption|with_reducible refine zac ?_ _|with_reducible refine zbg ?_ _|with_reducible refine zaE ?_|with_reducible refine zd9 ?_ _|with_reducible refine zaM ?_ Mds _),J_ne Mcu g0,?_⟩;exact MbS
    ·have kM:Hid (zbh day=m):=by
      show _=_;rw[HM.o,zjE (by rw[hu];omega)]
     have HD:Hid (DateIs day (zbU day) (zbh day)):=by
      show DateIs _ _ _;rw[HN.o,kM.o];exact⟨lq,by omega,cf,dX,cY,by omega⟩
     clear hu cY;go_wp2_with (go_at_call 204;refine(zf4 y m _ Fu Mcu Mcu cf dX).mono ?_;rintro e wq ⟨rfl,rfl⟩)
     exact Mw
theorem zo7(day mo:Int)(w:World)(hL:LensIn w)(h0:0<=day)(h1:day<=200000)(nN: -12000<=mo)(cf:mo<=12000):
 Calls Tryz.prog 189 #[.int .i64 day,.int .i64 mo] w (fun e w'=>∃n:Int,∃ok:Bool,(ok=true->zbV day mo=n/\0<=n)/\(ok=false->zbV day mo= -1)/\Ret w (.tuple #[.int .i64 n,.bool ok]) e w'):=by
 have hA:zbV day mo=if !inR ((zbU day*12+zbh day-1+mo)/12) 1800 2347 then-1 else
  if zbl (zaD ((zbU day*12+zbh day-1+mo)/12) ((zbU day*12+zbh day-1+mo)%12+1).toNat+min (day-zaD (zbU day) (zbh day)+1) (za6 ((zbU day*12+zbh day-1+mo)/12) ((zbU day*12+zbh day-1+mo)%12+1))-1)then
   zaD ((zbU day*12+zbh day-1+mo)/12) ((zbU day*12+zbh day-1+mo)%12+1).toNat+min (day-zaD (zbU day) (zbh day)+1) (za6 ((zbU day*12+zbh day-1+mo)/12) ((zbU day*12+zbh day-1+mo)%12+1))-1 else-1:=rfl
 have HA:=zHi hA;clear hA;have HD:=zHi (fun W h=>zo6 day W h h0 h1);generalize zbU day=y at*;generalize zbh day=m at*;generalize zbV day mo=R at*;go_enter Tryz.func189,Tryz.ntmps189
 go_upto_region 2 with(go_at_call 202;refine(HD.o _ hL).mono ?_;rintro e wq ⟨Dc,rfl,z,rfl⟩;simp only[zmC])
 obtain⟨d1,d2,d3,d4,d5,d6⟩:=Dc;obtain⟨f1,f2⟩:=zdH y d3 d4;obtain⟨X,hX⟩:∃X,X=day-zaD y m+1:=⟨_,rfl⟩
 obtain⟨N,hN⟩:∃N,N=12*y+m-1+mo:=⟨_,rfl⟩
 have tt:Hid (R=if !inR (N/12) 1800 2347 then-1 else if zbl (zaD (N/12) (N%12+1).toNat+min X (za6 (N/12) (N%12+1))-1)then zaD (N/12) (N%12+1).toNat+min X (za6 (N/12) (N%12+1))-1 else-1):=by
  show _=_;rw[HA.o,hX,hN,show y*12+(m:Int)-1+mo=12*y+m-1+mo by omega]
 have K9:1<=X:=Mcu;have As:X<=31:=Mcu;rw[<-hX];have k1:IntKind.i64.wrap (12*y)=12*y:=IntWalk.i64_in _ Mcu;have k2:IntKind.i64.wrap (12*y+m)=12*y+m:=IntWalk.i64_in _ Mcu;have k3:IntKind.i64.wrap (12*y+m-1)=12*y+m-1:=IntWalk.i64_in _ Mcu;have k4:IntKind.i64.wrap (12*y+m-1+mo)=N:=by rw[hN];exact IntWalk.i64_in _ Mcu
 have Cr: -20000<=N/\N<=100000:=Mcu;obtain⟨rB,Cs⟩:=Cr;clear HA hX hN HD d5 d6 f1 f2;by_cases hN0:N<0
 ·have Cq:inR (N/12) 1800 2347=false:=by simp[inR];omega
  have HR:Hid (R= -1):=by show _=_;rw[tt.o,Cq];rfl
  clear Cq;go_wp2_with fail
  go_ret2
  exact⟨0,false,by simp,fun _=>HR.o,Ret.of rfl Bw⟩
 ·have Cq:0<=N:=Mcu;have dL:0<=N/12:=Mcu;obtain⟨mm,ct⟩:∃mm:Nat,(mm:Int)=N%12+1:=⟨(N%12+1).toNat,by omega⟩
  have dC:1<=mm:=Mcu;have js:mm<=12:=Mcu;have ht:(N%12+1).toNat=mm:=Mcu;have cH:Hid (R=if !inR (N/12) 1800 2347 then-1 else if zbl (zaD (N/12) mm+min X (za6 (N/12) mm)-1)then zaD (N/12) mm+min X (za6 (N/12) mm)-1 else-1):=by
   show _=_;rw[tt.o,ht,<-ct]
  have k5:IntKind.i64.wrap (N%12+1)=(mm:Int):=by rw[ct];exact IntWalk.i64_in _ Mcu
  obtain⟨Y,hY⟩:∃Y,N/12=Y:=⟨_,rfl⟩
  rw[hY]at cH;have wX:Y<=10000:=Mcu;have cM:0<=Y:=Mcu;clear tt ht;have tK:=zHi ct;clear ct;cases aJ:inR Y 1800 2347
  ·have HR:Hid (R= -1):=MdP;go_wp2_with (go_at_call 188;refine(zeD _ _ _ _).mono ?_;rintro e wq ⟨rfl,rfl⟩;rw[aJ])
   all_goals go_ret2
   all_goals exact⟨0,false,by simp,fun _=>HR.o,Ret.of rfl Bw⟩
  ·have wY:1800<=Y/\Y<=2347:=by simpa[inR]using aJ
   obtain⟨f1,f2⟩:=zdH Y dC js;have so:=zbZ (m:=mm) wY.1 Mcu dC Mcu;have HR:Hid (R=if zbl (zaD Y mm+min X (za6 Y mm)-1)then zaD Y mm+min X (za6 Y mm)-1 else-1):=MdP;have eB:Hid (∀W,Below w.heap.size w W->LensIn W):=fun W h=>hL.keep h
   clear cH hL;go_upto_region 6 with(go_at_call 188;refine(zeD _ _ _ _).mono ?_;rintro e wq ⟨rfl,rfl⟩;rw[aJ])
   obtain⟨vz,uX⟩:=yH2 (fun W (hW:Below w.heap.size w W)=>zf4 Y mm W (eB.o _ hW) cM Mcu dC js) (fun d W (hW:Below w.heap.size w W) (io:0<=d) (cg:d<=1000)=>dayOf_any Y mm d W (eB.o _ hW) wY.1 Mcu dC js io cg);generalize za6 Y mm=L at*;clear so;refine zaj Mcv Mcv ?_;repeat(first|go_big_quiet_skip|(go_big_quiet_want;go_big_quiet_op;first|go_big_quiet_on|(apply Exists.intro;refine⟨fun _=>?_,?_⟩;(first|(go_at_call 204;exact zhW (vz.o _ Bw))|(go_at_call 203;exact zhW (uX.o _ _ Bw Mcu Mcu)));go_big_quiet_on)))
   refine wpQuiet_nil ?_;rintro _ ⟨zq,rfl⟩;generalize hO:zaD Y mm+min X L-1=out at*;have HO:=zHi hO;clear hO vz uX eB;cases hd:zbl out
   ·have jB:=zHi hd;go_wp2_with (go_at_call 187;refine(zgZ _ _).mono ?_;rintro e wq ⟨rfl,rfl⟩;rw[hd])
    exact MbQ
   ·have jB:=zHi hd;go_wp2_with (go_at_call 187;refine(zgZ _ _).mono ?_;rintro e wq ⟨rfl,rfl⟩;rw[hd])
    exact MaZ
theorem zkw(day mo:Int)(w:World)(hL:LensIn w)(h0:0<=day)(h1:day<=200000)(nN:0<=mo)(cf:mo<=12000):
 Calls Tryz.prog 170 #[.int .i64 day,.int .i64 mo] w (fun e w'=>∃n er:Int,(er=0->zbV day mo=n/\0<=n)/\(er≠0->zbV day mo= -1)/\Ret w (.tuple #[.int .i64 n,.int .i64 er]) e w'):=by
 have cg:inR day 0 200000=true:=by simp[inR];omega
 have dW:inR mo (-12000) 12000=true:=by simp[inR];omega
 have HL:=zHi (zo7 day mo w hL h0 h1 Mcu cf);go_enter Tryz.func170,Tryz.ntmps170
 go_wp2_with (first
  |(go_at_call 187;refine(zgZ _ _).mono ?_;rintro e wq ⟨rfl,rfl⟩;unfold zbl;rw[cg])
  |(go_at_call 188;refine(zeD _ _ _ _).mono ?_;rintro e wq ⟨rfl,rfl⟩;rw[dW])
  |(go_at_call 189;refine(HL.o).mono ?_;rintro e wq ⟨n,ok,h1,h2,rfl,z,rfl⟩;obtain⟨H1,H2⟩:=yH2 h1 h2;clear h1 h2;cases ok))
 all_goals go_ret2
 all_goals first
  |exact⟨0,2,by simp,fun _=>H2.o trivial,Ret.of rfl Bw⟩
  |exact⟨n,0,fun _=>H1.o trivial,by simp,Ret.of rfl Bw⟩
theorem zjF(day ys:Int)(w:World)(hL:LensIn w)(h0:0<=day)(h1:day<=200000)(nN:0<=ys)(cf:ys<=99):
 Calls Tryz.prog 140 #[.int .i64 day,.int .i64 ys] w (Ret w (.int .i64 (zcj day ys))):=by
 have HL:=zHi (zkw day (12*ys) w hL h0 h1 Mcu Mcu);go_enter Tryz.func140,Tryz.ntmps140
 go_wp2_with (go_at_call 170;refine(HL.o).mono ?_;rintro e wq ⟨n,er,k1,k2,rfl,z,rfl⟩;obtain⟨H1,H2⟩:=yH2 k1 k2;clear k1 k2;by_cases l7:er=0)
 all_goals go_ret
 all_goals first
  |exact Ret.of (zbB (by unfold zcj;exact(H1.o (by first|trivial|exact l7)).1.symm)) Bw
  |exact Ret.of (zbB (by unfold zcj;exact(H2.o (by first|trivial|exact l7)).symm)) Bw
end
def zbj(q:Rat):Rat:=if bigQ q then 0 else q
theorem zgq(q:Rat):bigQ (zbj q)=false:=by
 unfold zbj;cases h:bigQ q
 ·simpa using h
 ·simp[bigQ]
theorem zcy{q:Rat}(h:0<=q):0<=zbj q:=by
 unfold zbj;split
 ·exact Rat.le_refl
 ·exact h
theorem zha{q:Rat}(h:0<=q):zbj q<=q:=by
 unfold zbj;split
 ·exact h
 ·exact Rat.le_refl
theorem zfg{q:Rat}(h:bigQ q=false):zbj q=q:=by simp[zbj,h]
def zfh(own:Rat)(p:ByteArray×Rat)(x:Parts×Bool):Parts×Bool:=
 (setP x.1 p.1 (zbj (zaf x.1 p.1+zbj (own*p.2))),x.2||bigQ (own*p.2)||bigQ (zaf x.1 p.1+zbj (own*p.2)))
def zem(own:Rat):Parts->Parts×Bool->Parts×Bool
 | [],x=>x
 |p::l,x=>zem own l (zfh own p x)
theorem zfi(own:Rat):∀(a b:Parts) (x:Parts×Bool),zem own (a++b) x=zem own b (zem own a x)
 | [],_,_=>rfl
 |p::a,b,x=>zfi own a b _
theorem zfj{own:Rat}:∀ {l:Parts} {x:Parts×Bool},x.2=true->(zem own l x).2=true
 | [],_,h=>h
 |p::l,x,h=>zfj (l:=l) (by simp[zfh,h])
theorem zhK{l:Parts}(h:GoodParts l){n:ByteArray}{q:Rat}(hq:0<=q):GoodParts (setP l n q):=by
 by_cases h0:q=0
 ·subst h0;rw[zhF h.asc];exact zbN h
 ·refine⟨set_asc h.asc n q,fun p hp=>?_⟩;rcases zkr hp with rfl|hp
  ·show 0<q;grind
  ·exact h.pos p hp
theorem zmD{l:Parts}(h:GoodParts l)(n:ByteArray)(q:Rat):sumQ (setP l n q)=sumQ l-zaf l n+q:=by
 have hw:=zcm (n:=n) h;rw[ziq h.asc];by_cases hq:q==0
 ·rw[if_pos hq];have:q=0:=by simpa using hq
  subst this;grind
 ·rw[if_neg hq,zbY];grind
theorem zex{l:Parts}{n:ByteArray}{q:Rat}(h:zaF l=false)(hq:bigQ q=false):zaF (setP l n q)=false:=by
 unfold zaF at*;rw[List.any_eq_false]at*;intro p hp;rcases zkr hp with rfl|hp
 ·simpa using hq
 ·exact h p hp
theorem ziy{n:ByteArray}{q:Rat}:∀ {l:Parts},(setP l n q).length<=l.length+1
 | []=>by unfold setP;split<;>simp
 |x::l=>by
  unfold setP;have:=ziy (n:=n) (q:=q) (l:=l);split
  ·simpa using this
  ·split
   ·split<;>simp<;>omega
   ·split<;>simp
theorem zcQ{l:Parts}(n:ByteArray)(h:zaF l=false):bigQ (zaf l n)=false:=by
 unfold zaf;cases hf:l.find? (fun p=>zae p.1 n)with
 |none=>simp[bigQ]
 |some p=>
  unfold zaF at h;rw[List.any_eq_false]at h;simpa using h p (List.mem_of_find?_eq_some hf)
theorem zd2{l:Parts}(h:GoodParts l)(n:ByteArray):zaf l n<=sumQ l:=by
 have h1:=zcm (n:=n) h;have h2:=zbt (l:=zau l n) fun p hp=>by have:=(zbN h (n:=n)).pos p hp;grind
 grind
theorem zcd{q:Rat}(h0:0<=q)(h1:q<=1)(hb:bigQ q=false):zaJ q:=by
 unfold bigQ at hb;have hd:=q.den_pos;have bs:(q.den:Int)<=1000000000:=by simpa using hb
 rw[Rat.le_iff]at h0 h1;have h2:0<=q.num:=MdA;have h3:q.num<=(q.den:Int):=Mc1;exact⟨by omega,by omega⟩
structure Bd (out:Parts) (t:Rat):Prop where
 good:GoodParts out
 small:zaF out=false
 le:sumQ out<=t
theorem Bd.share{out:Parts}{t:Rat}(h:Bd out t)(ht:t<=1)(n:ByteArray):zaJ (zaf out n):=
 zcd (zbF h.good n) (by have:=zd2 h.good n;have:=h.le;grind) (zcQ n h.small)
theorem Bd.set{out:Parts}{t g:Rat}(h:Bd out t)(n:ByteArray)(hg:0<=g):Bd (setP out n (zbj (zaf out n+g))) (t+g):=by
 have hs:=zbF h.good n;have h1:0<=zaf out n+g:=McX;refine⟨zhK h.good (zcy h1),zex h.small (zgq _),?_⟩;rw[zmD h.good];have:=zha h1;have:=h.le;grind
theorem Bd.gain{own:Rat}{out:Parts}{t:Rat}{p:ByteArray×Rat}{f:Bool}(h:Bd out t)(ho:0<=own)(hp:0<=p.2):Bd (zfh own p (out,f)).1 (t+own*p.2):=by
 have hm:0<=own*p.2:=Rat.mul_nonneg ho hp;have h1:=h.set p.1 (zcy hm);have h2:=zha hm;exact⟨h1.good,h1.small,by have:=h1.le;grind [zfh]⟩
theorem znQ{out:Parts}(h:GoodParts out){n:ByteArray}{g:Rat}(hg:0<=g)(hb:bigQ (zaf out n+g)=false):setP out n (zbj (zaf out n+g))=za3 out n g:=by
 rw[zfg hb,zip h hg]
theorem zls{n:ByteArray}{q:Rat}:∀ {l:Parts},GoodParts l->0<q->(n,zaf l n+q)∈za3 l n q
 | [],_,hq=>by
   have:(q==0)=false:=by rw[beq_eq_false_iff_ne];grind
   simp[za3,this,zaf,Rat.zero_add]
 |x::l,h,hq=>by
  have dL:(q==0)=false:=by rw[beq_eq_false_iff_ne];grind
  have ht:GoodParts l:=⟨(List.pairwise_cons.1 h.asc).2,fun p hp=>h.pos p Md0⟩
  rw[za3,dL];cases hl:zbb x.1 n
  ·cases hs:zae x.1 n
   ·have ae:zbb n x.1=true:=by
     rcases zdg x.1 n with h1|h1|h1
     ·rw[hl]at h1;cases h1
     ·exact absurd h1 (zcl.1 hs)
     ·exact h1
    have h0:zaf (x::l) n=0:=(zdK fun p hp=>by
     rcases List.mem_cons.1 hp with rfl|hp
     ·exact(zc8 ae).symm
     ·exact(zc8 (zb6 ae ((List.pairwise_cons.1 h.asc).1 p hp))).symm).1
    simp[h0,Rat.zero_add]
   ·rw[zbu,hs];simp
  ·rw[zbu,zgl hl];simp only[Bool.false_eq_true,if_false,if_true];exact List.mem_cons_of_mem _ (zls ht hq)
theorem zfk{out:Parts}(h:GoodParts out)(hs:zaF out=false){n:ByteArray}{g:Rat}(hg:0<=g):zaF (za3 out n g)=bigQ (zaf out n+g):=by
 by_cases h0:g=0
 ·subst h0;have:za3 out n 0=out:=by cases out<;>simp[za3]
  rw[this,hs,Rat.add_zero,zcQ n hs]
 ·cases hb:bigQ (zaf out n+g)
  ·rw[<-zip h hg];exact zex hs hb
  ·unfold zaF;rw[List.any_eq_true];exact⟨_,zls h McX,hb⟩
theorem ziz{own:Rat}(ho:0<=own):∀ {l out:Parts},(∀p∈l,0<=p.2)->GoodParts out->zaF out=false->
 (∀o,zbC own l out=some o->zem own l (out,false)=(o,false))/\(zbC own l out=none->(zem own l (out,false)).2=true)
 | [],out,_,_,_=>by
   refine⟨fun o h=>?_,fun h=>?_⟩
   ·rw[zbC]at h;cases h;rfl
   ·rw[zbC]at h;cases h
 |p::l,out,hp,hg,hs=>by
  have hm:0<=own*p.2:=Rat.mul_nonneg ho (hp p Mcx);rw[zbC];show(∀o,_=_->zem own l (zfh own p (out,false))=_)/\(_->(zem own l (zfh own p (out,false))).2=true);cases h1:bigQ (own*p.2)
  ·have dF:zbj (own*p.2)=own*p.2:=zfg h1;have cq:=zfk hg hs (n:=p.1) hm;rw[if_neg Mcx];cases h2:bigQ (zaf out p.1+own*p.2)
   ·have e:zfh own p (out,false)=(za3 out p.1 (own*p.2),false):=by
     unfold zfh;simp only[dF,h1,h2,Bool.or_self];rw[znQ hg hm h2]
    rw[cq,h2,if_neg Mcx,e];exact ziz ho (fun q hq=>hp q MdH) (zb0 hm hg) (by rw[cq,h2])
   ·rw[cq,h2,if_pos rfl];refine⟨fun o h=>by(cases h),fun _=>zfj ?_⟩;simp[zfh,dF,h2]
  ·rw[if_pos rfl];refine⟨fun o h=>by(cases h),fun _=>zfj ?_⟩;simp[zfh,h1]
theorem zmE{own:Rat}(ho:0<=own):∀ {l out:Parts} {f:Bool} {t:Rat},(∀p∈l,0<=p.2)->Bd out t->Bd (zem own l (out,f)).1 (t+own*sumQ l)
 | [],out,f,t,_,h=>by
   show Bd out (t+own*0);rw[Rat.mul_zero,Rat.add_zero];exact h
 |p::l,out,f,t,hp,h=>by
  have h1:=zmE ho (l:=l) (f:=(zfh own p (out,f)).2) (fun q hq=>hp q MdH) (h.gain (f:=f) ho (hp p Mcx));have e:t+own*p.2+own*sumQ l=t+own*sumQ (p::l):=by rw[sumQ];grind
  rw[e]at h1;exact h1
def zcz(hs:Parts)(frm:ByteArray)(tl:Parts):Parts×Bool:=
 zem (zaf hs frm) tl (setP hs frm (zbj (zaf hs frm*(1-sumQ tl))),bigQ (zaf hs frm*(1-sumQ tl)))
theorem zkx{hs tl:Parts}{frm:ByteArray}(hg:GoodParts hs)(hl:zaF hs=false)(hp:∀p∈tl,0<=p.2)(h1:sumQ tl<=1):
 (if bigQ (zaf hs frm*(1-sumQ tl))then none else zbC (zaf hs frm) tl (za3 (zau hs frm) frm (zaf hs frm*(1-sumQ tl))))=if(zcz hs frm tl).2 then none else some (zcz hs frm tl).1:=by
 have ho:=zbF hg frm;have hk:0<=zaf hs frm*(1-sumQ tl):=Rat.mul_nonneg ho McX;unfold zcz;cases hb:bigQ (zaf hs frm*(1-sumQ tl))
 ·rw[zfg hb,if_neg Mcx];have e:setP hs frm (zaf hs frm*(1-sumQ tl))=za3 (zau hs frm) frm (zaf hs frm*(1-sumQ tl)):=by
   rw[ziq hg.asc];split
   ·rename_i h0
    have:zaf hs frm*(1-sumQ tl)=0:=by simpa using h0
    rw[this];cases zau hs frm<;>simp[za3]
   ·rfl
  have aL:=zhK hg (n:=frm) hk;have nO:=zex (n:=frm) hl hb;obtain⟨g1,g2⟩:=ziz ho hp aL nO;rw[e]at g1 g2⊢;cases hx:zbC (zaf hs frm) tl (za3 (zau hs frm) frm (zaf hs frm*(1-sumQ tl)))with
  |none=>rw[g2 hx,if_pos rfl]
  |some o=>rw[g1 o hx,if_neg Mcx]
 ·rw[if_pos rfl,zfj rfl,if_pos rfl]
def zcW(n:ByteArray)(f:Rat)(x:Parts×Bool):Parts×Bool:=
 (setP x.1 n (zbj (zaf x.1 n+f)),x.2||bigQ (zaf x.1 n+f))
mutual
def zbQ(part:Rat):List Tree->Parts×Bool->Parts×Bool
 | [],x=>x
 |t::l,x=>zbQ part l (zdW part t x)
def zdW(part:Rat):Tree->Parts×Bool->Parts×Bool
 | .leaf n,x=>zcW n part x
 | .node l,x=>zbQ (zbj (part*(1/(l.length:Rat)))) l (x.1,x.2||bigQ (part*(1/(l.length:Rat))))
end
def zc0(l:List Tree)(f:Rat)(x:Parts×Bool):Parts×Bool:=
 zbQ (zbj (f*(1/(l.length:Rat)))) l (x.1,x.2||bigQ (f*(1/(l.length:Rat))))
theorem zo8(part:Rat)(l:List Tree)(x:Parts×Bool):zdW part (.node l) x=zc0 l part x:=by rw[zdW,zc0]
theorem zgr(part:Rat):∀(a b:List Tree) (x:Parts×Bool),zbQ part (a++b) x=zbQ part b (zbQ part a x)
 | [],_,_=>by rw[List.nil_append,zbQ]
 |t::a,b,x=>by rw[List.cons_append,zbQ,zbQ,zgr part a b]
def zdm(s:St)(frm:ByteArray):Parts->Parts×Bool->Rat->(Parts×Bool)×Rat
 | [],x,rest=>(x,rest)
 |p::l,x,rest=>if zed s p.1 frm then zdm s frm l (zcW p.1 p.2 x) (rest-p.2)else zdm s frm l x rest
def zcq(s:St)(n:ByteArray):ByteArray:=if zed s (zaK s n) n then zaK s n else⟨#[]⟩
def zcn(s:St)(law:Law)(n:ByteArray):Parts×Bool:=
 let y:=zdm s n (zbx s n) ([],false) 1
 let sp:=zcq s n
 let lines:=zb7 s law.stems n (zaX s) n
 if lines.isEmpty then zcW sp y.2 y.1 else
 if noB sp then zc0 lines y.2 y.1 else
 zc0 lines (y.2-y.2*Rat.divInt law.num law.den) (zcW sp (y.2*Rat.divInt law.num law.den) y.1)
mutual
theorem zf5{part:Rat}:∀ {l:List Tree} {x:Parts×Bool},x.2=true->(zbQ part l x).2=true
 | [],x,h=>by rw[zbQ];exact h
 |t::l,x,h=>by rw[zbQ];exact zf5 (tree_mark h)
theorem tree_mark{part:Rat}:∀ {t:Tree} {x:Parts×Bool},x.2=true->(zdW part t x).2=true
 | .leaf n,x,h=>by rw[zdW];simp[zcW,h]
 | .node l,x,h=>by rw[zdW];exact zf5 (by simp[h])
end
theorem zgs{out:Parts}(h:GoodParts out){n:ByteArray}{f:Rat}(hf:0<=f)(hb:bigQ (zaf out n+f)=false):zcW n f (out,false)=(za3 out n f,false):=by
 unfold zcW;simp only[hb,Bool.or_self];rw[znQ h hf hb]
theorem zky(a:Rat)(n:Nat):a*(1/(n:Rat))=a/(n:Rat):=by
 rw[Rat.div_def,Rat.div_def,Rat.one_mul]
theorem zeE{a:Rat}(h:0<=a)(n:Nat):0<=a*(1/(n:Rat)):=by
 rw[zky];exact zcJ h Rat.natCast_nonneg
mutual
theorem zhb{each:Rat}(he:0<=each):∀ {l:List Tree} {out:Parts},GoodParts out->zaF out=false->
 (∀o,zbJ each l out=some o->zbQ each l (out,false)=(o,false))/\(zbJ each l out=none->(zbQ each l (out,false)).2=true)
 | [],out,hg,hs=>by
   rw[zbJ,zbQ];exact MbF
 |t::l,out,hg,hs=>by
  obtain⟨h1,h2⟩:=tree_same he (t:=t) hg hs;rw[zbJ,zbQ];cases ht:zep each t out with
  |none=>
   refine⟨fun o h=>by(cases h),fun _=>zf5 (h2 ht)⟩
  |some o1=>
   rw[h1 o1 ht];obtain⟨g1,g2⟩:=zii he hg hs ht;exact zhb he g1 g2
theorem tree_same{each:Rat}(he:0<=each):∀ {t:Tree} {out:Parts},GoodParts out->zaF out=false->
 (∀o,zep each t out=some o->zdW each t (out,false)=(o,false))/\(zep each t out=none->(zdW each t (out,false)).2=true)
 | .leaf n,out,hg,hs=>by
   rw[zep,zdW,zfk hg hs he];cases hb:bigQ (zaf out n+each)
   ·rw[if_neg Mcx,zgs hg he hb];exact MbF
   ·rw[if_pos rfl];refine⟨fun o h=>by(cases h),fun _=>by simp[zcW,hb]⟩
 | .node l,out,hg,hs=>by
   rw[zep,zdW,zky];cases hb:bigQ (each/(l.length:Rat))
   ·rw[if_neg Mcx,zfg hb];exact zhb (zcJ he Rat.natCast_nonneg) hg hs
   ·exact MbW
end
theorem zo9(out:Parts)(n:ByteArray):za3 out n 0=out:=by cases out<;>simp[za3]
theorem zhc{out:Parts}(h:GoodParts out)(hs:zaF out=false)(n:ByteArray):zcW n 0 (out,false)=(out,false):=by
 rw[zgs h Rat.le_refl (by rw[Rat.add_zero];exact zcQ n hs),zo9]
theorem zgt(k:Nat):zbj (0*(1/(k:Rat)))=0/\bigQ (0*(1/(k:Rat)))=false:=by
 rw[Rat.zero_mul];exact⟨zfg Mcw,by decide⟩
mutual
theorem zhd:∀ {l:List Tree} {out:Parts},GoodParts out->zaF out=false->zbQ 0 l (out,false)=(out,false)
 | [],out,_,_=>by rw[zbQ]
 |t::l,out,hg,hs=>by rw[zbQ,tree_zero hg hs,zhd hg hs]
theorem tree_zero:∀ {t:Tree} {out:Parts},GoodParts out->zaF out=false->zdW 0 t (out,false)=(out,false)
 | .leaf n,out,hg,hs=>by rw[zdW,zhc hg hs]
 | .node l,out,hg,hs=>by
   rw[zdW,(zgt l.length).1,(zgt l.length).2];exact zhd hg hs
end
theorem zfR{l:List Tree}{out:Parts}(hg:GoodParts out)(hs:zaF out=false):zc0 l 0 (out,false)=(out,false):=by
 rw[zc0,(zgt l.length).1,(zgt l.length).2];exact zhd hg hs
theorem zgu{s:St}{frm:ByteArray}:∀ {l out:Parts} {rest:Rat},(∀p∈l,0<p.2)->(∀p∈l,IsN 720720 p.2)->GoodParts out->(∀p∈out,IsN 720720 p.2)->
 zdm s frm l (out,false) rest=(((zcu s frm l out rest).1,false),(zcu s frm l out rest).2)
 | [],out,rest,_,_,_,_=>rfl
 |p::l,out,rest,hp,hN,hg,hn=>by
  have hl:=fun q (hq:q∈l)=>hp q MdH
  have wD:=fun q (hq:q∈l)=>hN q MdH
  rw[zdm,zcu];split
  ·have h0:0<=p.2:=by have:=hp p Mcx;grind
   have aG:=zcK (nm:=p.1) (hN p Mcx) hn;have hb:bigQ (zaf out p.1+p.2)=false:=by
    rw[<-zfk hg (zc9 Mcw Mcw hn) h0];exact zc9 Mcw Mcw aG
   rw[zgs hg h0 hb];exact zgu hl wD (zb0 h0 hg) aG
  ·exact zgu hl wD hg hn
theorem isN_law{law:Law}(hl:za8 16 law.num law.den=true):(∃d:Nat,0<d/\d<=16/\IsN d (Rat.divInt law.num law.den))/\0<=Rat.divInt law.num law.den/\Rat.divInt law.num law.den<=1:=by
 refine⟨?_,(zbp hl).2.2⟩;have hd:=hl;exact M4
theorem zey{n:Nat}(h0:0<n)(h1:n<=1000000000){q:Rat}(h:IsN n q):bigQ q=false:=by
 have:=zkp h0 h;unfold bigQ;simp;omega
theorem zfS{s:St}{law:Law}{n:ByteArray}(hw:WillOk (zbx s n))(hl:za8 16 law.num law.den=true):
 (∀o,zcP s law n=some o->(zcn s law n)=(o,false))/\(zcP s law n=none->(zcn s law n).2=true):=by
 have jz:=zgu (s:=s) (frm:=n) (rest:=1) hw.pos hw.isN zdD Mcx;have hg:=zij (s:=s) (frm:=n) (out:=[]) (rest:=1) hw.pos hw.isN hw.le zdD Mcx (zgX _);unfold zcP zcn zcq;rw[jz];generalize zcu s n (zbx s n) [] 1=q at*;obtain⟨out,rest⟩:=q;dsimp only at*;obtain⟨g1,g2,g3,g4,g5⟩:=hg;have gs:zaF out=false:=zc9 Mcw Mcw g2;obtain⟨⟨ld,ld0,ld1,l1⟩,l2,l3⟩:=isN_law hl;generalize Rat.divInt law.num law.den=la at*;generalize(if zed s (zaK s n) n=true then zaK s n else⟨#[]⟩)=sp at*;generalize zb7 s law.stems n (zaX s) n=tr at*;by_cases hr:rest=0
 ·subst hr;have hz:(0:Rat)-0=0:=McX;simp only[Rat.zero_mul,hz,beq_self_eq_true,if_true];refine⟨fun o h=>?_,fun h=>by cases h⟩;cases h;split
  ·exact zhc g1 gs sp
  ·split
   ·exact zfR g1 gs
   ·rw[zhc g1 gs,zfR g1 gs]
 ·have qd:(rest==0)=false:=by simpa using hr
  have ux:0<rest:=McX;simp only[qd,Bool.false_eq_true,if_false];cases he:tr.isEmpty
  ·simp only[Bool.false_eq_true,if_false];have xr:∀ {x:Parts} {r:Rat},GoodParts x->zaF x=false->0<=r->
    (∀o,(if bigQ (r/(tr.length:Rat))=true then none else zbJ (r/(tr.length:Rat)) tr x)=some o->zc0 tr r (x,false)=(o,false))/\((if bigQ (r/(tr.length:Rat))=true then none else zbJ (r/(tr.length:Rat)) tr x)=none->(zc0 tr r (x,false)).2=true):=fun {x r} hx bn cy=>by
    rw[zc0,zky];cases hb:bigQ (r/(tr.length:Rat))
    ·rw[if_neg Mcx,zfg hb];exact zhb (zcJ cy Rat.natCast_nonneg) hx bn
    ·exact MbW
   cases hn:noB sp
   ·simp only[Bool.false_eq_true,if_false];have iO:0<=rest*la:=Rat.mul_nonneg g4 l2;have li:rest*la<=rest:=by
     have:=Rat.mul_nonneg g4 (show 0<=1-la by grind);grind
    have hb:bigQ (zaf out sp+rest*la)=false:=by
     have h1:IsN (720720*ld) (zaf out sp+rest*la):=by
      refine zkm (zlg ?_) (zkn g3 l1);unfold zaf;cases hf:out.find? (fun p=>zae p.1 sp)with
      |none=>exact zko _
      |some p=>exact g2 p (List.mem_of_find?_eq_some hf)
     exact zey Mcu Mcu h1
    rw[zgs g1 iO hb];have cj:=zb0 (n:=sp) iO g1;have aY:zaF (za3 out sp (rest*la))=false:=by rw[zfk g1 gs iO];exact hb
    by_cases hz:rest-rest*la=0
    ·rw[hz];simp only[beq_self_eq_true,if_true];exact⟨fun o h=>by cases h;exact zfR cj aY,fun h=>by cases h⟩
    ·have iH:(rest-rest*la==0)=false:=MdB;simp only[iH,Bool.false_eq_true,if_false];exact xr cj aY McX
   ·simp only[if_true];have hz:rest-0=rest:=McX;simp only[hz,qd,Bool.false_eq_true,if_false];exact xr g1 gs g4
  ·simp only[if_true];have hb:bigQ (zaf out sp+rest)=false:=by
    rw[<-zfk g1 gs g4];exact zc9 Mcw Mcw (zcK g3 g2)
   rw[zgs g1 g4 hb];exact MbF
noncomputable def zez (laws:List Law) (upto:Int):List Deed->St->Nat->Int->St×Nat×Int
 | [],s,k,_=>(s,k,0)
 |d::l,s,k,last=>
  if zaI d==0&&decide (upto<d.day)then(s,k+(d::l).length,0)else
  if(zci laws s k last d).2 != 0 then(s,k,(zci laws s k last d).2)else zez laws upto l (zci laws s k last d).1 (k+1) d.day
theorem zdL{laws:List Law}{s:St}{k:Nat}{last:Int}{d:Deed}(h:(zci laws s k last d).2=0):zaI d=0/\k<60/\last<=d.day/\zci laws s k last d=zbr laws s d:=by
 unfold zci at h⊢;split at h
 ·rename_i hc
  have h:zaI d=0:=h;rw[h]at hc;exact absurd hc Mcw
 rename_i hc
 split at h
 ·simp at h
 rename_i hk
 split at h
 ·simp at h
 rename_i hl
 rw[if_neg hc,if_neg hk,if_neg hl];simp at hc hk hl;exact⟨hc,hk,hl,rfl⟩
theorem zjG{laws:List Law}{upto:Int}:∀ {ds:List Deed} {s told:St} {k:Nat} {last:Int},(zaY laws upto ds s told k last).2.2=0->upto<last->(zaY laws upto ds s told k last).1=told
 | [],s,told,k,last,_,_=>rfl
 |d::l,s,told,k,last,h,hl=>by
  rw[zaY]at h⊢;split at h
  ·exact MaJ
  ·rename_i hc
   rw[if_neg hc];have hn:=zdL (show(zci laws s k last d).2=0 by simpa using hc);have hd:¬decide (d.day<=upto)=true:=Mcz;rw[if_neg hd]at h⊢;exact zjG h Mcu
theorem zlt{laws:List Law}{upto:Int}:∀ {ds:List Deed} {s:St} {k:Nat} {last:Int},(zaY laws upto ds s s k last).2.2=0->
 (zez laws upto ds s k last).1=(zaY laws upto ds s s k last).1/\(zez laws upto ds s k last).2.2=0
 | [],s,k,last,_=>⟨rfl,rfl⟩
 |d::l,s,k,last,h=>by
  rw[zaY]at h⊢;split at h
  ·exact MaJ
  ·rename_i hc
   rw[if_neg hc];have h0:(zci laws s k last d).2=0:=MdY;have hn:=zdL h0;rw[zez];by_cases hd:d.day<=upto
   ·have e1:decide (d.day<=upto)=true:=by simpa using hd
    have e2:¬(zaI d==0&&decide (upto<d.day))=true:=Mcz;rw[if_pos e1]at h⊢;rw[if_neg e2,if_neg hc];exact zlt h
   ·have e1:¬decide (d.day<=upto)=true:=by simpa using hd
    have e2:(zaI d==0&&decide (upto<d.day))=true:=by simp[hn.1];omega
    rw[if_neg e1]at h⊢;rw[if_pos e2];exact⟨(zjG h Mcu).symm,rfl⟩
theorem znR{laws:List Law}{upto:Int}(hu:200000<=upto):∀ {ds:List Deed} {s:St} {k:Nat} {last:Int},
 (zez laws upto ds s k last).2=(zaY laws upto ds s s k last).2
 | [],s,k,last=>rfl
 |d::l,s,k,last=>by
  rw[zez,zaY];have h1:¬(zaI d==0&&decide (upto<d.day))=true:=by
   intro h;simp only[Bool.and_eq_true,beq_iff_eq,decide_eq_true_eq]at h;have:=(zeA h.1).day;omega
  rw[if_neg h1];split
  ·rfl
  ·rename_i hc
   have hn:=zdL (show(zci laws s k last d).2=0 by simpa using hc);have:=(zeA hn.1).day;rw[if_pos Mcz];exact znR hu
theorem zlu{laws:List Law}{upto:Int}(bp:zaC laws=0):∀ {ds:List Deed} {s:St} {k:Nat} {last:Int},GoodSt s last->last<=upto->∃b,b<=upto/\GoodSt (zez laws upto ds s k last).1 b
 | [],s,k,last,h,hl=>⟨last,hl,h⟩
 |d::l,s,k,last,h,hl=>by
  rw[zez];split
  ·exact⟨last,hl,h⟩
  ·rename_i h1
   split
   ·exact⟨last,hl,h⟩
   ·rename_i hc
    have hn:=zdL (show(zci laws s k last d).2=0 by simpa using hc);have hd:=zeA hn.1;have h2:d.day<=upto:=by
     rw[hn.1]at h1;simp at h1;exact h1
    have ht:zbr laws s d=((zci laws s k last d).1,0):=by
     rw[<-hn.2.2.2];exact Prod.ext rfl MdY
    exact zlu bp (zf2 h hd hn.2.2.1 bp ht) h2
theorem znS:∀(l:List Int) (i:Nat),nmGo l (i+1)=zjn l
 | [],_=>rfl
 |c::l,i=>by
  rw[nmGo,zjn,znS l (i+1)];have h:(!(zdd c)&&(i+1==0||(c != 45&&(decide (c<48)||decide (57<c)))))=(!zdd c&&!zla c&&c != 45):=by
   cases zdd c
   ·have h0:(i+1==0)=false:=Mcx;rw[h0];by_cases h1:c=45
    ·subst h1;rfl
    ·have h2:(c != 45)=true:=Mc1;rw[h2,zla];by_cases h3:c<48
     ·have h4:¬48<=c:=Mcu;simp only[h3,h4,decide_true,decide_false,Bool.not_false,Bool.true_and,Bool.false_or,Bool.true_or,Bool.false_and]
     ·have h4:48<=c:=Mcu;by_cases h5:57<c
      ·have h6:¬c<=57:=Mcu;simp only[h3,h4,h5,h6,decide_true,decide_false,Bool.not_false,Bool.true_and,Bool.false_or,Bool.true_or,Bool.false_and,Bool.or_true]
      ·have h6:c<=57:=Mcu;simp only[h3,h4,h5,h6,decide_true,decide_false,Bool.not_false,Bool.true_and,Bool.false_or,Bool.true_or,Bool.false_and,Bool.or_true,Bool.or_false,Bool.not_true]
   ·rfl
  rw[h]
theorem zmF(s:ByteArray):s.toList.isEmpty=decide ((s.size:Int)<1):=by
 have e:s.toList.length=s.size:=by rw[ByteArray.toList_eq,Array.length_toList];rfl
 generalize s.size=n at*;cases hl:s.toList with
 |nil=>
  rw[hl]at e;subst e;rfl
 |cons a l=>
  rw[hl,List.length_cons]at e;have h:¬((n:Int)<1):=Mcu;rw[decide_eq_false h];rfl
theorem zd3(s:ByteArray):zaT s=zcE s:=by
 unfold zaT zcE;rw[zmF];have hl:=zgL s;cases hb:zdu s with
 |nil=>
  rw[hb]at hl;have h0:(s.size:Int)<1:=by simp at hl;omega
  simp[h0]
 |cons c l=>
  rw[hb]at hl;have h0:¬(s.size:Int)<1:=by simp at hl;omega
  have h1:nmGo (c::l) 0=if !zdd c then false else zjn l:=by rw[nmGo,znS];simp
  rw[h1];simp only[h0,decide_false,Bool.not_false,Bool.true_and,Bool.false_or,List.getD_cons_zero,List.drop_succ_cons,List.drop_zero];cases zdd c<;>by_cases h2:(12:Int)<s.size<;>simp[h2]<;>omega

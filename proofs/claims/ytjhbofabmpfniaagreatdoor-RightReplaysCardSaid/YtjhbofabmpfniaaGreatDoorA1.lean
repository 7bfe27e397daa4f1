/- A region that draws its order: a head that only lays new blocks, in whatever order, and a struct's block that is made anywhere among it and stored at the end. -/
import Derived.Test.YtjhbofabmpfniaaGreatDoorJL
import Derived.Test.YtjhbofabmpfniaaGreatDoorJ6
set_option linter.unusedSimpArgs false
set_option linter.unusedVariables false
set_option maxRecDepth 100000
set_option maxHeartbeats 4000000
namespace Go.Proofs.YtjhbofabmpfniaaGreatDoor
open Go.RowKit
structure Found (s:St) (nm:ByteArray) (out xs:List ByteArray):Prop where
 nd:out.Nodup
 desc: ∀n∈out,Desc s nm n
 from': ∀x∈xs,x=nm\/x∈out
 seen: ∀x,(x=nm\/x∈out)->x∈xs\/ ∀c∈zai s x,c∈out
structure Look (s:St) (nm x:ByteArray) (j:Nat) (out xs:List ByteArray):Prop where
 nd:out.Nodup
 desc: ∀n∈out,Desc s nm n
 from': ∀x∈xs,x=nm\/x∈out
 seen: ∀y,(y=nm\/y∈out)->y∈xs\/y=x\/ ∀c∈zai s y,c∈out
 mine:x=nm\/x∈out
 done: ∀c∈(zai s x).take j,c∈out
theorem zmG (s:St) (nm:ByteArray):Found s nm [] [nm]:=⟨List.nodup_nil,by simp,by simp,fun x hx=> .inl (by simpa using hx)⟩
theorem found_pop {s:St} {nm x:ByteArray} {out xs:List ByteArray} (h:Found s nm out (x::xs)):Look s nm x 0 out xs:=
 ⟨h.nd,h.desc,fun y hy=>h.from' y (by simp[hy]),fun y hy=>by
   rcases h.seen y hy with h1|h1
   ·rcases List.mem_cons.1 h1 with rfl|h1
    ·exact .inr (.inl rfl)
    ·exact .inl h1
   ·exact .inr (.inr h1),h.from' x Mcq,by simp⟩
theorem look_end {s:St} {nm x:ByteArray} {out xs:List ByteArray} (h:Look s nm x (zai s x).length out xs):Found s nm out xs:=
 ⟨h.nd,h.desc,h.from',fun y hy=>by
   rcases h.seen y hy with h1|rfl|h1
   ·exact .inl h1
   ·exact .inr fun c hc=>h.done c MdZ
   ·exact .inr h1⟩
theorem look_old {s:St} {nm x:ByteArray} {j:Nat} {out xs:List ByteArray} (h:Look s nm x j out xs) (hj:j<(zai s x).length) (hc:(zai s x)[j]∈out):Look s nm x (j+1) out xs:=
 ⟨h.nd,h.desc,h.from',h.seen,h.mine,fun c aV=>by
   rw[List.take_succ_eq_append_getElem hj]at aV;rcases List.mem_append.1 aV with h1|h1
   ·exact h.done c h1
   ·rw[List.mem_singleton.1 h1];exact hc⟩
theorem znQ {s:St} {nm x:ByteArray} {j:Nat} {out xs:List ByteArray} (h:Look s nm x j out xs) (hj:j<(zai s x).length) (hc:(zai s x)[j]∉out):Look s nm x (j+1) (out++[(zai s x)[j]]) (xs++[(zai s x)[j]]):=by
 have bH:(zai s x)[j]∈zai s x:=List.getElem_mem _;refine⟨?_,fun n hn=> ?_,fun y hy=> ?_,fun y hy=> ?_,?_,fun c aV=> ?_⟩
 ·exact List.nodup_append.2 ⟨h.nd,by simp,fun a ha b hb e=>by rw[List.mem_singleton.1 hb]at e;exact hc (e▸ha)⟩
 ·rcases List.mem_append.1 hn with h1|h1
  ·exact h.desc n h1
  ·rw[List.mem_singleton.1 h1];rcases h.mine with rfl|hm
   ·exact zf5 bH
   ·exact zih (h.desc x hm) bH
 ·rcases List.mem_append.1 hy with h1|h1
  ·rcases h.from' y h1 with h2|h2
   ·exact .inl h2
   ·exact .inr (by simp[h2])
  ·exact .inr (by simp[List.mem_singleton.1 h1])
 ·rcases hy with hy|hy
  ·rcases h.seen y (.inl hy)with h1|h1|h1
   ·exact .inl (by simp[h1])
   ·exact .inr (.inl h1)
   ·exact .inr (.inr fun c hc=>by simp[h1 c hc])
  ·rcases List.mem_append.1 hy with h1|h1
   ·rcases h.seen y (.inr h1)with h2|h2|h2
    ·exact .inl (by simp[h2])
    ·exact .inr (.inl h2)
    ·exact .inr (.inr fun c hc=>by simp[h2 c hc])
   ·exact .inl (by simp[List.mem_singleton.1 h1])
 ·rcases h.mine with h1|h1
  ·exact .inl h1
  ·exact .inr (by simp[h1])
 ·rw[List.take_succ_eq_append_getElem hj]at aV;rcases List.mem_append.1 aV with h1|h1
  ·simp[h.done c h1]
  ·simp[List.mem_singleton.1 h1]
theorem found_end {s:St} {nm:ByteArray} {out:List ByteArray} (h:Found s nm out []): ∀n,n∈out↔Desc s nm n:=fun n=>by
 refine⟨h.desc n,fun hd=>zig (out:=fun x=>x∈out) ?_ ?_ hd⟩
 ·intro c hc;rcases h.seen nm (.inl rfl)with h1|h1
  ·simp at h1
  ·exact h1 c hc
 ·intro x hx c hc;rcases h.seen x (.inr hx)with h1|h1
  ·simp at h1
  ·exact h1 c hc
theorem zkx {α:Type} [DecidableEq α]: ∀ {a b:List α},a.Nodup->(∀x∈a,x∈b)->a.length<=b.length
 | [],_,_,_=>Nat.zero_le _
 |x::a,b,h,hs=>by
  have h':=List.nodup_cons.1 h;have hx:x∈b:=hs x Mcq;have h1:a.length<=(b.erase x).length:=zkx h'.2 fun y hy=>by
   have ai:y≠x:=fun e=>h'.1 (e▸hy)
   exact(List.mem_erase_of_ne ai).2 (hs y (by simp[hy]))
  have h2:=List.length_erase_of_mem hx;have h3:0<b.length:=List.length_pos_of_mem hx;simp only[List.length_cons];omega
theorem out_few {s:St} {nm:ByteArray} {out:List ByteArray} (hn:out.Nodup) (hd: ∀n∈out,Desc s nm n):out.length<=s.children.length:=by
 have DL: ∀n∈out,n∈s.children.map (·.2):=fun n KH=>by
  have: ∃y,(y,n)∈s.children:=by
   cases hd n KH with
   |single h=>exact⟨nm,zdt.1 h⟩
   |tail _ h=>exact⟨_,zdt.1 h⟩
  obtain⟨y,hy⟩:=this;exact List.mem_map.2 ⟨(y,n),hy,rfl⟩
 haveI:DecidableEq ByteArray:=fun a b=>Classical.propDecidable _
 have:=zkx hn DL;simpa using this
end Go.Proofs.YtjhbofabmpfniaaGreatDoor
namespace Go.Proofs.YtjhbofabmpfniaaGreatDoor
open Go.RowKit Go.Shelf
attribute [local go_sem] World.cell?_alloc_mark zae za3 zam za6 zas zat zau zav zaw zax zay
attribute [local go_sem] zaj zac
def zg2:List Int:=[31,28,31,30,31,30,31,31,30,31,30,31]
def LensIn (w:World):Prop:=1<w.heap.size/\ ∀(k:Nat) (n:Int),zg2[k]?=some n->w.cell? ⟨1,k,none⟩=some (.int .i64 n)
theorem LensIn.keep {w W:World} {n:Nat} (h:LensIn w) (hB:Below n w W) (hn:w.heap.size<=n:=by first|exact Nat.le_refl _|omega):LensIn W:=
 ⟨Nat.lt_of_lt_of_le h.1 hB.size,fun k x hx=>(hB.cell (p:=⟨1,_,none⟩) (Nat.lt_of_lt_of_le h.1 hn)).trans (h.2 k x hx)⟩
theorem zeC (n lo hi:Int) (w:World):Calls Tryz.prog 132 #[.int .i64 n, .int .i64 lo, .int .i64 hi] w (Ret0 w (.bool (inR n lo hi))):=by
 go_enter Tryz.func132,Tryz.ntmps132
 go_wp2_with fail
 all_goals go_ret
 all_goals exact⟨by first|(simp_all[inR];done)|(simp_all[inR];omega),rfl⟩
theorem zhg (n:Int) (w:World):Calls Tryz.prog 131 #[.int .i64 n] w (Ret0 w (.bool (zbk n))):=by
 go_enter Tryz.func131,Tryz.ntmps131
 go_wp2_with (go_at_call 132;refine(zeC _ _ _ _).mono ?_;rintro e wq ⟨rfl,rfl⟩)
 go_ret
 exact⟨rfl,rfl⟩
theorem zo1 (y:Int) (w:World) (h0:0<=y) (h1:y<=100000):Calls Tryz.prog 238 #[.int .i64 y] w (Ret0 w (.bool (zgS y))):=by
 rw[<-leapQ_eq h0];have w1:wrap64 (y.tmod 4)=y.tmod 4:=McN;have w2:wrap64 (y.tmod 100)=y.tmod 100:=McN;have w3:wrap64 (y.tmod 400)=y.tmod 400:=McN;have v1:IntKind.i64.wrap (y.tmod 4)=y.tmod 4:=McH;have v2:IntKind.i64.wrap (y.tmod 100)=y.tmod 100:=McH;have v3:IntKind.i64.wrap (y.tmod 400)=y.tmod 400:=McH;go_enter Tryz.func238,Tryz.ntmps238
 go_wp2_with fail
 all_goals go_ret
 all_goals exact⟨by simp[leapQ,Int.tmod_eq_emod_of_nonneg h0, *],rfl⟩
theorem zfA (y:Int) (m:Nat) (w:World) (hL:LensIn w) (h0:0<=y) (h1:y<=100000) (ct:1<=m) (fC:m<=12):Calls Tryz.prog 191 #[.int .i64 y, .int .i64 m] w (Ret0 w (.int .i64 (za7 y m))):=by
 have hd:=znJ y ct fC;have aa:m-1<zg2.length:=by simp[zg2];omega
 have hc:=hL.2 (m-1) _ (List.getElem?_eq_getElem aa);have hg:zg2.getD (m-1) 0=zg2[m-1]:=Mdf;have cy:[31,28,31,30,31,30,31,31,30,31,30,31].getD (m-1) 0=zg2[m-1]:=hg;rw[cy]at hd;generalize zg2[m-1]=len at hc hd;have hw:IntKind.i64.wrap ((m:Int)-1)=(m:Int)-1:=IntWalk.i64_in _ Mcn;have tS:(0:Int)<=(m:Int)-1:=Mcn;have cB:(m:Int)-1<12:=Mcn;have fM:((m:Int)-1).toNat=m-1:=Mcn;have HD:=zHi hd;clear hd hg cy hL aa;by_cases h2:m=2
 ·subst h2;cases hl:zgS y
  ·exact MaB
  ·exact MaB
 ·have hb:((m:Int)==2)=false:=Men;have bn: ¬(m:Int)=2:=Mcn;go_enter Tryz.func191,Tryz.ntmps191
  go_wp2_with fail
  go_ret
  exact⟨by rw[HD.o,hb];simp,rfl⟩
theorem zi1 (y:Int) (w:World) (h0:1800<=y) (h1:y<=100000):Calls Tryz.prog 237 #[.int .i64 y] w (Ret0 w (.int .i64 (begP y))):=by
 have hp:0<=y-1:=Mcn;have e1:(y-1).tdiv 4=(y-1)/4:=Int.tdiv_eq_ediv_of_nonneg hp;have e2:(y-1).tdiv 100=(y-1)/100:=Int.tdiv_eq_ediv_of_nonneg hp;have e3:(y-1).tdiv 400=(y-1)/400:=Int.tdiv_eq_ediv_of_nonneg hp;have hv:begP y=365*(y-1800)+(y-1)/4-(y-1)/100+(y-1)/400-436:=by unfold begP;rw[zdw hp];omega
 have HV:=zHi hv;clear hv;have k0:IntKind.i64.wrap (y-1)=y-1:=IntWalk.i64_in _ Mcn;have k1:IntKind.i64.wrap (y-1800)=y-1800:=IntWalk.i64_in _ Mcn;have k2:IntKind.i64.wrap (365*(y-1800))=365*(y-1800):=IntWalk.i64_in _ Mcn;go_enter Tryz.func237,Tryz.ntmps237
 exact MbE
theorem zca {y:Int} {m:Nat} (h0:1800<=y) (h1:y<=2500) (ct:1<=m) (fC:m<=13):0<=zaE y m/\zaE y m<=1000000:=by
 have hb:begP y=365*(y-1800)+(y-1)/4-(y-1)/100+(y-1)/400-436:=by unfold begP;rw[zdw Mcn];omega
 have h: ∀k:Nat,k<=12->begP y<=zaE y (k+1)/\zaE y (k+1)<=begP y+31*k:=fun k=>by
  induction k with
  |zero=>intro _;rw[zbC];omega
  |succ k ih=>
   intro hk;have:=ih Mcn;have h2:=zf8 y (show 1<=k+1 by omega);have h3:=zdB y (show 1<=k+1 by omega) (show k+1<=12 by omega);omega
 obtain⟨k,rfl⟩: ∃k,m=k+1:=⟨m-1,by omega⟩
 have:=h k Mcn;omega
theorem dayOf_any (y:Int) (m:Nat) (d:Int) (w:World) (hL:LensIn w) (h0:1800<=y) (h1:y<=2500) (ct:1<=m) (fC:m<=12) (ca:0<=d) (dX:d<=1000):
 Calls Tryz.prog 190 #[.int .i64 y, .int .i64 m, .int .i64 d] w (Ret0 w (.int .i64 (zaE y m+d-1))):=by
 have js:=zca (m:=1) h0 h1 Mcn Mcn;rw[zbC]at js;have k0:IntKind.i64.wrap (begP y+d)=begP y+d:=IntWalk.i64_in _ Mcn;have k1:IntKind.i64.wrap (begP y+d-1)=begP y+d-1:=IntWalk.i64_in _ Mcn;go_enter Tryz.func190,Tryz.ntmps190
 go_wp2_with (go_at_call 237;refine(zi1 _ _ h0 Mcn).mono ?_;rintro e wq ⟨rfl,rfl⟩)
 go_loop [7,8] (fun n i=> ∃k:Nat,1<=k/\k<=m/\i= .int .i64 k/\n= .int .i64 (zaE y k+d-1)) (fun _ i=>m-(intOf i).toNat)
 case atStart=>exact⟨1,by omega,ct,rfl,by rw[zbC]⟩
 case round=>
  obtain⟨k,fS,pH,rfl,rfl⟩:=hrel;by_cases aa:k<m
  ·have hb:=zca (m:=k) h0 h1 fS Mcn;have fR:=zdB y fS (show k<=12 by omega);have hu:=zf8 y fS;have HU:=zHi hu;have k2:IntKind.i64.wrap (zaE y k+d-1+za7 y k)=zaE y k+d-1+za7 y k:=IntWalk.i64_in _ Mcn;have bE:(k:Int)<(m:Int):=Mcn;clear hu;go_wp2_with (go_at_call 191;refine(zfA y k _ hL Mcn Mcn fS Mcn).mono ?_;rintro e wq ⟨rfl,rfl⟩)
   go_round
   case rel=>exact⟨k+1,by omega,by omega,by go_num,by rw[HU.o];exact zb1 Mcn⟩
   case measure=>simp[intOf];omega
  ·exact Mch
def zmH (y m d:Int):Value:= .agg #[.int .i64 y, .int .i64 m, .int .i64 d]
theorem zlu {fn:Func} {p:Tmp} (h:fn.results= #[.cell p 226]) (tmps:Array Value) (w:World) (B:Nat) (x y z:Int) (hp:tmps.getD p undef= .pointer (some ⟨B,0,none⟩))
 (h0:w.cell? ⟨B,0,none⟩=some (.int .i64 x)) (h1:w.cell? ⟨B,1,none⟩=some (.int .i64 y)) (h2:w.cell? ⟨B,2,none⟩=some (.int .i64 z)):(results fn tmps).run Tryz.prog w= .ok (zmH x y z) w:=by
 rw[zdF h,hp];unfold zmH;go_simp
theorem J_set3 {w:World} {g:Nat} {z0 z1 z2 a b c:Value} {t:TypeId} {fr:Nat×Nat} (h:w.heap[g]?=some (.cells #[z0,z1,z2] t fr)):(((w.setCell ⟨g,0,none⟩ a).setCell ⟨g,1,none⟩ b).setCell ⟨g,2,none⟩ c).heap[g]?=some (.cells #[a,b,c] t fr):=by
 have:=Joins.block_setCell (i:=2) (Joins.block_setCell (i:=1) (Joins.block_setCell (i:=0) h a) b) c;simpa using this
theorem zo2 (day:Int) (w:World) (hL:LensIn w) (h0:0<=day) (h1:day<=200000):
 Calls Tryz.prog 189 #[.int .i64 day] w (fun e w'=>DateIs day (zbS day) (zbe day)/\Ret w (zmH (zbS day) (zbe day) (day-zaE (zbS day) (zbe day)+1)) e w'):=by
 have dO:=beg_low h0 h1;have eZ:=znI h0 h1;have wN:day.tdiv 366=day/366:=Int.tdiv_eq_ediv_of_nonneg h0;have gK:0<=day/366:=Mcn;have cZ:day/366<=546:=Mcn;rw[wN]at dO eZ;have yE:zbS day=zen day 10 (1800+day/366):=by unfold zbS;rw[wN]
 have HY:=zHi yE;have HH:=zHi eZ;clear yE eZ;go_enter Tryz.func189,Tryz.ntmps189
 go_wp2_with fail
 go_loopg [] 10 (fun gg wr=> ∃(f:Nat) (y:Int),f<=gg/\y+f=1800+day/366+10/\1800<=y/\y<=2400/\Hid (zbS day=zen day f y)/\Hid (begP y<=day)/\Below w.heap.size w wr/\wr.heap[w.heap.size]?=some (.cells #[.int .i64 0, .int .i64 0, .int .i64 0] 226)/\wr.heap[w.heap.size+1]?=some (.cells #[.int .i64 y, .int .i64 1, .int .i64 0] 226))
 case atStart=>exact⟨10,1800+day/366,Nat.le_refl _,by omega,by omega,by omega,HY.o,dO,Bw,zal (zar _ _ _ rfl),zar _ _ _ Mcq⟩
 case round=>
  obtain⟨f,y,hf,Lj,lh,Li,vl,fE,hB,g0,g1⟩:=hrel;have a0:wr.cell? ⟨w.heap.size+1,0,none⟩=some (.int .i64 y):=Mct;have a1:wr.cell? ⟨w.heap.size+1,1,none⟩=some (.int .i64 1):=Mct;have a2:wr.cell? ⟨w.heap.size+1,2,none⟩=some (.int .i64 0):=Mct;have z0:wr.frozen? ⟨w.heap.size+1,0,none⟩=false:=McB;have z1:wr.frozen? ⟨w.heap.size+1,1,none⟩=false:=McB;have z2:wr.frozen? ⟨w.heap.size+1,2,none⟩=false:=McB;have b0:wr.cell? ⟨w.heap.size,0,none⟩=some (.int .i64 0):=Mcs;have b1:wr.cell? ⟨w.heap.size,1,none⟩=some (.int .i64 0):=Mcs;have b2:wr.cell? ⟨w.heap.size,2,none⟩=some (.int .i64 0):=Mcs;have x0:wr.frozen? ⟨w.heap.size,0,none⟩=false:=McA;have x1:wr.frozen? ⟨w.heap.size,1,none⟩=false:=McA;have x2:wr.frozen? ⟨w.heap.size,2,none⟩=false:=McA;have e1:w.heap.size+1<wr.heap.size:=zab g1;have e0:w.heap.size<wr.heap.size:=zab g0;have hLr:=hL.keep hB;have k0:IntKind.i64.wrap (y+1)=y+1:=IntWalk.i64_in _ Mcn;by_cases hc:begP (y+1)<=day
  ·have JY:f≠0:=by
    exact MbD
   obtain⟨f',rfl⟩: ∃f',f=f'+1:=⟨f-1,by omega⟩
   have HN:Hid (zbS day=zen day f' (y+1)):=by
    show _=_;rw[vl.o,zlk Mee]
   have HC:=zHi hc;go_wp2_with (go_at_call 237;refine(zi1 _ _ Mcn Mcn).mono ?_;rintro e wq ⟨rfl,rfl⟩)
   exact MW
  ·have HN:Hid (zbS day=y):=by
    show _=_;rw[vl.o,zll Mee]
   have rW:=zca (m:=1) lh Mcn Mcn Mcn;rw[zbC]at rW;have k1:IntKind.i64.wrap (day-begP y)=day-begP y:=IntWalk.i64_in _ Mcn;have xy:zbe day=zdl day y 12 1:=by unfold zbe;rw[HN.o]
   have kJ:=zHi xy;have yF:day<zaE y 12+za7 y 12:=by
    rw[<-zj9 lh,zbC];omega
   have BO:=zHi yF;have ly:=fE.o;have ak:Hid (zaE y 1<=day):=by show _<=_;rw[zbC];exact ly
   clear xy yF ly;have G0:=zHi g0;have G1:=zHi g1;go_upto_region 5 with(go_at_call 237;refine(zi1 _ _ Mcn Mcn).mono ?_;rintro e wq ⟨rfl,rfl⟩)
   clear a0 a1 a2 z0 z1 z2 b0 b1 b2 x0 x1 x2 g0 g1;go_loopg [0] 12 (fun gg v wm=> ∃(m:Nat),1<=m/\m<=12/\12-m<=gg/\v= .int .i64 (day-zaE y m)/\Hid (zbe day=zdl day y (13-m) m)/\Hid (zaE y m<=day)/\Below w.heap.size w wm/\wm.heap[w.heap.size]?=some (.cells #[.int .i64 0, .int .i64 0, .int .i64 0] 226)/\wm.heap[w.heap.size+1]?=some (.cells #[.int .i64 y, .int .i64 m, .int .i64 0] 226))
   case atStart=>exact⟨1,by omega,by omega,by omega,by rw[zbC],kJ.o,ak.o,hB,G0.o,G1.o⟩
   case round=>
    obtain⟨m,ct,fC,rZ,rfl,HM,qA,ES,g0,g1⟩:=hrel;have a0:wr.cell? ⟨w.heap.size+1,0,none⟩=some (.int .i64 y):=Mct;have a1:wr.cell? ⟨w.heap.size+1,1,none⟩=some (.int .i64 m):=Mct;have a2:wr.cell? ⟨w.heap.size+1,2,none⟩=some (.int .i64 0):=Mct;have z0:wr.frozen? ⟨w.heap.size+1,0,none⟩=false:=McB;have z1:wr.frozen? ⟨w.heap.size+1,1,none⟩=false:=McB;have z2:wr.frozen? ⟨w.heap.size+1,2,none⟩=false:=McB;have b0:wr.cell? ⟨w.heap.size,0,none⟩=some (.int .i64 0):=Mcs;have b1:wr.cell? ⟨w.heap.size,1,none⟩=some (.int .i64 0):=Mcs;have b2:wr.cell? ⟨w.heap.size,2,none⟩=some (.int .i64 0):=Mcs;have x0:wr.frozen? ⟨w.heap.size,0,none⟩=false:=McA;have x1:wr.frozen? ⟨w.heap.size,1,none⟩=false:=McA;have x2:wr.frozen? ⟨w.heap.size,2,none⟩=false:=McA;have e1:w.heap.size+1<wr.heap.size:=zab g1;have e0:w.heap.size<wr.heap.size:=zab g0;have Fb:=hL.keep ES;have fR:=zdB y ct fC;have ox:=zca (m:=m) lh Mcn ct Mcn;have hu:=zf8 y ct;have HU:=zHi hu;have dG:=qA.o;have k2:IntKind.i64.wrap (day-zaE y m-za7 y m)=day-zaE y m-za7 y m:=IntWalk.i64_in _ Mcn;have k3:IntKind.i64.wrap ((m:Int)+1)=(m:Int)+1:=IntWalk.i64_in _ Mcn;have k4:IntKind.i64.wrap (day-zaE y m+1)=day-zaE y m+1:=IntWalk.i64_in _ Mcn;by_cases cr:za7 y m<=day-zaE y m
    ·have sn:m<12:=by
      rcases Nat.lt_or_ge m 12 with h|h
      ·exact h
      ·have:=BO.o;obtain rfl:m=12:=by omega
       rw[show((12:Nat):Int)=12 from rfl]at cr;omega
     have kK:Hid (zbe day=zdl day y (13-(m+1)) (m+1)):=by
      show _=_;rw[HM.o,show 13-m=(13-(m+1))+1 by omega,zjA sn (by rw[hu];omega)]
     have xp:zaE y (m+1)<=day:=by rw[hu];omega
     have fZ:=zHi xp;clear hu dG xp;go_wp2_with (go_at_call 191;refine(zfA y m _ Fb Mcn Mcn ct fC).mono ?_;rintro e wq ⟨rfl,rfl⟩)
     go_roundg (12-(m+1))
     case measure=>omega
     case rel=>
      refine⟨m+1,by omega,by omega,Nat.le_refl _,by rw[HU.o];exact zb1 Mcn,kK,fZ.o,by repeat(first|exact B_refl|exact Below.refl _ _|assumption|with_reducible refine zad ?_ _|with_reducible refine zb6 ?_ _|with_reducible refine zaH ?_|with_reducible refine zd5 ?_ _|with_reducible refine zaM ?_ Mdm _),J_ne Mcn g0,?_⟩;exact MbI
    ·have kK:Hid (zbe day=m):=by
      show _=_;rw[HM.o,zjB (by rw[hu];omega)]
     have HD:Hid (DateIs day (zbS day) (zbe day)):=by
      show DateIs _ _ _;rw[HN.o,kK.o];exact⟨lh,by omega,ct,fC,dG,by omega⟩
     clear hu dG;go_wp2_with (go_at_call 191;refine(zfA y m _ Fb Mcn Mcn ct fC).mono ?_;rintro e wq ⟨rfl,rfl⟩)
     exact Mx
theorem zo3 (day mo:Int) (w:World) (hL:LensIn w) (h0:0<=day) (h1:day<=200000) (nD: -12000<=mo) (ct:mo<=12000):
 Calls Tryz.prog 133 #[.int .i64 day, .int .i64 mo] w (fun e w'=> ∃n:Int,∃ok:Bool,(ok=true->zbU day mo=n/\0<=n)/\(ok=false->zbU day mo= -1)/\Ret w (.tuple #[.int .i64 n, .bool ok]) e w'):=by
 have hA:zbU day mo=if !inR ((zbS day*12+zbe day-1+mo)/12) 1800 2347 then-1 else
  if zbk (zaE ((zbS day*12+zbe day-1+mo)/12) ((zbS day*12+zbe day-1+mo)%12+1).toNat+min (day-zaE (zbS day) (zbe day)+1) (za7 ((zbS day*12+zbe day-1+mo)/12) ((zbS day*12+zbe day-1+mo)%12+1))-1)then
   zaE ((zbS day*12+zbe day-1+mo)/12) ((zbS day*12+zbe day-1+mo)%12+1).toNat+min (day-zaE (zbS day) (zbe day)+1) (za7 ((zbS day*12+zbe day-1+mo)/12) ((zbS day*12+zbe day-1+mo)%12+1))-1 else-1:=rfl
 have HA:=zHi hA;clear hA;have HD:=zHi (fun W h=>zo2 day W h h0 h1);generalize zbS day=y at*;generalize zbe day=m at*;generalize zbU day mo=R at*;go_enter Tryz.func133,Tryz.ntmps133
 go_upto_region 2 with(go_at_call 189;refine(HD.o _ hL).mono ?_;rintro e wq ⟨CR,rfl,z,rfl⟩;simp only[zmH])
 obtain⟨d1,d2,d3,d4,d5,d6⟩:=CR;obtain⟨f1,f2⟩:=zdB y d3 d4;obtain⟨X,hX⟩: ∃X,X=day-zaE y m+1:=⟨_,rfl⟩
 obtain⟨N,hN⟩: ∃N,N=12*y+m-1+mo:=⟨_,rfl⟩
 have sM:Hid (R=if !inR (N/12) 1800 2347 then-1 else if zbk (zaE (N/12) (N%12+1).toNat+min X (za7 (N/12) (N%12+1))-1)then zaE (N/12) (N%12+1).toNat+min X (za7 (N/12) (N%12+1))-1 else-1):=by
  show _=_;rw[HA.o,hX,hN,show y*12+(m:Int)-1+mo=12*y+m-1+mo by omega]
 have JC:1<=X:=Mcn;have rA:X<=31:=Mcn;rw[<-hX];have k1:IntKind.i64.wrap (12*y)=12*y:=IntWalk.i64_in _ Mcn;have k2:IntKind.i64.wrap (12*y+m)=12*y+m:=IntWalk.i64_in _ Mcn;have k3:IntKind.i64.wrap (12*y+m-1)=12*y+m-1:=IntWalk.i64_in _ Mcn;have k4:IntKind.i64.wrap (12*y+m-1+mo)=N:=by rw[hN];exact IntWalk.i64_in _ Mcn
 have Ce: -20000<=N/\N<=100000:=Mcn;obtain⟨ra,Cf⟩:=Ce;clear HA hX hN HD d5 d6 f1 f2;by_cases hN0:N<0
 ·have Cc:inR (N/12) 1800 2347=false:=by simp[inR];omega
  have HR:Hid (R= -1):=by show _=_;rw[sM.o,Cc];rfl
  clear Cc;go_wp2_with fail
  go_ret2
  exact⟨0,false,by simp,fun _=>HR.o,Ret.of rfl Bw⟩
 ·have Cc:0<=N:=Mcn;have gK:0<=N/12:=Mcn;obtain⟨mm,cY⟩: ∃mm:Nat,(mm:Int)=N%12+1:=⟨(N%12+1).toNat,by omega⟩
  have dq:1<=mm:=Mcn;have jF:mm<=12:=Mcn;have ht:(N%12+1).toNat=mm:=Mcn;have cD:Hid (R=if !inR (N/12) 1800 2347 then-1 else if zbk (zaE (N/12) mm+min X (za7 (N/12) mm)-1)then zaE (N/12) mm+min X (za7 (N/12) mm)-1 else-1):=by
   show _=_;rw[sM.o,ht,<-cY]
  have k5:IntKind.i64.wrap (N%12+1)=(mm:Int):=by rw[cY];exact IntWalk.i64_in _ Mcn
  obtain⟨Y,hY⟩: ∃Y,N/12=Y:=⟨_,rfl⟩
  rw[hY]at cD;have wg:Y<=10000:=Mcn;have cZ:0<=Y:=Mcn;clear sM ht;have yW:=zHi cY;clear cY;cases aO:inR Y 1800 2347
  ·have HR:Hid (R= -1):=MdN;go_wp2_with (go_at_call 132;refine(zeC _ _ _ _).mono ?_;rintro e wq ⟨rfl,rfl⟩;rw[aO])
   all_goals go_ret2
   all_goals exact⟨0,false,by simp,fun _=>HR.o,Ret.of rfl Bw⟩
  ·have wh:1800<=Y/\Y<=2347:=by simpa[inR]using aO
   obtain⟨f1,f2⟩:=zdB Y dq jF;have rW:=zca (m:=mm) wh.1 Mcn dq Mcn;have HR:Hid (R=if zbk (zaE Y mm+min X (za7 Y mm)-1)then zaE Y mm+min X (za7 Y mm)-1 else-1):=MdN;have cM:Hid (∀W,Below w.heap.size w W->LensIn W):=fun W h=>hL.keep h
   clear cD hL;go_upto_region 6 with(go_at_call 132;refine(zeC _ _ _ _).mono ?_;rintro e wq ⟨rfl,rfl⟩;rw[aO])
   have uI:=zHi (fun W (hW:Below w.heap.size w W)=>zfA Y mm W (cM.o _ hW) cZ Mcn dq jF);have ur:=zHi (fun d W (hW:Below w.heap.size w W) (ir:0<=d) (ca:d<=1000)=>dayOf_any Y mm d W (cM.o _ hW) wh.1 Mcn dq jF ir ca);generalize za7 Y mm=L at*;clear rW;refine zan Mco Mco ?_;repeat(first|go_big_quiet_skip|(go_big_quiet_want;go_big_quiet_op;first|go_big_quiet_on|(apply Exists.intro;refine⟨fun _=> ?_,?_⟩;(first|(go_at_call 191;exact zhZ (uI.o _ Bw))|(go_at_call 190;exact zhZ (ur.o _ _ Bw Mcn Mcn)));go_big_quiet_on)))
   refine wpQuiet_nil ?_;rintro _ ⟨zq,rfl⟩;generalize hO:zaE Y mm+min X L-1=out at*;have HO:=zHi hO;clear hO uI ur cM;cases hd:zbk out
   ·have jN:=zHi hd;go_wp2_with (go_at_call 131;refine(zhg _ _).mono ?_;rintro e wq ⟨rfl,rfl⟩;rw[hd])
    exact MbF
   ·have jN:=zHi hd;go_wp2_with (go_at_call 131;refine(zhg _ _).mono ?_;rintro e wq ⟨rfl,rfl⟩;rw[hd])
    exact MaZ
theorem zky (day mo:Int) (w:World) (hL:LensIn w) (h0:0<=day) (h1:day<=200000) (nD:0<=mo) (ct:mo<=12000):
 Calls Tryz.prog 67 #[.int .i64 day, .int .i64 mo] w (fun e w'=> ∃n er:Int,(er=0->zbU day mo=n/\0<=n)/\(er≠0->zbU day mo= -1)/\Ret w (.tuple #[.int .i64 n, .int .i64 er]) e w'):=by
 have ca:inR day 0 200000=true:=by simp[inR];omega
 have dX:inR mo (-12000) 12000=true:=by simp[inR];omega
 have HL:=zHi (zo3 day mo w hL h0 h1 Mcn ct);go_enter Tryz.func67,Tryz.ntmps67
 go_wp2_with (first
  |(go_at_call 131;refine(zhg _ _).mono ?_;rintro e wq ⟨rfl,rfl⟩;unfold zbk;rw[ca])
  |(go_at_call 132;refine(zeC _ _ _ _).mono ?_;rintro e wq ⟨rfl,rfl⟩;rw[dX])
  |(go_at_call 133;refine(HL.o).mono ?_;rintro e wq ⟨n,ok,h1,h2,rfl,z,rfl⟩;have H1:=zHi h1;have H2:=zHi h2;clear h1 h2;cases ok))
 all_goals go_ret2
 all_goals first
  |exact⟨0,2,by simp,fun _=>H2.o trivial,Ret.of rfl Bw⟩
  |exact⟨n,0,fun _=>H1.o trivial,by simp,Ret.of rfl Bw⟩
theorem zjF (day ys:Int) (w:World) (hL:LensIn w) (h0:0<=day) (h1:day<=200000) (nD:0<=ys) (ct:ys<=99):
 Calls Tryz.prog 194 #[.int .i64 day, .int .i64 ys] w (Ret w (.int .i64 (zcg day ys))):=by
 have HL:=zHi (zky day (12*ys) w hL h0 h1 Mcn Mcn);go_enter Tryz.func194,Tryz.ntmps194
 go_wp2_with (go_at_call 67;refine(HL.o).mono ?_;rintro e wq ⟨n,er,k1,k2,rfl,z,rfl⟩;have H1:=zHi k1;have H2:=zHi k2;clear k1 k2;by_cases iP:er=0)
 all_goals go_ret
 all_goals first
  |exact Ret.of (zb1 (by unfold zcg;exact(H1.o (by first|trivial|exact iP)).1.symm)) Bw
  |exact Ret.of (zb1 (by unfold zcg;exact(H2.o (by first|trivial|exact iP)).symm)) Bw
end Go.Proofs.YtjhbofabmpfniaaGreatDoor
namespace Go.Proofs.YtjhbofabmpfniaaGreatDoor
open Go.RowKit
abbrev Spot:=ByteArray×Int
def eqSp (a b:Spot):Bool:=zaf a.1 b.1&&a.2==b.2
theorem zfB {a b:Spot}:eqSp a b=true↔a=b:=by
 obtain⟨a1,a2⟩:=a;obtain⟨b1,b2⟩:=b;simp[eqSp,za2]
theorem eqSp_refl (a:Spot):eqSp a a=true:=zfB.2 rfl
theorem eqSp_sym (a b:Spot):eqSp a b=eqSp b a:=by rw[Bool.eq_iff_iff,zfB,zfB];exact⟨Eq.symm,Eq.symm⟩
theorem zi2 {V:Type} {k n:Spot} {v:V}: ∀ {m:List (Spot×V)},mget eqSp n (mput eqSp k v m)=if eqSp n k then some v else mget eqSp n m
 | []=>rfl
 |x::m=>by
  rw[mput];cases hk:eqSp k x.1
  ·simp only[Bool.false_eq_true,if_false];rw[mget,mget,zi2 (m:=m)];cases hn:eqSp n x.1
   ·simp
   ·have e:=zfB.1 hn;subst e;rw[eqSp_sym,hk];simp
  ·simp only[if_true];have e:=zfB.1 hk;rw[mget,mget,<-e];cases hn:eqSp n k<;>simp
end Go.Proofs.YtjhbofabmpfniaaGreatDoor
namespace Go.Proofs.YtjhbofabmpfniaaGreatDoor
open Go.RowKit
attribute [local go_sem] World.cell?_alloc_mark zae za3 zam za6 zas zat zau zav zaw zax zay
theorem zcy (n lo hi:Int) (w:World):
 Calls Tryz.prog 79 #[.int .i64 n, .int .i64 lo, .int .i64 hi] w (Ret0 w (.bool (inR n lo hi))):=by
 go_enter Tryz.func79,Tryz.ntmps79
 go_wp2
 all_goals go_ret
 all_goals(refine⟨?_,rfl⟩;simp[inR, *])
 omega
theorem zjG (n:Int) (w:World):Calls Tryz.prog 73 #[.int .u8 n] w (Ret0 w (.bool (zcW n))):=by
 go_enter Tryz.func73,Tryz.ntmps73
 go_wp2
 all_goals go_ret
 all_goals refine⟨?_,rfl⟩
 all_goals refine zn5 ?_
 all_goals go_tidy
 all_goals simp[zcW]
 all_goals omega
theorem zlv (n:Int) (w:World):Calls Tryz.prog 74 #[.int .u8 n] w (Ret0 w (.bool (zkY n))):=by
 go_enter Tryz.func74,Tryz.ntmps74
 go_wp2
 all_goals go_ret
 all_goals refine⟨?_,rfl⟩
 all_goals refine zn5 ?_
 all_goals go_tidy
 all_goals simp[zkY]
 all_goals omega
end Go.Proofs.YtjhbofabmpfniaaGreatDoor
namespace Go.Proofs.YtjhbofabmpfniaaGreatDoor
open Go.RowKit
section
variable {P:Program} {ops:Array Oper} {md:Region.Mode} {w₀:World}
def grow (P:Program) (o:Oper) (a:Act) (w₀:World) (K:Act->Prop):Prop:= ∃v,(∀z,o.quietAt P a (fun w'=> ∃z',w'=(w₀.ext z).ext z') (w₀.ext z) v)/\K (a.put o.dst v)
def zg3 (P:Program) (ops:Array Oper) (w₀:World) (Q:Act->Prop):List Oper->Act->Prop
 | [],a=>Q a
 |o::rest,a=>if Region.wanted o (yielded ops a.tmps)then grow P o a w₀ (zg3 P ops w₀ Q rest)else zg3 P ops w₀ Q rest (a.put o.dst undef)
theorem zfC {Q:Act->Prop} {a:Act} (h:Q a):zg3 P ops w₀ Q [] a:=h
theorem zeD {Q:Act->Prop} {a:Act} {o:Oper} {rest:List Oper}
 (h: ∀K:Act->Prop,(∀a,zg3 P ops w₀ Q rest a->K a)->if Region.wanted o (yielded ops a.tmps)then grow P o a w₀ K else K (a.put o.dst undef)):zg3 P ops w₀ Q (o::rest) a:=
 h _ (fun _ h=>h)
def YieldsG (P:Program) (ops:Array Oper) (w₀:World) (o:Oper) (v:Value) (a:Act):Prop:=
 (Region.wanted o (yielded ops a.tmps)=true/\ ∀z,o.quietAt P a (fun w'=> ∃z',w'=(w₀.ext z).ext z') (w₀.ext z) v)\/(Region.wanted o (yielded ops a.tmps)=false/\v=undef)
theorem YieldsG.put {oi oj:Oper} {v u:Value} {a:Act} (h1: ∀d,oi.dst=some d->d∉oj.looksAt ops) (DI: ∀cs b,oj.op≠ .select cs b) (h:YieldsG P ops w₀ oj u (a.put oi.dst v)):YieldsG P ops w₀ oj u a:=by
 unfold YieldsG Oper.quietAt at*;rw[wanted_put oj a oi.dst v h1,execOp_put oj DI a oi.dst v h1]at h;exact h
theorem YieldsG.put' {oi oj:Oper} {v u:Value} {a:Act} (h1: ∀d,oi.dst=some d->d∉oj.looksAt ops) (DI: ∀cs b,oj.op≠ .select cs b) (h:YieldsG P ops w₀ oj u a):YieldsG P ops w₀ oj u (a.put oi.dst v):=by
 unfold YieldsG Oper.quietAt at*;rw[wanted_put oj a oi.dst v h1,execOp_put oj DI a oi.dst v h1];exact h
theorem zfQ {i:Nat} {o:Oper} {v:Value} {a:Act} {K:Act->World->Prop} {Q:Exit->Act->World->Prop} {z:Ez} (hi:ops[i]?=some o) (hy:YieldsG P ops w₀ o v a) (hK: ∀z',K (a.put o.dst v) ((w₀.ext z).ext z')):wpOp P ops Q i K a (w₀.ext z):=by
 have Ca:K (a.put o.dst v) (w₀.ext z):=by
  have:=hK ⟨#[],(w₀.ext z).drawn⟩;simpa[World.ext]using this
 unfold wpOp;simp only[hi];rcases hy with⟨hw,hv⟩|⟨hw,rfl⟩
 ·rw[if_pos hw];refine .inl ?_;have h3:=hv z;unfold Oper.quietAt at h3;unfold Oper.wp;generalize(execOp a.eval o).run P (w₀.ext z)=r at*;cases r with
  |ok n w'=>
   cases n<;>simp only[Oper.quietUpon]at h3<;>simp only[Oper.upon]
   case value u=>obtain⟨e1,e2⟩:=h3;rw[e1,e2];exact Ca
   case skip=>obtain⟨e1,e2⟩:=h3;rw[e1,<-e2];exact Ca
   case enter f args=>
    obtain⟨e1,hc⟩:=h3;rw[e1];exact hc.mono fun e w'' ⟨he,z',DM⟩=>by subst he DM;exact hK z'
  |halt x w'=>simp only[Oper.quietUpon]at h3
 ·rw[if_neg (by rw[hw];exact Bool.false_ne_true)];exact Ca
def zfZ (P:Program) (md:Region.Mode) (ops:Array Oper) (w₀:World) (n:Nat) (L:Array Bool->Act->Prop):Nat->Array Bool->Act->Prop
 |0,listed,a=>L listed a
 |f+1,listed,a=>(∃i∈Region.ready md ops listed,i<n)/\ ∀i∈Region.ready md ops listed,i<n-> ∃o v,ops[i]?=some o/\YieldsG P ops w₀ o v a/\zfZ P md ops w₀ n L f (listed.setIfInBounds i true) (a.put o.dst v)
theorem zkz {n i:Nat} {oi:Oper} {v:Value} {L:Array Bool->Act->Prop} (hi:ops[i]?=some oi) (du: ∀(j:Nat) (o:Oper) cs b,ops[j]?=some o->o.op≠ .select cs b) (aO:i<n)
 (jY: ∀listed a,L listed a-> ∀j∈Region.ready md ops listed,n<=j):
 ∀(f:Nat) (listed:Array Bool) (a:Act),
  (∀j oj,ops[j]?=some oj->j≠i->listed.getD j true=false->(∀e∈oj.after,Region.binds md e=true->e.on≠i)->oi.apart ops oj=true)->
  i∈Region.ready md ops listed->YieldsG P ops w₀ oi v a->
  zfZ P md ops w₀ n L f (listed.setIfInBounds i true) (a.put oi.dst v)->zfZ P md ops w₀ n L (f+1) listed a:=by
 intro f;induction f with
 |zero=>
  intro listed a _ hr hy H;refine⟨⟨i,hr,aO⟩,fun j hj FV=> ?_⟩;by_cases ck:j=i
  ·subst ck;exact⟨oi,v,hi,hy,H⟩
  ·have:=jY _ _ H j (ready_mono hj ck);omega
 |succ f ih=>
  intro listed a dY hr hy H;refine⟨⟨i,hr,aO⟩,fun j hj FV=> ?_⟩;by_cases ck:j=i
  ·subst ck;exact⟨oi,v,hi,hy,H⟩
  ·obtain⟨oj,u,iV,Lk,Hj⟩:=H.2 j (ready_mono hj ck) FV;obtain⟨iz,oj',xI,b9⟩:=mem_ready.1 hj;rw[iV]at xI;cases xI;have d8:=(mem_ready.1 hr).1;have mL: ∀e∈oj.after,Region.binds md e=true->e.on≠i:=fun e he hb wO=>by
    have h1:=b9 e he hb;rw[wO,getD_both d8]at h1;cases h1
   obtain⟨h1,h2,h3⟩:=Oper.apart_spec (dY j oj iV ck iz mL);refine⟨oj,u,iV,Lk.put h1 (fun cs b=>du j oj cs b iV),?_⟩;refine ih (listed.setIfInBounds j true) (a.put oj.dst u) ?_ (ready_mono hr (Ne.symm ck)) (hy.put' h3 (fun cs b=>du i oi cs b hi)) ?_
   ·intro k ok hk ar d8 dr;refine dY k ok hk ar ?_ dr;by_cases hjk:j=k
    ·subst hjk;exact iz
    ·rw[getD_set_ne true hjk]at d8;exact d8
   ·rw[Array.setIfInBounds_comm _ _ ck,<-Act.put_comm a v u h2];exact Hj
def zeT (md:Region.Mode) (ops:Array Oper):Nat->Nat->Array Bool->Bool
 |0,k,listed=>decide (Region.ready md ops listed=[k])&&decide (Region.ready md ops (listed.setIfInBounds k true)=[k+1])&&decide (Region.ready md ops ((listed.setIfInBounds k true).setIfInBounds (k+1) true)=[])
 |f+1,k,listed=>(Region.ready md ops listed).contains k&&Region.free md ops listed k&&zeT md ops f (k+1) (listed.setIfInBounds k true)
def letB (md:Region.Mode) (ops:Array Oper) (n:Nat):Bool:=
 decide (ops.size=n+2)&&Region.noSelect ops&&
 (match ops[n]? with
  |none=>false
  |some al=>al.guard.isNone&&al.after.isEmpty&&(List.range n).all fun j=>match ops[j]? with
   |none=>false
   |some oj=>al.apart ops oj&&oj.after.all fun e=>e.on != n)&&
 (match ops[n+1]? with
  |none=>false
  |some st=>st.guard.isNone&&(List.range (n+1)).all fun j=>st.after.any fun e=>Region.binds md e&&e.on==j)&&
 zeT md ops n 0 (Array.replicate ops.size false)
theorem zi3 {n:Nat} {Lq:Act->Prop} (du:Region.noSelect ops=true):
 ∀(l:List Oper) (k:Nat) (listed:Array Bool) (a:Act),(∀j,j<l.length->l[j]?=ops[k+j]?)->k+l.length=n->
 zeT md ops l.length k listed=true->zg3 P ops w₀ Lq l a->
 zfZ P md ops w₀ n (fun listed' a'=>zeT md ops 0 n listed'=true/\Lq a') l.length listed a
 | [],k,listed,a,_,hk,hB,h=>by
   have:k=n:=by simpa using hk
   subst this;exact⟨hB,h⟩
 |o::l,k,listed,a,hl,hk,hB,h=>by
  have h0:ops[k]?=some o:=by simpa using(hl 0 Mcq).symm
  simp only[List.length_cons,zeT,Bool.and_eq_true]at hB;obtain⟨⟨hr,hf⟩,ft⟩:=hB;have jC:k<n:=by simp only[List.length_cons]at hk;omega
  have cu:k∈Region.ready md ops listed:=by simpa using hr
  obtain⟨v,hy,hK⟩: ∃v,YieldsG P ops w₀ o v a/\zg3 P ops w₀ Lq l (a.put o.dst v):=by
   unfold zg3 at h;by_cases hw:Region.wanted o (yielded ops a.tmps)=true
   ·rw[if_pos hw]at h;obtain⟨v,h1,h2⟩:=h;exact⟨v, .inl ⟨hw,h1⟩,h2⟩
   ·rw[if_neg hw]at h;exact⟨undef, .inr ⟨by simpa using hw,rfl⟩,h⟩
  exact zkz h0 (Region.noSelect_spec du) jC (fun listed' a' hL j hj=>by
   have h1:=hL.1;simp only[zeT,Bool.and_eq_true,decide_eq_true_eq]at h1;rw[h1.1.1]at hj;have:j=n:=by simpa using hj
   omega) l.length listed a (Region.free_spec h0 hf) cu hy
   (zi3 du l (k+1) _ _ (fun j hj=>by have:=hl (j+1) Mcr;simpa[Nat.add_assoc,Nat.add_comm 1 j]using this) (by simp only[List.length_cons]at hk;omega) ft hK)
theorem alloc_ext (w:World) (o:Obj): ∃z,w.alloc o=w.ext z:=zba (zad (Below.refl _ _) o)
theorem zdD {id:Nat} {Q:Exit->Act->World->Prop} {a:Act} {w:World} {l:List Oper} (n:Nat) (al st:Oper) (obj obj':Obj) (hm:P.follows .mixedOrders=true) (hB:letB .any l.toArray n=true)
 (jU:l[n]?=some al) (aj:l[n+1]?=some st)
 (hrun: ∀(a:Act) (W:World),(execOp a.eval al).run P W= .ok (.value (.pointer (some ⟨W.heap.size,0,none⟩))) (W.alloc obj))
 (mC:zg3 P l.toArray w (fun aF=>(∀W B,W.heap[B]?=some obj-> ∃W',(execOp (aF.put al.dst (.pointer (some ⟨B,0,none⟩))).eval st).run P W= .ok .skip W'/\W'.heap[B]?=some obj'/\W.grownBy W' (some B))/\
   (∀B W,(∃z,W=w.ext z)->w.heap.size<=B->W.heap[B]?=some obj'->Q .normal ((aF.put al.dst (.pointer (some ⟨B,0,none⟩))).put st.dst undef) W)) (l.take n) a):(Code.region id l.toArray true).wp P Q a w:=by
 generalize hLq:(fun aF:Act=>(∀W B,W.heap[B]?=some obj-> ∃W',(execOp (aF.put al.dst (.pointer (some ⟨B,0,none⟩))).eval st).run P W= .ok .skip W'/\W'.heap[B]?=some obj'/\W.grownBy W' (some B))/\
  (∀B W,(∃z,W=w.ext z)->w.heap.size<=B->W.heap[B]?=some obj'->Q .normal ((aF.put al.dst (.pointer (some ⟨B,0,none⟩))).put st.dst undef) W))=Lq at mC
 simp only[letB,Bool.and_eq_true,decide_eq_true_eq]at hB;obtain⟨⟨⟨⟨hsz,du⟩,bY⟩,bB⟩,xk⟩:=hB;have wj:l.toArray[n]?=some al:=by simpa using jU
 have sF:l.toArray[n+1]?=some st:=by simpa using aj
 rw[wj]at bY;rw[sF]at bB;simp only[Bool.and_eq_true,List.all_eq_true,List.mem_range,Option.isNone_iff_eq_none]at bY bB;obtain⟨⟨cj,haf⟩,bY⟩:=bY;obtain⟨cy,bB⟩:=bB;have yb:=Region.noSelect_spec du;generalize hops:l.toArray=ops at*;have cK:(l.take n).length=n:=by
  have:l.length=n+2:=by rw[<-hsz,<-hops];simp
  simp;omega
 have H:=zi3 (md:= .any) (n:=n) du (l.take n) 0 _ a (fun j hj=>by
  have sg:j<n:=by rw[cK]at hj;exact hj
  rw[<-hops];simp[sg]) (by simpa using cK) (by rw[cK];exact xk) mC
 rw[cK,hsz]at H;refine wp_region_any hm ?_;rw[hsz];have aw:(Array.replicate (n+2) false).size=n+2:=Mcq;have tS:(Array.replicate (n+2) false).getD n true=false:=Mcq;have cB:(Array.replicate (n+2) false).getD (n+1) true=false:=Mcq;have u7:({w with drawn:=w.drawn+1}:World)=w.ext ⟨#[],w.drawn+1⟩:=by simp[World.ext]
 rw[u7];generalize(⟨#[],w.drawn+1⟩:Ez)=z0;generalize jE:Array.replicate (n+2) false=listed0 at*;clear jE mC xk u7;have rE: ∀j oj,j<n->ops[j]?=some oj->al.apart ops oj=true/\ ∀e∈oj.after,e.on≠n:=fun j oj hj iV=>by
  have:=bY j hj;rw[iV]at this;simp only[Bool.and_eq_true,Array.all_eq_true',bne_iff_ne,ne_eq]at this;exact⟨this.1,fun e he=>this.2 e he⟩
 have q8: ∀(listed:Array Bool) (j:Nat),j<n+1->listed.getD j true=false->n+1∉Region.ready .any ops listed:=fun listed j hj d8 hr=>by
  obtain⟨_,o,ho,b9⟩:=mem_ready.1 hr;rw[sF]at ho;cases ho;obtain⟨e,he,hb⟩:=Array.any_eq_true'.1 (bB j hj);simp only[Bool.and_eq_true,beq_iff_eq]at hb;have:=b9 e he hb.1;rw[hb.2,getD_both d8]at this;cases this
 have aa: ∀(listed:Array Bool) (j:Nat),j∈Region.ready .any ops listed->j<n\/j=n\/j=n+1:=fun listed j hj=>by
  obtain⟨_,o,ho,_⟩:=mem_ready.1 hj;have:=(Array.getElem?_eq_some_iff.1 ho).1;omega
 have DN: ∀t,Region.wanted al (yielded ops t)=true:=fun t=>by simp[Region.wanted,cj]
 have DP: ∀t,Region.wanted st (yielded ops t)=true:=fun t=>by simp[Region.wanted,cy]
 have last: ∀(listed:Array Bool) (aF:Act) (z:Ez) (B:Nat),Lq aF->zeT .any ops 0 n listed=true->w.heap.size<=B->(w.ext z).heap[B]?=some obj->
  wpAny P .any ops Q 1 (listed.setIfInBounds n true) (aF.put al.dst (.pointer (some ⟨B,0,none⟩))) (w.ext z):=fun listed aF z B hq hL eW hb=>by
  rw[<-hLq]at hq;obtain⟨hstore,h⟩:=hq;simp only[zeT,Bool.and_eq_true,decide_eq_true_eq]at hL;refine⟨fun h0=>(by rw[hL.1.2]at h0;cases h0),fun i hi=> ?_⟩;rw[hL.1.2]at hi;have aO:i=n+1:=by simpa using hi
  subst aO;unfold wpOp;simp only[sF];rw[if_pos (DP _)];refine .inl ?_;obtain⟨W',hr,cJ,dl⟩:=hstore _ _ hb;unfold Oper.wp;rw[hr];refine⟨hL.2,h B W' ?_ eW cJ⟩;exact zba ((zaq w z).grown dl (Below.size (zaq w z)) (fun k hk=>by cases hk;exact eW))
 have modeB: ∀(f:Nat) (listed:Array Bool) (a:Act) (z:Ez) (B:Nat),listed.getD n true=false->w.heap.size<=B->(w.ext z).heap[B]?=some obj->
  zfZ P .any ops w n (fun listed' a'=>zeT .any ops 0 n listed'=true/\Lq a') f listed a->
  wpAny P .any ops Q (f+1) (listed.setIfInBounds n true) (a.put al.dst (.pointer (some ⟨B,0,none⟩))) (w.ext z):=by
  intro f;induction f with
  |zero=>
   intro listed a z B _ eW hb hH;exact last listed a z B hH.2 hH.1 eW hb
  |succ f ih=>
   intro listed a z B d8 eW hb hH;obtain⟨⟨i0,fB,wZ⟩,b9⟩:=hH;have wY:=ready_mono fB (show i0≠n by omega);refine⟨fun h0=>(by rw[h0]at wY;cases wY),fun i hi=> ?_⟩;have aO:i≠n:=by
    rintro rfl;have:=(mem_ready.1 hi).1;have hs:i<listed.size:=by
     rcases Nat.lt_or_ge i listed.size with h|h
     ·exact h
     ·simp[Array.getElem?_eq_none h]at d8
    simp[Array.getElem?_setIfInBounds,hs]at this
   rcases aa _ i hi with aa|aa|aa
   ·obtain⟨hu,oi,xH,CB⟩:=mem_ready.1 hi;obtain⟨ny,dr⟩:=rE i oi aa xH
    have hr:i∈Region.ready .any ops listed:=mem_ready.2 ⟨by rw[getD_set_ne true (Ne.symm aO)]at hu;exact hu,oi,xH,fun e he hb=>by
     have:=CB e he hb;rw[getD_set_ne false (Ne.symm (dr e he))]at this
     exact this⟩
    obtain⟨o,v,ho,hy,vB⟩:=b9 i hr aa;rw[xH]at ho;cases ho;obtain⟨h1,h2,h3⟩:=Oper.apart_spec ny;refine zfQ xH (hy.put' h1 (fun cs b=>yb i oi cs b xH)) fun z'=> ?_
    rw[<-Array.setIfInBounds_comm _ _ aO,Act.put_comm a _ v h2,zhY];refine ih _ _ _ B (by rw[getD_set_ne true aO];exact d8) eW ?_ vB;rw[<-zhY,zcI _ _ _ (Array.getElem?_eq_some_iff.1 hb).1];exact hb
   ·exact absurd aa aO
   ·subst aa;have L2:(listed.setIfInBounds n true).getD i0 true=false:=by rw[getD_set_ne true Mcn];exact(mem_ready.1 fB).1
    exact absurd hi (q8 _ i0 Mcn L2)
 have modeA: ∀(f:Nat) (listed:Array Bool) (a:Act) (z:Ez),listed.getD n true=false->
  zfZ P .any ops w n (fun listed' a'=>zeT .any ops 0 n listed'=true/\Lq a') f listed a->
  wpAny P .any ops Q (f+2) listed a (w.ext z):=by
  have make: ∀(f:Nat) (listed:Array Bool) (a:Act) (z:Ez),listed.getD n true=false->zfZ P .any ops w n (fun listed' a'=>zeT .any ops 0 n listed'=true/\Lq a') f listed a->
   wpOp P ops Q n (wpAny P .any ops Q (f+1) (listed.setIfInBounds n true)) a (w.ext z):=fun f listed a z d8 hH=>by
   unfold wpOp;simp only[wj];rw[if_pos (DN _)];refine .inl ?_;unfold Oper.wp;rw[hrun];obtain⟨z',Ll⟩:=alloc_ext (w.ext z) obj;have hb:=heap_alloc_new (w.ext z) obj;have oP:w.heap.size<=(w.ext z).heap.size:=by rw[zae];omega
   show wpAny P .any ops Q (f+1) (listed.setIfInBounds n true) (a.put al.dst (.pointer (some ⟨(w.ext z).heap.size,0,none⟩))) ((w.ext z).alloc obj);generalize(w.ext z).heap.size=B at*;rw[Ll,zhY]at hb⊢;exact modeB f listed a _ B d8 oP hb hH
  intro f;induction f with
  |zero=>
   intro listed a z d8 hH;have hL:=hH.1;simp only[zeT,Bool.and_eq_true,decide_eq_true_eq]at hL;refine⟨fun h0=>(by rw[hL.1.1]at h0;cases h0),fun i hi=> ?_⟩;rw[hL.1.1]at hi;have aO:i=n:=by simpa using hi
   subst aO;exact make 0 listed a z d8 hH
  |succ f ih=>
   intro listed a z d8 hH;obtain⟨⟨i0,fB,wZ⟩,b9⟩:=hH;refine⟨fun h0=>(by rw[h0]at fB;cases fB),fun i hi=> ?_⟩;rcases aa _ i hi with aa|aa|aa
   ·obtain⟨o,v,ho,hy,vB⟩:=b9 i hi aa;refine zfQ ho hy fun z'=> ?_
    rw[zhY];exact ih _ _ _ (by rw[getD_set_ne true Mcn];exact d8) vB
   ·subst aa;exact make (f+1) listed a z d8 ⟨⟨i0,fB,wZ⟩,b9⟩
   ·subst aa;exact absurd hi (q8 _ i0 Mcn (mem_ready.1 fB).1)
 exact modeA n listed0 a z0 tS H
end
theorem quietg {P:Program} {f:FuncId} {args:Array Value} {W:World} {v:Value} (h:Calls P f args W (Ret W v)):Calls P f args W fun e w''=>e= .returned v/\ ∃z,w''=W.ext z:=h
end Go.Proofs.YtjhbofabmpfniaaGreatDoor

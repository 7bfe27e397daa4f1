/- Plain: the bits of a number, the lowest first. -/
import Derived.Test.YtckkbkdcdkhglaaGreatDoorJL
import Derived.Test.YtckkbkdcdkhglaaGreatDoorJ6
set_option linter.unusedSimpArgs false
set_option linter.unusedVariables false
set_option maxRecDepth 100000
set_option maxHeartbeats 4000000
namespace Go.Proofs.YtckkbkdcdkhglaaGreatDoor
open Go.RowKit
structure Found (s:St) (nm:ByteArray) (out xs:List ByteArray):Prop where
 nd:out.Nodup
 desc: ∀n∈out,Desc s nm n
 from': ∀x∈xs,x=nm\/x∈out
 seen: ∀x,(x=nm\/x∈out)->x∈xs\/ ∀c∈zai s x,c∈out
structure Look (s:St) (nm x:ByteArray) (j:Nat) (out xs:List ByteArray):Prop where
 nd:out.Nodup
 desc: ∀n∈out,Desc s nm n
 from': ∀x∈xs,x=nm\/x∈out
 seen: ∀y,(y=nm\/y∈out)->y∈xs\/y=x\/ ∀c∈zai s y,c∈out
 mine:x=nm\/x∈out
 done: ∀c∈(zai s x).take j,c∈out
theorem zmA (s:St) (nm:ByteArray):Found s nm [] [nm]:=⟨List.nodup_nil,by simp,by simp,fun x hx=> .inl (by simpa using hx)⟩
theorem found_pop {s:St} {nm x:ByteArray} {out xs:List ByteArray} (h:Found s nm out (x::xs)):Look s nm x 0 out xs:=
 ⟨h.nd,h.desc,fun y hy=>h.from' y (by simp[hy]),fun y hy=>by
   rcases h.seen y hy with h1|h1
   ·rcases List.mem_cons.1 h1 with rfl|h1
    ·exact .inr (.inl rfl)
    ·exact .inl h1
   ·exact .inr (.inr h1),h.from' x Mco,by simp⟩
theorem look_end {s:St} {nm x:ByteArray} {out xs:List ByteArray} (h:Look s nm x (zai s x).length out xs):Found s nm out xs:=
 ⟨h.nd,h.desc,h.from',fun y hy=>by
   rcases h.seen y hy with h1|rfl|h1
   ·exact .inl h1
   ·exact .inr fun c hc=>h.done c Meo
   ·exact .inr h1⟩
theorem look_old {s:St} {nm x:ByteArray} {j:Nat} {out xs:List ByteArray} (h:Look s nm x j out xs) (hj:j<(zai s x).length) (hc:(zai s x)[j]∈out):Look s nm x (j+1) out xs:=
 ⟨h.nd,h.desc,h.from',h.seen,h.mine,fun c aU=>by
   rw[List.take_succ_eq_append_getElem hj]at aU;rcases List.mem_append.1 aU with h1|h1
   ·exact h.done c h1
   ·rw[List.mem_singleton.1 h1];exact hc⟩
theorem znI {s:St} {nm x:ByteArray} {j:Nat} {out xs:List ByteArray} (h:Look s nm x j out xs) (hj:j<(zai s x).length) (hc:(zai s x)[j]∉out):Look s nm x (j+1) (out++[(zai s x)[j]]) (xs++[(zai s x)[j]]):=by
 have bI:(zai s x)[j]∈zai s x:=List.getElem_mem _;refine⟨?_,fun n hn=> ?_,fun y hy=> ?_,fun y hy=> ?_,?_,fun c aU=> ?_⟩
 ·exact List.nodup_append.2 ⟨h.nd,by simp,fun a ha b hb e=>by rw[List.mem_singleton.1 hb]at e;exact hc (e▸ha)⟩
 ·rcases List.mem_append.1 hn with h1|h1
  ·exact h.desc n h1
  ·rw[List.mem_singleton.1 h1];rcases h.mine with rfl|hm
   ·exact zfy bI
   ·exact zid (h.desc x hm) bI
 ·rcases List.mem_append.1 hy with h1|h1
  ·rcases h.from' y h1 with h2|h2
   ·exact .inl h2
   ·exact .inr (by simp[h2])
  ·exact .inr (by simp[List.mem_singleton.1 h1])
 ·rcases hy with hy|hy
  ·rcases h.seen y (.inl hy)with h1|h1|h1
   ·exact .inl (by simp[h1])
   ·exact .inr (.inl h1)
   ·exact .inr (.inr fun c hc=>by simp[h1 c hc])
  ·rcases List.mem_append.1 hy with h1|h1
   ·rcases h.seen y (.inr h1)with h2|h2|h2
    ·exact .inl (by simp[h2])
    ·exact .inr (.inl h2)
    ·exact .inr (.inr fun c hc=>by simp[h2 c hc])
   ·exact .inl (by simp[List.mem_singleton.1 h1])
 ·rcases h.mine with h1|h1
  ·exact .inl h1
  ·exact .inr (by simp[h1])
 ·rw[List.take_succ_eq_append_getElem hj]at aU;rcases List.mem_append.1 aU with h1|h1
  ·simp[h.done c h1]
  ·simp[List.mem_singleton.1 h1]
theorem found_end {s:St} {nm:ByteArray} {out:List ByteArray} (h:Found s nm out []): ∀n,n∈out↔Desc s nm n:=fun n=>by
 refine⟨h.desc n,fun hd=>zic (out:=fun x=>x∈out) ?_ ?_ hd⟩
 ·intro c hc;rcases h.seen nm (.inl rfl)with h1|h1
  ·simp at h1
  ·exact h1 c hc
 ·intro x hx c hc;rcases h.seen x (.inr hx)with h1|h1
  ·simp at h1
  ·exact h1 c hc
theorem zkw {α:Type} [DecidableEq α]: ∀ {a b:List α},a.Nodup->(∀x∈a,x∈b)->a.length<=b.length
 | [],_,_,_=>Nat.zero_le _
 |x::a,b,h,hs=>by
  have h':=List.nodup_cons.1 h;have hx:x∈b:=hs x Mco;have h1:a.length<=(b.erase x).length:=zkw h'.2 fun y hy=>by
   have ai:y≠x:=fun e=>h'.1 (e▸hy)
   exact(List.mem_erase_of_ne ai).2 (hs y (by simp[hy]))
  have h2:=List.length_erase_of_mem hx;have h3:0<b.length:=List.length_pos_of_mem hx;simp only[List.length_cons];omega
theorem out_few {s:St} {nm:ByteArray} {out:List ByteArray} (hn:out.Nodup) (hd: ∀n∈out,Desc s nm n):out.length<=s.children.length:=by
 have Dt: ∀n∈out,n∈s.children.map (·.2):=fun n Ko=>by
  have: ∃y,(y,n)∈s.children:=by
   cases hd n Ko with
   |single h=>exact⟨nm,zdr.1 h⟩
   |tail _ h=>exact⟨_,zdr.1 h⟩
  obtain⟨y,hy⟩:=this;exact List.mem_map.2 ⟨(y,n),hy,rfl⟩
 haveI:DecidableEq ByteArray:=fun a b=>Classical.propDecidable _
 have:=zkw hn Dt;simpa using this
end Go.Proofs.YtckkbkdcdkhglaaGreatDoor
namespace Go.Proofs.YtckkbkdcdkhglaaGreatDoor
open Go.RowKit Go.Shelf
attribute [local go_sem] World.cell?_alloc_mark zag za5 zaq za8 zaw zax zay zaz za0 za1 za2
attribute [local go_sem] zap zad
def zgp:List Int:=[31,28,31,30,31,30,31,31,30,31,30,31]
def LensIn (w:World):Prop:=4<w.heap.size/\ ∀(k:Nat) (n:Int),zgp[k]?=some n->w.cell? ⟨4,k,none⟩=some (.int .i64 n)
theorem LensIn.keep {w W:World} {n:Nat} (h:LensIn w) (hB:Below n w W) (hn:w.heap.size<=n:=by first|exact Nat.le_refl _|omega):LensIn W:=
 ⟨Nat.lt_of_lt_of_le h.1 hB.size,fun k x hx=>(hB.cell (p:=⟨4,_,none⟩) (Nat.lt_of_lt_of_le h.1 hn)).trans (h.2 k x hx)⟩
theorem ze6 (n lo hi:Int) (w:World):Calls Tryz.prog 185 #[.int .i64 n, .int .i64 lo, .int .i64 hi] w (Ret0 w (.bool (inR n lo hi))):=by
 go_enter Tryz.func185,Tryz.ntmps185
 go_wp2_with fail
 all_goals go_ret
 all_goals exact⟨by first|(simp_all[inR];done)|(simp_all[inR];omega),rfl⟩
theorem zgZ (n:Int) (w:World):Calls Tryz.prog 184 #[.int .i64 n] w (Ret0 w (.bool (zbm n))):=by
 go_enter Tryz.func184,Tryz.ntmps184
 go_wp2_with (go_at_call 185;refine(ze6 _ _ _ _).mono ?_;rintro e wq ⟨rfl,rfl⟩)
 go_ret
 exact⟨rfl,rfl⟩
theorem zow (y:Int) (w:World) (h0:0<=y) (h1:y<=100000):Calls Tryz.prog 205 #[.int .i64 y] w (Ret0 w (.bool (zgN y))):=by
 rw[<-leapQ_eq h0];have w1:wrap64 (y.tmod 4)=y.tmod 4:=McL;have w2:wrap64 (y.tmod 100)=y.tmod 100:=McL;have w3:wrap64 (y.tmod 400)=y.tmod 400:=McL;have v1:IntKind.i64.wrap (y.tmod 4)=y.tmod 4:=McF;have v2:IntKind.i64.wrap (y.tmod 100)=y.tmod 100:=McF;have v3:IntKind.i64.wrap (y.tmod 400)=y.tmod 400:=McF;go_enter Tryz.func205,Tryz.ntmps205
 go_wp2_with fail
 all_goals go_ret
 all_goals exact⟨by simp[leapQ,Int.tmod_eq_emod_of_nonneg h0, *],rfl⟩
theorem zf2 (y:Int) (m:Nat) (w:World) (hL:LensIn w) (h0:0<=y) (h1:y<=100000) (cu:1<=m) (fG:m<=12):Calls Tryz.prog 200 #[.int .i64 y, .int .i64 m] w (Ret0 w (.int .i64 (za4 y m))):=by
 have hd:=znB y cu fG;have aa:m-1<zgp.length:=by simp[zgp];omega
 have hc:=hL.2 (m-1) _ (List.getElem?_eq_getElem aa);have hg:zgp.getD (m-1) 0=zgp[m-1]:=Mdc;have bS:[31,28,31,30,31,30,31,31,30,31,30,31].getD (m-1) 0=zgp[m-1]:=hg;rw[bS]at hd;generalize zgp[m-1]=len at hc hd;have hw:IntKind.i64.wrap ((m:Int)-1)=(m:Int)-1:=IntWalk.i64_in _ Mcl;have tV:(0:Int)<=(m:Int)-1:=Mcl;have cD:(m:Int)-1<12:=Mcl;have fS:((m:Int)-1).toNat=m-1:=Mcl;have HD:=zHi hd;clear hd hg bS hL aa;by_cases h2:m=2
 ·subst h2;cases hl:zgN y
  ·exact MaC
  ·exact MaC
 ·have hb:((m:Int)==2)=false:=Mef;have bF: ¬(m:Int)=2:=Mcl;go_enter Tryz.func200,Tryz.ntmps200
  go_wp2_with fail
  go_ret
  exact⟨by rw[HD.o,hb];simp,rfl⟩
theorem ziv (y:Int) (w:World) (h0:1800<=y) (h1:y<=100000):Calls Tryz.prog 204 #[.int .i64 y] w (Ret0 w (.int .i64 (begP y))):=by
 have hp:0<=y-1:=Mcl;have e1:(y-1).tdiv 4=(y-1)/4:=Int.tdiv_eq_ediv_of_nonneg hp;have e2:(y-1).tdiv 100=(y-1)/100:=Int.tdiv_eq_ediv_of_nonneg hp;have e3:(y-1).tdiv 400=(y-1)/400:=Int.tdiv_eq_ediv_of_nonneg hp;have hv:begP y=365*(y-1800)+(y-1)/4-(y-1)/100+(y-1)/400-436:=by unfold begP;rw[zdu hp];omega
 have HV:=zHi hv;clear hv;have k0:IntKind.i64.wrap (y-1)=y-1:=IntWalk.i64_in _ Mcl;have k1:IntKind.i64.wrap (y-1800)=y-1800:=IntWalk.i64_in _ Mcl;have k2:IntKind.i64.wrap (365*(y-1800))=365*(y-1800):=IntWalk.i64_in _ Mcl;go_enter Tryz.func204,Tryz.ntmps204
 exact MbC
theorem zbY {y:Int} {m:Nat} (h0:1800<=y) (h1:y<=2500) (cu:1<=m) (fG:m<=13):0<=zaD y m/\zaD y m<=1000000:=by
 have hb:begP y=365*(y-1800)+(y-1)/4-(y-1)/100+(y-1)/400-436:=by unfold begP;rw[zdu Mcl];omega
 have h: ∀k:Nat,k<=12->begP y<=zaD y (k+1)/\zaD y (k+1)<=begP y+31*k:=fun k=>by
  induction k with
  |zero=>intro _;rw[zbB];omega
  |succ k ih=>
   intro hk;have:=ih Mcl;have h2:=zf0 y (show 1<=k+1 by omega);have h3:=zdA y (show 1<=k+1 by omega) (show k+1<=12 by omega);omega
 obtain⟨k,rfl⟩: ∃k,m=k+1:=⟨m-1,by omega⟩
 have:=h k Mcl;omega
theorem dayOf_any (y:Int) (m:Nat) (d:Int) (w:World) (hL:LensIn w) (h0:1800<=y) (h1:y<=2500) (cu:1<=m) (fG:m<=12) (cd:0<=d) (dY:d<=1000):
 Calls Tryz.prog 199 #[.int .i64 y, .int .i64 m, .int .i64 d] w (Ret0 w (.int .i64 (zaD y m+d-1))):=by
 have jn:=zbY (m:=1) h0 h1 Mcl Mcl;rw[zbB]at jn;have k0:IntKind.i64.wrap (begP y+d)=begP y+d:=IntWalk.i64_in _ Mcl;have k1:IntKind.i64.wrap (begP y+d-1)=begP y+d-1:=IntWalk.i64_in _ Mcl;go_enter Tryz.func199,Tryz.ntmps199
 go_wp2_with (go_at_call 204;refine(ziv _ _ h0 Mcl).mono ?_;rintro e wq ⟨rfl,rfl⟩)
 go_loop [7,8] (fun n i=> ∃k:Nat,1<=k/\k<=m/\i= .int .i64 k/\n= .int .i64 (zaD y k+d-1)) (fun _ i=>m-(intOf i).toNat)
 case atStart=>exact⟨1,by omega,cu,rfl,by rw[zbB]⟩
 case round=>
  obtain⟨k,fX,pF,rfl,rfl⟩:=hrel;by_cases aa:k<m
  ·have hb:=zbY (m:=k) h0 h1 fX Mcl;have fW:=zdA y fX (show k<=12 by omega);have hu:=zf0 y fX;have HU:=zHi hu;have k2:IntKind.i64.wrap (zaD y k+d-1+za4 y k)=zaD y k+d-1+za4 y k:=IntWalk.i64_in _ Mcl;have bD:(k:Int)<(m:Int):=Mcl;clear hu;go_wp2_with (go_at_call 200;refine(zf2 y k _ hL Mcl Mcl fX Mcl).mono ?_;rintro e wq ⟨rfl,rfl⟩)
   go_round
   case rel=>exact⟨k+1,by omega,by omega,by go_num,by rw[HU.o];exact zb5 Mcl⟩
   case measure=>simp[intOf];omega
  ·exact Mcf
def zmB (y m d:Int):Value:= .agg #[.int .i64 y, .int .i64 m, .int .i64 d]
theorem zlq {fn:Func} {p:Tmp} (h:fn.results= #[.cell p 225]) (tmps:Array Value) (w:World) (B:Nat) (x y z:Int) (hp:tmps.getD p undef= .pointer (some ⟨B,0,none⟩))
 (h0:w.cell? ⟨B,0,none⟩=some (.int .i64 x)) (h1:w.cell? ⟨B,1,none⟩=some (.int .i64 y)) (h2:w.cell? ⟨B,2,none⟩=some (.int .i64 z)):(results fn tmps).run Tryz.prog w= .ok (zmB x y z) w:=by
 rw[zdE h,hp];unfold zmB;go_simp
theorem J_set3 {w:World} {g:Nat} {z0 z1 z2 a b c:Value} {t:TypeId} {fr:Nat×Nat} (h:w.heap[g]?=some (.cells #[z0,z1,z2] t fr)):(((w.setCell ⟨g,0,none⟩ a).setCell ⟨g,1,none⟩ b).setCell ⟨g,2,none⟩ c).heap[g]?=some (.cells #[a,b,c] t fr):=by
 have:=Joins.block_setCell (i:=2) (Joins.block_setCell (i:=1) (Joins.block_setCell (i:=0) h a) b) c;simpa using this
theorem zox (day:Int) (w:World) (hL:LensIn w) (h0:0<=day) (h1:day<=200000):
 Calls Tryz.prog 198 #[.int .i64 day] w (fun e w'=>DateIs day (zbR day) (zbg day)/\Ret w (zmB (zbR day) (zbg day) (day-zaD (zbR day) (zbg day)+1)) e w'):=by
 have dN:=beg_low h0 h1;have fm:=znA h0 h1;have wQ:day.tdiv 366=day/366:=Int.tdiv_eq_ediv_of_nonneg h0;have gN:0<=day/366:=Mcl;have df:day/366<=546:=Mcl;rw[wQ]at dN fm;have yC:zbR day=zej day 10 (1800+day/366):=by unfold zbR;rw[wQ]
 have HY:=zHi yC;have HH:=zHi fm;clear yC fm;go_enter Tryz.func198,Tryz.ntmps198
 go_wp2_with fail
 go_loopg [] 10 (fun gg wr=> ∃(f:Nat) (y:Int),f<=gg/\y+f=1800+day/366+10/\1800<=y/\y<=2400/\Hid (zbR day=zej day f y)/\Hid (begP y<=day)/\Below w.heap.size w wr/\wr.heap[w.heap.size]?=some (.cells #[.int .i64 0, .int .i64 0, .int .i64 0] 225)/\wr.heap[w.heap.size+1]?=some (.cells #[.int .i64 y, .int .i64 1, .int .i64 0] 225))
 case atStart=>exact⟨10,1800+day/366,Nat.le_refl _,by omega,by omega,by omega,HY.o,dN,Bw,zak (zar _ _ _ rfl),zar _ _ _ Mco⟩
 case round=>
  obtain⟨f,y,hf,L1,lh,L0,vt,fI,hB,g0,g1⟩:=hrel;have a0:wr.cell? ⟨w.heap.size+1,0,none⟩=some (.int .i64 y):=Mcr;have a1:wr.cell? ⟨w.heap.size+1,1,none⟩=some (.int .i64 1):=Mcr;have a2:wr.cell? ⟨w.heap.size+1,2,none⟩=some (.int .i64 0):=Mcr;have z0:wr.frozen? ⟨w.heap.size+1,0,none⟩=false:=Mcz;have z1:wr.frozen? ⟨w.heap.size+1,1,none⟩=false:=Mcz;have z2:wr.frozen? ⟨w.heap.size+1,2,none⟩=false:=Mcz;have b0:wr.cell? ⟨w.heap.size,0,none⟩=some (.int .i64 0):=Mcp;have b1:wr.cell? ⟨w.heap.size,1,none⟩=some (.int .i64 0):=Mcp;have b2:wr.cell? ⟨w.heap.size,2,none⟩=some (.int .i64 0):=Mcp;have x0:wr.frozen? ⟨w.heap.size,0,none⟩=false:=Mcy;have x1:wr.frozen? ⟨w.heap.size,1,none⟩=false:=Mcy;have x2:wr.frozen? ⟨w.heap.size,2,none⟩=false:=Mcy;have e1:w.heap.size+1<wr.heap.size:=zab g1;have e0:w.heap.size<wr.heap.size:=zab g0;have hLr:=hL.keep hB;have k0:IntKind.i64.wrap (y+1)=y+1:=IntWalk.i64_in _ Mcl;by_cases hc:begP (y+1)<=day
  ·have JF:f≠0:=by
    exact MbB
   obtain⟨f',rfl⟩: ∃f',f=f'+1:=⟨f-1,by omega⟩
   have HN:Hid (zbR day=zej day f' (y+1)):=by
    show _=_;rw[vt.o,zli Md7]
   have HC:=zHi hc;go_wp2_with (go_at_call 204;refine(ziv _ _ Mcl Mcl).mono ?_;rintro e wq ⟨rfl,rfl⟩)
   exact MW
  ·have HN:Hid (zbR day=y):=by
    show _=_;rw[vt.o,zlj Md7]
   have rU:=zbY (m:=1) lh Mcl Mcl Mcl;rw[zbB]at rU;have k1:IntKind.i64.wrap (day-begP y)=day-begP y:=IntWalk.i64_in _ Mcl;have xB:zbg day=zdj day y 12 1:=by unfold zbg;rw[HN.o]
   have kJ:=zHi xB;have yD:day<zaD y 12+za4 y 12:=by
    rw[<-zjA lh,zbB];omega
   have Bz:=zHi yD;have lz:=fI.o;have ak:Hid (zaD y 1<=day):=by show _<=_;rw[zbB];exact lz
   clear xB yD lz;have G0:=zHi g0;have G1:=zHi g1;go_upto_region 5 with(go_at_call 204;refine(ziv _ _ Mcl Mcl).mono ?_;rintro e wq ⟨rfl,rfl⟩)
   clear a0 a1 a2 z0 z1 z2 b0 b1 b2 x0 x1 x2 g0 g1;go_loopg [0] 12 (fun gg v wm=> ∃(m:Nat),1<=m/\m<=12/\12-m<=gg/\v= .int .i64 (day-zaD y m)/\Hid (zbg day=zdj day y (13-m) m)/\Hid (zaD y m<=day)/\Below w.heap.size w wm/\wm.heap[w.heap.size]?=some (.cells #[.int .i64 0, .int .i64 0, .int .i64 0] 225)/\wm.heap[w.heap.size+1]?=some (.cells #[.int .i64 y, .int .i64 m, .int .i64 0] 225))
   case atStart=>exact⟨1,by omega,by omega,by omega,by rw[zbB],kJ.o,ak.o,hB,G0.o,G1.o⟩
   case round=>
    obtain⟨m,cu,fG,rW,rfl,HM,qt,Ex,g0,g1⟩:=hrel;have a0:wr.cell? ⟨w.heap.size+1,0,none⟩=some (.int .i64 y):=Mcr;have a1:wr.cell? ⟨w.heap.size+1,1,none⟩=some (.int .i64 m):=Mcr;have a2:wr.cell? ⟨w.heap.size+1,2,none⟩=some (.int .i64 0):=Mcr;have z0:wr.frozen? ⟨w.heap.size+1,0,none⟩=false:=Mcz;have z1:wr.frozen? ⟨w.heap.size+1,1,none⟩=false:=Mcz;have z2:wr.frozen? ⟨w.heap.size+1,2,none⟩=false:=Mcz;have b0:wr.cell? ⟨w.heap.size,0,none⟩=some (.int .i64 0):=Mcp;have b1:wr.cell? ⟨w.heap.size,1,none⟩=some (.int .i64 0):=Mcp;have b2:wr.cell? ⟨w.heap.size,2,none⟩=some (.int .i64 0):=Mcp;have x0:wr.frozen? ⟨w.heap.size,0,none⟩=false:=Mcy;have x1:wr.frozen? ⟨w.heap.size,1,none⟩=false:=Mcy;have x2:wr.frozen? ⟨w.heap.size,2,none⟩=false:=Mcy;have e1:w.heap.size+1<wr.heap.size:=zab g1;have e0:w.heap.size<wr.heap.size:=zab g0;have EX:=hL.keep Ex;have fW:=zdA y cu fG;have oz:=zbY (m:=m) lh Mcl cu Mcl;have hu:=zf0 y cu;have HU:=zHi hu;have dI:=qt.o;have k2:IntKind.i64.wrap (day-zaD y m-za4 y m)=day-zaD y m-za4 y m:=IntWalk.i64_in _ Mcl;have k3:IntKind.i64.wrap ((m:Int)+1)=(m:Int)+1:=IntWalk.i64_in _ Mcl;have k4:IntKind.i64.wrap (day-zaD y m+1)=day-zaD y m+1:=IntWalk.i64_in _ Mcl;by_cases cA:za4 y m<=day-zaD y m
    ·have sk:m<12:=by
      rcases Nat.lt_or_ge m 12 with h|h
      ·exact h
      ·have:=Bz.o;obtain rfl:m=12:=by omega
       rw[show((12:Nat):Int)=12 from rfl]at cA;omega
     have kK:Hid (zbg day=zdj day y (13-(m+1)) (m+1)):=by
      show _=_;rw[HM.o,show 13-m=(13-(m+1))+1 by omega,zjB sk (by rw[hu];omega)]
     have xr:zaD y (m+1)<=day:=by rw[hu];omega
     have gu:=zHi xr;clear hu dI xr;go_wp2_with (go_at_call 200;refine(zf2 y m _ EX Mcl Mcl cu fG).mono ?_;rintro e wq ⟨rfl,rfl⟩)
     go_roundg (12-(m+1))
     case measure=>omega
     case rel=>
      refine⟨m+1,by omega,by omega,Nat.le_refl _,by rw[HU.o];exact zb5 Mcl,kK,gu.o,by repeat(first|exact B_refl|exact Below.refl _ _|assumption|with_reducible refine zac ?_ _|with_reducible refine zbc ?_ _|with_reducible refine zaM ?_|with_reducible refine zd4 ?_ _|with_reducible refine zaO ?_ Mdk _),J_ne Mcl g0,?_⟩;exact MbG
    ·have kK:Hid (zbg day=m):=by
      show _=_;rw[HM.o,zjC (by rw[hu];omega)]
     have HD:Hid (DateIs day (zbR day) (zbg day)):=by
      show DateIs _ _ _;rw[HN.o,kK.o];exact⟨lh,by omega,cu,fG,dI,by omega⟩
     clear hu dI;go_wp2_with (go_at_call 200;refine(zf2 y m _ EX Mcl Mcl cu fG).mono ?_;rintro e wq ⟨rfl,rfl⟩)
     exact Mx
theorem zoy (day mo:Int) (w:World) (hL:LensIn w) (h0:0<=day) (h1:day<=200000) (nI: -12000<=mo) (cu:mo<=12000):
 Calls Tryz.prog 186 #[.int .i64 day, .int .i64 mo] w (fun e w'=> ∃n:Int,∃ok:Bool,(ok=true->zbS day mo=n/\0<=n)/\(ok=false->zbS day mo= -1)/\Ret w (.tuple #[.int .i64 n, .bool ok]) e w'):=by
 have hA:zbS day mo=if !inR ((zbR day*12+zbg day-1+mo)/12) 1800 2347 then-1 else
  if zbm (zaD ((zbR day*12+zbg day-1+mo)/12) ((zbR day*12+zbg day-1+mo)%12+1).toNat+min (day-zaD (zbR day) (zbg day)+1) (za4 ((zbR day*12+zbg day-1+mo)/12) ((zbR day*12+zbg day-1+mo)%12+1))-1)then
   zaD ((zbR day*12+zbg day-1+mo)/12) ((zbR day*12+zbg day-1+mo)%12+1).toNat+min (day-zaD (zbR day) (zbg day)+1) (za4 ((zbR day*12+zbg day-1+mo)/12) ((zbR day*12+zbg day-1+mo)%12+1))-1 else-1:=rfl
 have HA:=zHi hA;clear hA;have HD:=zHi (fun W h=>zox day W h h0 h1);generalize zbR day=y at*;generalize zbg day=m at*;generalize zbS day mo=R at*;go_enter Tryz.func186,Tryz.ntmps186
 go_upto_region 2 with(go_at_call 198;refine(HD.o _ hL).mono ?_;rintro e wq ⟨CC,rfl,z,rfl⟩;simp only[zmB])
 obtain⟨d1,d2,d3,d4,d5,d6⟩:=CC;obtain⟨f1,f2⟩:=zdA y d3 d4;obtain⟨X,hX⟩: ∃X,X=day-zaD y m+1:=⟨_,rfl⟩
 obtain⟨N,hN⟩: ∃N,N=12*y+m-1+mo:=⟨_,rfl⟩
 have sJ:Hid (R=if !inR (N/12) 1800 2347 then-1 else if zbm (zaD (N/12) (N%12+1).toNat+min X (za4 (N/12) (N%12+1))-1)then zaD (N/12) (N%12+1).toNat+min X (za4 (N/12) (N%12+1))-1 else-1):=by
  show _=_;rw[HA.o,hX,hN,show y*12+(m:Int)-1+mo=12*y+m-1+mo by omega]
 have Jl:1<=X:=Mcl;have zH:X<=31:=Mcl;rw[<-hX];have k1:IntKind.i64.wrap (12*y)=12*y:=IntWalk.i64_in _ Mcl;have k2:IntKind.i64.wrap (12*y+m)=12*y+m:=IntWalk.i64_in _ Mcl;have k3:IntKind.i64.wrap (12*y+m-1)=12*y+m-1:=IntWalk.i64_in _ Mcl;have k4:IntKind.i64.wrap (12*y+m-1+mo)=N:=by rw[hN];exact IntWalk.i64_in _ Mcl
 have BZ: -20000<=N/\N<=100000:=Mcl;obtain⟨qY,C0⟩:=BZ;clear HA hX hN HD d5 d6 f1 f2;by_cases hN0:N<0
 ·have BY:inR (N/12) 1800 2347=false:=by simp[inR];omega
  have HR:Hid (R= -1):=by show _=_;rw[sJ.o,BY];rfl
  clear BY;go_wp2_with fail
  go_ret2
  exact⟨0,false,by simp,fun _=>HR.o,Ret.of rfl Bw⟩
 ·have BY:0<=N:=Mcl;have gN:0<=N/12:=Mcl;obtain⟨mm,da⟩: ∃mm:Nat,(mm:Int)=N%12+1:=⟨(N%12+1).toNat,by omega⟩
  have dA:1<=mm:=Mcl;have jx:mm<=12:=Mcl;have ht:(N%12+1).toNat=mm:=Mcl;have cG:Hid (R=if !inR (N/12) 1800 2347 then-1 else if zbm (zaD (N/12) mm+min X (za4 (N/12) mm)-1)then zaD (N/12) mm+min X (za4 (N/12) mm)-1 else-1):=by
   show _=_;rw[sJ.o,ht,<-da]
  have k5:IntKind.i64.wrap (N%12+1)=(mm:Int):=by rw[da];exact IntWalk.i64_in _ Mcl
  obtain⟨Y,hY⟩: ∃Y,N/12=Y:=⟨_,rfl⟩
  rw[hY]at cG;have wk:Y<=10000:=Mcl;have df:0<=Y:=Mcl;clear sJ ht;have yV:=zHi da;clear da;cases aN:inR Y 1800 2347
  ·have HR:Hid (R= -1):=MdI;go_wp2_with (go_at_call 185;refine(ze6 _ _ _ _).mono ?_;rintro e wq ⟨rfl,rfl⟩;rw[aN])
   all_goals go_ret2
   all_goals exact⟨0,false,by simp,fun _=>HR.o,Ret.of rfl Bw⟩
  ·have wn:1800<=Y/\Y<=2347:=by simpa[inR]using aN
   obtain⟨f1,f2⟩:=zdA Y dA jx;have rU:=zbY (m:=mm) wn.1 Mcl dA Mcl;have HR:Hid (R=if zbm (zaD Y mm+min X (za4 Y mm)-1)then zaD Y mm+min X (za4 Y mm)-1 else-1):=MdI;have cZ:Hid (∀W,Below w.heap.size w W->LensIn W):=fun W h=>hL.keep h
   clear cG hL;go_upto_region 6 with(go_at_call 185;refine(ze6 _ _ _ _).mono ?_;rintro e wq ⟨rfl,rfl⟩;rw[aN])
   have uM:=zHi (fun W (hW:Below w.heap.size w W)=>zf2 Y mm W (cZ.o _ hW) df Mcl dA jx);have uw:=zHi (fun d W (hW:Below w.heap.size w W) (iw:0<=d) (cd:d<=1000)=>dayOf_any Y mm d W (cZ.o _ hW) wn.1 Mcl dA jx iw cd);generalize za4 Y mm=L at*;clear rU;refine zaj Mcm Mcm ?_;repeat(first|go_big_quiet_skip|(go_big_quiet_want;go_big_quiet_op;first|go_big_quiet_on|(apply Exists.intro;refine⟨fun _=> ?_,?_⟩;(first|(go_at_call 200;exact zhV (uM.o _ Bw))|(go_at_call 199;exact zhV (uw.o _ _ Bw Mcl Mcl)));go_big_quiet_on)))
   refine wpQuiet_nil ?_;rintro _ ⟨zq,rfl⟩;generalize hO:zaD Y mm+min X L-1=out at*;have HO:=zHi hO;clear hO uM uw cZ;cases hd:zbm out
   ·have jF:=zHi hd;go_wp2_with (go_at_call 184;refine(zgZ _ _).mono ?_;rintro e wq ⟨rfl,rfl⟩;rw[hd])
    exact MbD
   ·have jF:=zHi hd;go_wp2_with (go_at_call 184;refine(zgZ _ _).mono ?_;rintro e wq ⟨rfl,rfl⟩;rw[hd])
    exact Ma0
theorem zkx (day mo:Int) (w:World) (hL:LensIn w) (h0:0<=day) (h1:day<=200000) (nI:0<=mo) (cu:mo<=12000):
 Calls Tryz.prog 176 #[.int .i64 day, .int .i64 mo] w (fun e w'=> ∃n er:Int,(er=0->zbS day mo=n/\0<=n)/\(er≠0->zbS day mo= -1)/\Ret w (.tuple #[.int .i64 n, .int .i64 er]) e w'):=by
 have cd:inR day 0 200000=true:=by simp[inR];omega
 have dY:inR mo (-12000) 12000=true:=by simp[inR];omega
 have HL:=zHi (zoy day mo w hL h0 h1 Mcl cu);go_enter Tryz.func176,Tryz.ntmps176
 go_wp2_with (first
  |(go_at_call 184;refine(zgZ _ _).mono ?_;rintro e wq ⟨rfl,rfl⟩;unfold zbm;rw[cd])
  |(go_at_call 185;refine(ze6 _ _ _ _).mono ?_;rintro e wq ⟨rfl,rfl⟩;rw[dY])
  |(go_at_call 186;refine(HL.o).mono ?_;rintro e wq ⟨n,ok,h1,h2,rfl,z,rfl⟩;have H1:=zHi h1;have H2:=zHi h2;clear h1 h2;cases ok))
 all_goals go_ret2
 all_goals first
  |exact⟨0,2,by simp,fun _=>H2.o trivial,Ret.of rfl Bw⟩
  |exact⟨n,0,fun _=>H1.o trivial,by simp,Ret.of rfl Bw⟩
theorem zjG (day ys:Int) (w:World) (hL:LensIn w) (h0:0<=day) (h1:day<=200000) (nI:0<=ys) (cu:ys<=99):
 Calls Tryz.prog 158 #[.int .i64 day, .int .i64 ys] w (Ret w (.int .i64 (zci day ys))):=by
 have HL:=zHi (zkx day (12*ys) w hL h0 h1 Mcl Mcl);go_enter Tryz.func158,Tryz.ntmps158
 go_wp2_with (go_at_call 176;refine(HL.o).mono ?_;rintro e wq ⟨n,er,k1,k2,rfl,z,rfl⟩;have H1:=zHi k1;have H2:=zHi k2;clear k1 k2;by_cases kV:er=0)
 all_goals go_ret
 all_goals first
  |exact Ret.of (zb5 (by unfold zci;exact(H1.o (by first|trivial|exact kV)).1.symm)) Bw
  |exact Ret.of (zb5 (by unfold zci;exact(H2.o (by first|trivial|exact kV)).symm)) Bw
end Go.Proofs.YtckkbkdcdkhglaaGreatDoor
namespace Go.Proofs.YtckkbkdcdkhglaaGreatDoor
open Go.RowKit
def zbi (q:Rat):Rat:=if bigQ q then 0 else q
theorem zgq (q:Rat):bigQ (zbi q)=false:=by
 unfold zbi;cases h:bigQ q
 ·simpa using h
 ·simp[bigQ]
theorem zcv {q:Rat} (h:0<=q):0<=zbi q:=by
 unfold zbi;split
 ·exact Rat.le_refl
 ·exact h
theorem zha {q:Rat} (h:0<=q):zbi q<=q:=by
 unfold zbi;split
 ·exact h
 ·exact Rat.le_refl
theorem zfc {q:Rat} (h:bigQ q=false):zbi q=q:=by simp[zbi,h]
def zfd (own:Rat) (p:ByteArray×Rat) (x:Parts×Bool):Parts×Bool:=
 (setP x.1 p.1 (zbi (zaf x.1 p.1+zbi (own*p.2))),x.2||bigQ (own*p.2)||bigQ (zaf x.1 p.1+zbi (own*p.2)))
def zef (own:Rat):Parts->Parts×Bool->Parts×Bool
 | [],x=>x
 |p::l,x=>zef own l (zfd own p x)
theorem zfe (own:Rat): ∀(a b:Parts) (x:Parts×Bool),zef own (a++b) x=zef own b (zef own a x)
 | [],_,_=>rfl
 |p::a,b,x=>zfe own a b _
theorem zff {own:Rat}: ∀ {l:Parts} {x:Parts×Bool},x.2=true->(zef own l x).2=true
 | [],_,h=>h
 |p::l,x,h=>zff (l:=l) (by simp[zfd,h])
theorem zhI {l:Parts} (h:GoodParts l) {n:ByteArray} {q:Rat} (hq:0<=q):GoodParts (setP l n q):=by
 by_cases h0:q=0
 ·subst h0;rw[zhE h.asc];exact zbH h
 ·refine⟨set_asc h.asc n q,fun p hp=> ?_⟩;rcases zkq hp with rfl|hp
  ·show 0<q;grind
  ·exact h.pos p hp
theorem zmC {l:Parts} (h:GoodParts l) (n:ByteArray) (q:Rat):sumQ (setP l n q)=sumQ l-zaf l n+q:=by
 have hw:=zck (n:=n) h;rw[zio h.asc];by_cases hq:q==0
 ·rw[if_pos hq];have:q=0:=by simpa using hq
  subst this;grind
 ·rw[if_neg hq,zbX];grind
theorem zet {l:Parts} {n:ByteArray} {q:Rat} (h:zaE l=false) (hq:bigQ q=false):zaE (setP l n q)=false:=by
 unfold zaE at*;rw[List.any_eq_false]at*;intro p hp;rcases zkq hp with rfl|hp
 ·simpa using hq
 ·exact h p hp
theorem ziw {n:ByteArray} {q:Rat}: ∀ {l:Parts},(setP l n q).length<=l.length+1
 | []=>by unfold setP;split<;>simp
 |x::l=>by
  unfold setP;have:=ziw (n:=n) (q:=q) (l:=l);split
  ·simpa using this
  ·split
   ·split<;>simp<;>omega
   ·split<;>simp
theorem zcJ {l:Parts} (n:ByteArray) (h:zaE l=false):bigQ (zaf l n)=false:=by
 unfold zaf;cases hf:l.find? (fun p=>zae p.1 n)with
 |none=>simp[bigQ]
 |some p=>
  unfold zaE at h;rw[List.any_eq_false]at h;simpa using h p (List.mem_of_find?_eq_some hf)
theorem zdw {l:Parts} (h:GoodParts l) (n:ByteArray):zaf l n<=sumQ l:=by
 have h1:=zck (n:=n) h;have h2:=zbr (l:=zas l n) fun p hp=>by have:=(zbH h (n:=n)).pos p hp;grind
 grind
theorem zcb {q:Rat} (h0:0<=q) (h1:q<=1) (hb:bigQ q=false):zaK q:=by
 unfold bigQ at hb;have hd:=q.den_pos;have bF:(q.den:Int)<=1000000000:=by simpa using hb
 rw[Rat.le_iff]at h0 h1;have h2:0<=q.num:=Mdm;have h3:q.num<=(q.den:Int):=McR;exact⟨by omega,by omega⟩
structure Bd (out:Parts) (t:Rat):Prop where
 good:GoodParts out
 small:zaE out=false
 le:sumQ out<=t
theorem Bd.share {out:Parts} {t:Rat} (h:Bd out t) (ht:t<=1) (n:ByteArray):zaK (zaf out n):=
 zcb (zb8 h.good n) (by have:=zdw h.good n;have:=h.le;grind) (zcJ n h.small)
theorem Bd.set {out:Parts} {t g:Rat} (h:Bd out t) (n:ByteArray) (hg:0<=g):Bd (setP out n (zbi (zaf out n+g))) (t+g):=by
 have hs:=zb8 h.good n;have h1:0<=zaf out n+g:=McO;refine⟨zhI h.good (zcv h1),zet h.small (zgq _),?_⟩;rw[zmC h.good];have:=zha h1;have:=h.le;grind
theorem Bd.gain {own:Rat} {out:Parts} {t:Rat} {p:ByteArray×Rat} {f:Bool} (h:Bd out t) (ho:0<=own) (hp:0<=p.2):Bd (zfd own p (out,f)).1 (t+own*p.2):=by
 have hm:0<=own*p.2:=Rat.mul_nonneg ho hp;have h1:=h.set p.1 (zcv hm);have h2:=zha hm;exact⟨h1.good,h1.small,by have:=h1.le;grind [zfd]⟩
theorem znJ {out:Parts} (h:GoodParts out) {n:ByteArray} {g:Rat} (hg:0<=g) (hb:bigQ (zaf out n+g)=false):setP out n (zbi (zaf out n+g))=za3 out n g:=by
 rw[zfc hb,zin h hg]
theorem zlr {n:ByteArray} {q:Rat}: ∀ {l:Parts},GoodParts l->0<q->(n,zaf l n+q)∈za3 l n q
 | [],_,hq=>by
   have:(q==0)=false:=by rw[beq_eq_false_iff_ne];grind
   simp[za3,this,zaf,Rat.zero_add]
 |x::l,h,hq=>by
  have gN:(q==0)=false:=by rw[beq_eq_false_iff_ne];grind
  have ht:GoodParts l:=⟨(List.pairwise_cons.1 h.asc).2,fun p hp=>h.pos p MdT⟩
  rw[za3,gN];cases hl:zbo x.1 n
  ·cases hs:zae x.1 n
   ·have aa:zbo n x.1=true:=by
     rcases zds x.1 n with h1|h1|h1
     ·rw[hl]at h1;cases h1
     ·exact absurd h1 (zco.1 hs)
     ·exact h1
    have h0:zaf (x::l) n=0:=(zdF fun p hp=>by
     rcases List.mem_cons.1 hp with rfl|hp
     ·exact(zcG aa).symm
     ·exact(zcG (zb1 aa ((List.pairwise_cons.1 h.asc).1 p hp))).symm).1
    simp[h0,Rat.zero_add]
   ·rw[zbs,hs];simp
  ·rw[zbs,zgj hl];simp only[Bool.false_eq_true,if_false,if_true];exact List.mem_cons_of_mem _ (zlr ht hq)
theorem zfg {out:Parts} (h:GoodParts out) (hs:zaE out=false) {n:ByteArray} {g:Rat} (hg:0<=g):zaE (za3 out n g)=bigQ (zaf out n+g):=by
 by_cases h0:g=0
 ·subst h0;have:za3 out n 0=out:=by cases out<;>simp[za3]
  rw[this,hs,Rat.add_zero,zcJ n hs]
 ·cases hb:bigQ (zaf out n+g)
  ·rw[<-zin h hg];exact zet hs hb
  ·unfold zaE;rw[List.any_eq_true];exact⟨_,zlr h McO,hb⟩
theorem zix {own:Rat} (ho:0<=own): ∀ {l out:Parts},(∀p∈l,0<=p.2)->GoodParts out->zaE out=false->
 (∀o,zb6 own l out=some o->zef own l (out,false)=(o,false))/\(zb6 own l out=none->(zef own l (out,false)).2=true)
 | [],out,_,_,_=>by
   refine⟨fun o h=> ?_,fun h=> ?_⟩
   ·rw[zb6]at h;cases h;rfl
   ·rw[zb6]at h;cases h
 |p::l,out,hp,hg,hs=>by
  have hm:0<=own*p.2:=Rat.mul_nonneg ho (hp p Mco);rw[zb6];show(∀o,_=_->zef own l (zfd own p (out,false))=_)/\(_->(zef own l (zfd own p (out,false))).2=true);cases h1:bigQ (own*p.2)
  ·have dO:zbi (own*p.2)=own*p.2:=zfc h1;have cB:=zfg hg hs (n:=p.1) hm;rw[if_neg Mco];cases h2:bigQ (zaf out p.1+own*p.2)
   ·have e:zfd own p (out,false)=(za3 out p.1 (own*p.2),false):=by
     unfold zfd;simp only[dO,h1,h2,Bool.or_self];rw[znJ hg hm h2]
    rw[cB,h2,if_neg Mco,e];exact zix ho (fun q hq=>hp q MdA) (zbw hm hg) (by rw[cB,h2])
   ·rw[cB,h2,if_pos rfl];refine⟨fun o h=>by(cases h),fun _=>zff ?_⟩;simp[zfd,dO,h2]
  ·rw[if_pos rfl];refine⟨fun o h=>by(cases h),fun _=>zff ?_⟩;simp[zfd,h1]
theorem zmD {own:Rat} (ho:0<=own): ∀ {l out:Parts} {f:Bool} {t:Rat},(∀p∈l,0<=p.2)->Bd out t->Bd (zef own l (out,f)).1 (t+own*sumQ l)
 | [],out,f,t,_,h=>by
   show Bd out (t+own*0);rw[Rat.mul_zero,Rat.add_zero];exact h
 |p::l,out,f,t,hp,h=>by
  have h1:=zmD ho (l:=l) (f:=(zfd own p (out,f)).2) (fun q hq=>hp q MdA) (h.gain (f:=f) ho (hp p Mco));have e:t+own*p.2+own*sumQ l=t+own*sumQ (p::l):=by rw[sumQ];grind
  rw[e]at h1;exact h1
def zcw (hs:Parts) (frm:ByteArray) (tl:Parts):Parts×Bool:=
 zef (zaf hs frm) tl (setP hs frm (zbi (zaf hs frm*(1-sumQ tl))),bigQ (zaf hs frm*(1-sumQ tl)))
theorem zky {hs tl:Parts} {frm:ByteArray} (hg:GoodParts hs) (hl:zaE hs=false) (hp: ∀p∈tl,0<=p.2) (h1:sumQ tl<=1):
 (if bigQ (zaf hs frm*(1-sumQ tl))then none else zb6 (zaf hs frm) tl (za3 (zas hs frm) frm (zaf hs frm*(1-sumQ tl))))=if(zcw hs frm tl).2 then none else some (zcw hs frm tl).1:=by
 have ho:=zb8 hg frm;have hk:0<=zaf hs frm*(1-sumQ tl):=Rat.mul_nonneg ho McO;unfold zcw;cases hb:bigQ (zaf hs frm*(1-sumQ tl))
 ·rw[zfc hb,if_neg Mco];have e:setP hs frm (zaf hs frm*(1-sumQ tl))=za3 (zas hs frm) frm (zaf hs frm*(1-sumQ tl)):=by
   rw[zio hg.asc];split
   ·rename_i h0
    have:zaf hs frm*(1-sumQ tl)=0:=by simpa using h0
    rw[this];cases zas hs frm<;>simp[za3]
   ·rfl
  have aM:=zhI hg (n:=frm) hk;have sB:=zet (n:=frm) hl hb;obtain⟨g1,g2⟩:=zix ho hp aM sB;rw[e]at g1 g2⊢;cases hx:zb6 (zaf hs frm) tl (za3 (zas hs frm) frm (zaf hs frm*(1-sumQ tl)))with
  |none=>rw[g2 hx,if_pos rfl]
  |some o=>rw[g1 o hx,if_neg Mco]
 ·rw[if_pos rfl,zff rfl,if_pos rfl]
theorem zoz: ∀a b:Fin 64,a.val*64+b.val≠0->zcT 12 (a.val*64+b.val)=Lib.ctz 64 (a.val*64+b.val)::zcT 12 ((a.val*64+b.val) &&& (a.val*64+b.val-1)):=by decide+kernel
theorem zo0 (x:Nat) (hx:x<4096) (h0:x≠0):zcT 12 x=Lib.ctz 64 x::zcT 12 (x &&& (x-1)):=by
 have h:=zoz ⟨x/64,by omega⟩ ⟨x%64,by omega⟩;have e:x/64*64+x%64=x:=Mcl;simp only[e]at h;exact h h0
theorem bits_up {n x:Nat} (hn:n<=12) (hx:x<2^n):zcT n x=zcT 12 x:=by
 unfold zcT;have h:List.range 12=List.range n++(List.range (12-n)).map (n+ ·):=by
  rw[<-List.range_add];congr 1
  omega
 rw[h,List.filter_append];have h2:((List.range (12-n)).map (n+ ·)).filter (fun i=>x.testBit i)=[]:=by
  rw[List.filter_eq_nil_iff];intro i hi;obtain⟨j,_,rfl⟩:=List.mem_map.1 hi;have:x.testBit (n+j)=false:=Nat.testBit_lt_two_pow (Nat.lt_of_lt_of_le hx (Nat.pow_le_pow_right Mcn Mcl));rw[this];decide
 rw[h2,List.append_nil]
theorem ziy {n x:Nat} (hx:x<2^n):x &&& (x-1)<2^n:=Nat.lt_of_le_of_lt Nat.and_le_left hx
theorem bits_step {n x:Nat} (hn:n<=12) (hx:x<2^n) (h0:x≠0):zcT n x=Lib.ctz 64 x::zcT n (x &&& (x-1)):=by
 have nv:x<4096:=Nat.lt_of_lt_of_le hx (Nat.pow_le_pow_right (n:=2) Mcn hn);rw[bits_up hn hx,bits_up hn (ziy hx)];exact zo0 x nv h0
theorem bits_none (n:Nat):zcT n 0=[]:=by
 unfold zcT;rw[List.filter_eq_nil_iff];intro i _;simp
theorem zls {x:Nat} (h0:x≠0):x &&& (x-1)<x:=Nat.lt_of_le_of_lt Nat.and_le_right Mcl
end Go.Proofs.YtckkbkdcdkhglaaGreatDoor

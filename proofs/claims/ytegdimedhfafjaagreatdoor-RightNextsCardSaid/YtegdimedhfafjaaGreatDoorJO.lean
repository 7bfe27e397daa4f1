import Derived.Test.YtegdimedhfafjaaGreatDoorJF
import Derived.Deep.RegionHeld3
set_option linter.all false
set_option maxRecDepth 100000
set_option maxHeartbeats 4000000
namespace Go.Proofs.YtegdimedhfafjaaGreatDoor
open Go.RowKit Go.Shelf
attribute [local go_sem] World.cell?_alloc_mark zaf za5 zao za8 zav zaw zax zay zaz za0 za1
attribute [local go_sem] zaq zad
def zfk{α:Type}(w:World)(e:TypeId)(size:Nat)(f:α->List Value)(xs:List α)(en:Ending)(w':World):Prop:=
 ∃v,en=.returned v/\OwnS w' w.heap.size e size f v xs/\Below w.heap.size w w'
theorem zeC(xs:List (ByteArray×Rat))(L:Option Addr)(n lc:Nat)(w:World)(hn:n=xs.length)(hl:xs.length<=100000)(hS:Sl w 3 zaa L xs):
 Calls Tryz.prog 57 #[.slice L n lc] w (zfk w 62 3 zaa xs):=by
 have HM:=zHi hn;have q22:∀(w:World) (a:Option Addr) (n c n' c':Nat),(binOp .eql 26 (.slice a n c) (.slice none n' c')).run Tryz.prog w=.ok (.bool a.isNone) w:=fun w a n c n' c'=>Lib.run_eql_slice_nil w _ _ a n c n' c' Tryz.underlying26
 clear hn;go_enter Tryz.func57,Tryz.ntmps57
 cases L with
 |none=>
  exact MM
 |some ad=>
  go_wp2_with (at_builtin;refine zck rfl _ _ rfl zdQ zan zcd rfl (World.ownsRow_made w #[] 0 (Nat.le_refl _) (Nat.zero_le _) Mcp) rfl HM.o (hS.keep Bw) ?q1 ?q2 Mcp ?_)
  case q1=>simp[maxLen,HM.o];omega
  case q2=>simp[HM.o];omega
  intro v' w' h1 h2 h3;go_wp2_with fail
  go_ret
  refine⟨v',rfl,OwnS.of_own zan MdW,Below.grown Bw h2 Mcp Mc7⟩
theorem zlq(xs:List ByteArray)(L:Option Addr)(n lc:Nat)(w:World)(hn:n=xs.length)(hl:xs.length<=100000)(hS:Sl w 1 sC L xs):
 Calls Tryz.prog 94 #[.slice L n lc] w (zfk w 9 1 sC xs):=by
 have HM:=zHi hn;have q22:∀(w:World) (a:Option Addr) (n c n' c':Nat),(binOp .eql 38 (.slice a n c) (.slice none n' c')).run Tryz.prog w=.ok (.bool a.isNone) w:=fun w a n c n' c'=>Lib.run_eql_slice_nil w _ _ a n c n' c' Tryz.underlying38
 clear hn;go_enter Tryz.func94,Tryz.ntmps94
 cases L with
 |none=>
  exact MM
 |some ad=>
  go_wp2_with (at_builtin;refine zck rfl _ _ rfl zbM zaD zbL rfl (World.ownsRow_made w #[] 0 (Nat.le_refl _) (Nat.zero_le _) Mcp) rfl HM.o (hS.keep Bw) ?q1 ?q2 Mcp ?_)
  case q1=>simp[maxLen,HM.o];omega
  case q2=>simp[HM.o];omega
  intro v' w' h1 h2 h3;go_wp2_with fail
  go_ret
  refine⟨v',rfl,OwnS.of_own zaD MdW,Below.grown Bw h2 Mcp Mc7⟩
def MarkAt(W:World)(C:Nat)(f:Bool):Prop:=W.heap[C]?=some (.cells #[.bool f] 138)
theorem MarkAt.drew{W:World}{C:Nat}{f:Bool}(h:MarkAt W C f):MarkAt W.drew C f:=h
theorem MarkAt.ext{W:World}{C:Nat}{f:Bool}(h:MarkAt W C f)(z:Ez):MarkAt (W.ext z) C f:=zbv h
theorem MarkAt.alloc{W:World}{C:Nat}{f:Bool}(h:MarkAt W C f)(o:Obj):MarkAt (W.alloc o) C f:=zak h
theorem MarkAt.keep{n:Nat}{W W':World}{C:Nat}{f:Bool}(h:MarkAt W C f)(hB:Below n W W')(hn:C<n):MarkAt W' C f:=(hB.block C hn).trans h
theorem MarkAt.grown{W W':World}{C:Nat}{f:Bool}{k:Nat}(h:MarkAt W C f)(hg:W.grownBy W' (some k))(hn:C≠k):MarkAt W' C f:=(hg.block C (zab h) (fun e=>hn MdN)).trans h
theorem zah{n b o:Nat}{w W:World}(h:Below n w W)(hb:b<n):W.cell? ⟨b,o,none⟩=w.cell? ⟨b,o,none⟩:=h.cell (p:=⟨b,o,none⟩) hb
theorem zbc{k b o:Nat}{w W:World}(h:w.grownBy W (some k))(hb:b<w.heap.size)(hk:b≠k):W.cell? ⟨b,o,none⟩=w.cell? ⟨b,o,none⟩:=
 World.cell?_of_block (w:=w) (h.block b hb (fun e=>hk MdN))
def zeD(w:World)(C:Nat)(f:Bool)(r:Rat)(e:Ending)(w':World):Prop:=
 e=.returned (zaC (zbh r))/\MarkAt w' C (f||bigQ r)/\w.grownBy w' (some C)
theorem zlr(w:World)(z:Ez)(row:Option Nat):w.grownBy (w.ext z) row:=zkU (zdC w row) z
theorem zi1{w w':World}{C:Nat}{f:Bool}{r:Rat}{e:Ending}(hC:MarkAt w C f)(h:ze3 w C r e w'):zeD w C f r e w':=by
 unfold MarkAt at hC;rcases h with⟨hd,rfl,z,rfl⟩|⟨hd,rfl,z,rfl⟩
 ·have hb:bigQ r=false:=by unfold bigQ;simp;omega
  refine⟨by rw[zfc hb],?_,zlr _ _ _⟩;rw[hb,Bool.or_false];exact zbv hC
 ·have hb:bigQ r=true:=by unfold bigQ;simp;omega
  refine⟨by unfold zbh;rw[hb];rfl,?_,zkU (zar _ _ _ _) z⟩;rw[hb,Bool.or_true];refine zbv ?_;have:=Joins.block_setCell (i:=0) hC (.bool true);simpa using this
theorem zbV{w:World}{C:Nat}{f:Bool}(hC:MarkAt w C f):w.cell? ⟨C,0,none⟩=some (.bool f)/\C<w.heap.size/\w.frozen? ⟨C,0,none⟩=false:=by
 have h:=zab hC;unfold MarkAt at hC;exact⟨by simp[World.cell?,hC],h,by simp[World.frozen?,hC]⟩
theorem zhJ(C:Nat)(f:Bool)(w:World)(hC:MarkAt w C f)(p q:Rat)(hp:zaJ p)(hq:zaJ q):Calls Tryz.prog 89 #[.pointer (some ⟨C,0,none⟩),zaC p,zaC q] w (zeD w C f (p*q)):=
 (cmul5_any C f w (zbV hC).1 (zbV hC).2.1 (zbV hC).2.2 p q hp hq).mono fun _ _ h=>zi1 hC h
theorem zhK(C:Nat)(f:Bool)(w:World)(hC:MarkAt w C f)(p q:Rat)(hp:zaJ p)(hq:zaJ q):Calls Tryz.prog 90 #[.pointer (some ⟨C,0,none⟩),zaC p,zaC q] w (zeD w C f (p+q)):=
 (cadd5_any C f w (zbV hC).1 (zbV hC).2.1 (zbV hC).2.2 p q hp hq).mono fun _ _ h=>zi1 hC h
theorem znS(C:Nat)(f:Bool)(w:World)(hC:MarkAt w C f)(p q:Rat)(hp:zaJ p)(hq:zaJ q)(h0:0<q):Calls Tryz.prog 91 #[.pointer (some ⟨C,0,none⟩),zaC p,zaC q] w (zeD w C f (p/q)):=
 (cquo5_any C f w (zbV hC).1 (zbV hC).2.1 (zbV hC).2.2 p q hp hq h0).mono fun _ _ h=>zi1 hC h
theorem zi2{base b i T:Nat}{W W':World}{B ps:List Nat}{d c p wl r:Nat}{mv tv:Value}{s:St}{g':Grave}{la co:Int}{cs:Array Value}{fr:Nat×Nat}(hb:base<=b)(hC:WldC W b d c p wl r mv tv la co)(hP:PplAt base W B d c p wl r mv s)(hT:TombsAt base W B tv ps s.graves)
 (hi:ps[i]?=some T)(hx:W.heap[T]?=some (.cells cs 84 fr))(hg:W.grownBy W' (some T))(hN:TombAt W' base B T g'):WldAt base W' b (s.withGrave i g') la co:=by
 have rY:b≠T:=fun e=>by
  subst e;exact MbQ
 have cB:WldC W' b d c p wl r mv tv la co:=(hg.block b (zab hC) (fun e=>rY MdN)).trans hC;refine⟨B,d,c,p,wl,r,mv,tv,ps,hb,cB,?_,?_⟩
 ·have:=hP.kept hg hx Mco Mco Mco;exact⟨this.nd,this.ge,this.dead,this.rows,this.marr,this.wills,this.ren⟩
 ·refine⟨hT.own.kept hg hx Mco,by simp[St.withGrave,hT.len],hT.nd,fun j T' g e1 e2=>?_⟩;simp only[St.withGrave]at e2;by_cases hj:i=j
  ·subst hj;rw[hi]at e1;have eU:i<s.graves.length:=MdM;exact Mbn
  ·exact Map
theorem zev{base:Nat}{W:World}{B ps:List Nat}{tv:Value}{s:St}{place:ByteArray}{day:Int}{i:Nat}(hT:TombsAt base W B tv ps s.graves)(h:zaP s place day=some i):
 ∃T g,ps[i]?=some T/\ps.getD i 0=T/\s.graves[i]?=some g/\s.graves.getD i zgl=g/\TombAt W base B T g/\zaT g day=true:=by
 obtain⟨g,h1,h2,h3⟩:=zcf h;have hi:i<ps.length:=by have:=(List.getElem?_eq_some_iff.1 h1).1;have:=hT.len;omega
 refine⟨ps[i],g,List.getElem?_eq_getElem hi,by rw[List.getD_eq_getElem?_getD,List.getElem?_eq_getElem hi];rfl,h1,zf2 h1,hT.all i _ g (List.getElem?_eq_getElem hi) h1,h3⟩
theorem zi3{W:World}{T:Nat}{cs0 cs1 cs2 cs3 cs4 cs5:Value}{fr:Nat×Nat}(h:W.heap[T]?=some (.cells #[cs0,cs1,cs2,cs3,cs4,cs5] 84 fr))(a0 a1 a2 a3 a4 a5:Value):
 ((((((W.setCell ⟨T,0,none⟩ a0).setCell ⟨T,1,none⟩ a1).setCell ⟨T,2,none⟩ a2).setCell ⟨T,3,none⟩ a3).setCell ⟨T,4,none⟩ a4).setCell ⟨T,5,none⟩ a5).heap[T]?=some (.cells #[a0,a1,a2,a3,a4,a5] 84 fr):=by
 have:=Joins.block_setCell (i:=5) (Joins.block_setCell (i:=4) (Joins.block_setCell (i:=3) (Joins.block_setCell (i:=2) (Joins.block_setCell (i:=1) (Joins.block_setCell (i:=0) h a0) a1) a2) a3) a4) a5;simpa using this
theorem zcc(W:World)(T:Nat)(a0 a1 a2 a3 a4 a5:Value):W.grownBy ((((((W.setCell ⟨T,0,none⟩ a0).setCell ⟨T,1,none⟩ a1).setCell ⟨T,2,none⟩ a2).setCell ⟨T,3,none⟩ a3).setCell ⟨T,4,none⟩ a4).setCell ⟨T,5,none⟩ a5) (some T):=
 zbo (zbo (zbo (zbo (zbo (zar _ _ _ _) (zar _ _ _ _)) (zar _ _ _ _)) (zar _ _ _ _)) (zar _ _ _ _)) (zar _ _ _ _)
def zeE(l:List RPart):Rat:=1-sumQ (zam l)
theorem zls(l:List RPart){k:Nat}(h:k<l.length):zeE (l.take (k+1))=zeE (l.take k)-l[k].rat:=by
 have hs:∀a b:Parts,sumQ (a++b)=sumQ a+sumQ b:=fun a b=>by
  exact Mbi
 unfold zeE;rw[List.take_succ_eq_append_getElem h];unfold zam;rw[List.map_append,hs];simp only[List.map_cons,List.map_nil,sumQ];grind
theorem znT{l:List RPart}(h:∀p∈l,0<p.rat):∀k,0<=sumQ (zam (l.take k))/\sumQ (zam (l.take k))<=sumQ (zam l):=fun k=>by
 have hs:∀a b:Parts,sumQ (a++b)=sumQ a+sumQ b:=fun a b=>by
  exact Mbi
 have hp:∀m:List RPart,(∀p∈m,0<p.rat)->0<=sumQ (zam m):=fun m hm=>zbs fun p hp=>by
  obtain⟨q,hq,rfl⟩:=List.mem_map.1 hp;have:=hm q hq;show 0<=q.rat;grind
 refine⟨hp _ fun p hp=>h p (List.mem_of_mem_take hp),?_⟩;have h2:=hp (l.drop k) fun p hp=>h p (List.mem_of_mem_drop hp)
 have e:zam l=zam (l.take k)++zam (l.drop k):=by
  unfold zam;rw[<-List.map_append,List.take_append_drop]
 rw[e,hs];grind
theorem zi4{l:List RPart}(h:∀p∈l,0<p.rat/\IsN 720720 p.rat/\za9 16 p.num p.den=true):∀k,Fits (zeE (l.take k))
 |0=>by
  show Fits (1-0);rw[show(1:Rat)-0=1 by grind];exact fits_one
 |k+1=>by
  by_cases hk:k<l.length
  ·rw[zls l hk];exact(zi4 h k).sub (zen (h _ (List.getElem_mem hk)).2.2)
  ·rw[show l.take (k+1)=l.take k by rw[List.take_of_length_le Mcm,List.take_of_length_le Mcm]];exact zi4 h k
theorem subS_any(s:Rat)(a b:Int)(W:World)(hs:zaJ s)(h:za9 16 a b=true):Calls Tryz.prog 88 #[.agg #[.int .i64 s.num,.int .i64 s.den],.agg #[.int .i64 a,.int .i64 b]] W (Ret W (zaC (s-Rat.divInt a b))):=by
 obtain⟨h1,h2,h3,h4⟩:=zbk h;have:=zh8 s (Rat.divInt a b) W hs ((zen h).small (Rat.le_trans Mco h3) (Rat.le_trans h4 Mco));unfold zaC at this⊢;rw[h1,h2]at this;exact this
theorem mulS_any(C:Nat)(f:Bool)(w:World)(hC:MarkAt w C f)(p:Rat)(a b:Int)(hp:zaJ p)(h:za9 16 a b=true):Calls Tryz.prog 89 #[.pointer (some ⟨C,0,none⟩),.agg #[.int .i64 p.num,.int .i64 p.den],.agg #[.int .i64 a,.int .i64 b]] w (zeD w C f (p*Rat.divInt a b)):=by
 obtain⟨h1,h2,h3,h4⟩:=zbk h;have:=zhJ C f w hC p (Rat.divInt a b) hp ((zen h).small (Rat.le_trans Mco h3) (Rat.le_trans h4 Mco));unfold zaC at this;rw[h1,h2]at this;exact this
theorem zlt{s:St}{d:Deed}{i:Nat}{g:Grave}(aX:zaP s d.place d.day=some i)(hg:s.graves.getD i zgl=g)(hG:GoodG g)(hp:∀p∈zam d.to,0<=p.2)(h1:sumQ (zam d.to)<=1):
 zbr s d=if g.cls==4 then(s,15)else if zag g.holders d.frm==0 then(s,19)else if zdZ s d.to then(s,28)else
  if(zcu g.holders d.frm (zam d.to)).2 then(s,8)else(s.withGrave i {g with holders:=(zcu g.holders d.frm (zam d.to)).1},0):=by
 have hs:=zkn (frm:=d.frm) hG.good hG.small hp h1;unfold zbr;rw[aX];simp only[hg];cases hb:bigQ (zag g.holders d.frm*(1-sumQ (zam d.to)))
 ·rw[hb]at hs;simp only[Bool.false_eq_true,if_false]at hs⊢;rw[hs];cases(zcu g.holders d.frm (zam d.to)).2<;>rfl
 ·rw[hb]at hs;simp only[if_true]at hs⊢;cases ht:(zcu g.holders d.frm (zam d.to)).2
  ·rw[ht]at hs;simp at hs
  ·rfl
theorem OwnS.base_le{α:Type}{W:World}{base base':Nat}{e:TypeId}{size:Nat}{f:α->List Value}{v:Value}{xs:List α}(h:OwnS W base e size f v xs)(hb:base'<=base):OwnS W base' e size f v xs:=by
 rcases h with h|⟨g,o,cap,cur,rfl,h1,h2⟩
 ·exact .inl h
 ·exact .inr ⟨g,o,cap,cur,rfl,Nat.le_trans hb h1,h2⟩
theorem zjC{a b:Rat}(ha:0<=a)(tV:a<=1)(hb:0<=b)(aU:b<=1):a*b<=1:=by
 have:=Rat.mul_nonneg ha (show 0<=1-b by grind);grind
theorem OwnS.sl'{α:Type}{W:World}{base:Nat}{e:TypeId}{size n c:Nat}{f:α->List Value}{A:Option Addr}{xs:List α}(ag:∀x,(f x).length=size)(h:OwnS W base e size f (.slice A n c) xs):Sl W size f A xs:=by
 obtain⟨A2,c2,e,hs,_⟩:=h.sl ag;cases e;exact hs
theorem OwnS.ro'{α:Type}{W:World}{base:Nat}{e:TypeId}{size n c:Nat}{f:α->List Value}{A:Option Addr}{xs:List α}(h:OwnS W base e size f (.slice A n c) xs):Ro W e f A xs:=by
 obtain⟨A2,c2,e,_,hs⟩:=h.ro;cases e;exact hs
theorem Bd.up{out:Parts}{t u:Rat}(h:Bd out t)(hu:t<=u):Bd out u:=⟨h.good,h.small,Rat.le_trans h.le hu⟩
theorem zi5{g:Grave}{frm:ByteArray}{ts:List RPart}(hG:GoodG g)(h:∀p∈ts,0<p.rat/\IsN 720720 p.rat/\za9 16 p.num p.den=true)(h1:sumQ (zam ts)<=1):
 0<=zag g.holders frm/\zaJ (zag g.holders frm)/\zag g.holders frm<=1/\∀k,Bd (zef (zag g.holders frm) (zam (ts.take k)) (setP g.holders frm (zbh (zag g.holders frm*zeE ts)),bigQ (zag g.holders frm*zeE ts))).1 1:=by
 have ho:=zbB hG.good frm;have bG:=zds hG.good frm;have dQ:sumQ g.holders<=1:=by
  rcases hG.one with h|h
  ·rw[h];decide
  ·rw[h];exact Rat.le_refl
 have aj:=fun k=>znT (fun p hp=>(h p hp).1) (l:=ts) k
 have h0:=(aj 0)
 have FI:0<=sumQ (zam ts):=Rat.le_trans h0.1 h0.2;have hr:0<=zag g.holders frm*zeE ts:=Rat.mul_nonneg ho (by unfold zeE;grind);have hb:Bd (setP g.holders frm (zbh (zag g.holders frm*zeE ts))) (1-zag g.holders frm*sumQ (zam ts)):=by
  refine⟨zhD hG.good (zct hr),zer hG.small (zgr _),?_⟩;rw[zm6 hG.good];have:=zha hr;unfold zeE at*;grind
 refine⟨ho,zcb ho McG (zcF frm hG.small),by grind,fun k=>?_⟩
 have:=zm7 ho (l:=zam (ts.take k)) (f:=bigQ (zag g.holders frm*zeE ts)) (fun p hp=>by
  obtain⟨q,hq,rfl⟩:=List.mem_map.1 hp;have:=(h q (List.mem_of_mem_take hq)).1;show 0<=q.rat
  grind) hb
 refine this.up ?_;have h3:=Rat.mul_nonneg ho (show 0<=sumQ (zam ts)-sumQ (zam (ts.take k)) by have:=(aj k).2;grind);grind
theorem gain_snoc(own:Rat)(ts:List RPart)(x:Parts×Bool){k:Nat}(h:k<ts.length):zef own (zam (ts.take (k+1))) x=zfd own (ts[k].name,ts[k].rat) (zef own (zam (ts.take k)) x):=by
 rw[List.take_succ_eq_append_getElem h];unfold zam;rw[List.map_append,zfe];rfl
theorem rest_none(ts:List RPart):zeE (ts.take 0)=1:=by
 show(1:Rat)-0=1;grind
def zbu(q:Rat):Obj:=.cells #[.int .i64 q.num,.int .i64 q.den] 56
theorem zlu(base b:Nat)(s:St)(la co last:Int)(d:Deed)(B:Option Addr)(c:Nat)(w:World)(hW:WldAt base w b s la co)(jm:GoodSt s last)(hd:OkD d)(hk:d.kind=1)(ag:s.graves.length<=1000)(cx:∀g∈s.graves,g.holders.length<=10000)(ar:d.to.length<=c)(hS:Sl w 3 RPart.cells B d.to):
 Calls Tryz.prog 52 #[.pointer (some ⟨b,0,none⟩),d.v B c] w (zbH base b (zbr s d) la co w):=by
 have hp:=(hd.parts (.inr (.inl hk))).2;obtain⟨bO,dQ,_,_⟩:=zea hp;have bA:=hd.len;clear hp hd hk
 have rL:=fun i g h1 h2 h3=>zlt (s:=s) (d:=d) (i:=i) (g:=g) h1 h2 h3 (fun p hp=>by
  obtain⟨q,hq,rfl⟩:=List.mem_map.1 hp;have:=(bO q hq).1;show 0<=q.rat
  grind) dQ
 have ao:=hW;obtain⟨Bk,dd,cc,pp,wl,rr,mv,tv,ps,b8,hC,hP,hT⟩:=hW;have cu:=zab hC;obtain⟨kd,dy,pl,fr,ts,cl,yr⟩:=d;simp only at*;obtain⟨bX,uA,HW,ji,nr,HC,HP,HS⟩:=yH8 (fun W (hB:Below w.heap.size w W)=>zjB base b s la co pl dy W (hC.keep hB) (hT.keep hB) Mcm) (fun W (hB:Below w.heap.size w W)=>ziu base b s ts B _ c W rfl Mcm (ao.peo.keep hB) (hS.keep hB)) ao bO dQ hC hP hS;cases aX:zaP s pl dy with
 |none=>
  rw[aX]at bX;have HG:Hid (zbr s ⟨kd,dy,pl,fr,ts,cl,yr⟩=(s,6)):=by show _=_;simp[zbr,aX]
  clear aX rL ao hC hP hT hS bO dQ;unfold Deed.v;simp only;go_enter Tryz.func52,Tryz.ntmps52
  exact Mab
 |some i=>
  obtain⟨T,g,ib,iF,aT,bP,gX,kp⟩:=zev hT aX;have rA:=jm.graves g (List.mem_of_getElem? aT);have ss:=cx g (List.mem_of_getElem? aT);have j9:=rL i g aX bP rA;obtain⟨iX,iE,kY,da⟩:=zi5 (frm:=fr) rA bO dQ;have ip:∀W,Below w.heap.size w W->Calls Tryz.prog 31 #[.pointer (some ⟨b,0,none⟩),.string pl,.int .i64 dy] W (Ret W (.pointer (some ⟨T,0,none⟩))):=fun W hB=>by
   have:=bX.o W hB;exact MaM
  have kH:=zHi ip;obtain⟨H,aJ,D,dc,frm,t1,t2,t3,t4,t5,t6,t7⟩:=gX;have cV:=zab t1;obtain⟨eA,qZ,kO,nv,gq,d8,eb,HT⟩:=yH8 t1 t5 t6 t7 j9 da rA hT;have qR:=zHi ib;clear ip bX t1 t5 t6 t7 j9 da rA hT ib iF bP aT kp aX rL jm cx ao hC hP hS bO dQ;obtain⟨gpl,gcl,gfin,ghs,gdi⟩:=g;simp only at*;unfold zbz at eA;have k1:w.cell? ⟨T,1,none⟩=some (.int .i64 gcl):=Md1;have k4:w.cell? ⟨T,4,none⟩=some (.slice H ghs.length aJ):=Md1;obtain⟨own,ae⟩:∃own,own=zag ghs fr:=⟨_,rfl⟩
  have gn:=zHi (fun W (hB:Below w.heap.size w W)=>zes ghs H aJ T fr W ((hB.cell (p:=⟨T,4,none⟩) cV).trans k4) (Nat.lt_of_lt_of_le cV hB.size) Mcm eb.o.good.asc (Ro.sl zan (qZ.o.keep hB)));have IW:=eA;rw[<-ae]at gn iX iE kY d8;have jF:=gq.o;clear gq;simp only[<-ae,numZ]at jF;have gq:=zHi jF;clear jF;have dH:=zHi ae;clear ae;unfold zaC at gn;unfold Deed.v;simp only;go_enter Tryz.func52,Tryz.ntmps52
  go_upto_region 11 with(first
   |(go_at_call 31;refine(kH.o _ Bw).mono ?_;rintro e wq ⟨rfl,z,rfl⟩)
   |(go_at_call 87;refine(gn.o _ Bw).mono ?_;rintro e wq ⟨rfl,z2,rfl⟩)
   |(go_at_call 84;refine(uA.o _ Bw).mono ?_;intro e wq hq;rcases Ret.bools hq with⟨zq,rfl,⟨hb,rfl⟩|⟨hb,rfl⟩⟩<;>clear hq))
  all_goals(try(go_ret;exact zbP HW.o Bw (by rw[gq.o];simp[*];done)))
  have HG:Hid (zbr s ⟨kd,dy,pl,fr,ts,cl,yr⟩=if(zcu ghs fr (zam ts)).2 then(s,8)else(s.withGrave i ⟨gpl,gcl,gfin,(zcu ghs fr (zam ts)).1,gdi⟩,0)):=by
   show _=_;rw[gq.o];simp[*];done
  clear gq kH uA gn;go_cut [5,6,7]from 8 (fun v5 v6 v7 wc=>v5=.pointer (some ⟨T,0,none⟩)/\∃O R,v6=.pointer (some ⟨O,0,none⟩)/\v7=.pointer (some ⟨R,0,none⟩)/\Below w.heap.size w wc/\w.heap.size<O/\O<R/\R<wc.heap.size/\wc.heap[w.heap.size]?=some (.cells #[.int .i64 kd,.int .i64 dy,.string pl,.string fr,.slice B ts.length c,.int .i64 cl,.int .i64 yr] 28)/\wc.heap[O]?=some (zbu own)/\wc.heap[R]?=some (zbu (zeE (ts.take 0))))
  case first=>
   go_wp2_with fail
   go_meet
   refine⟨rfl,_,_,rfl,rfl,Bw,by omega,?_,?_,?_,?_,?_⟩
   ·exact Ma5
   ·exact Ma5
   ·exact Mbr
   ·exact Mbl
   ·rw[rest_none];exact zas _ _ _ MdI
  case rest=>
   obtain⟨rfl,O,R,rfl,rfl,hB,hO,hR,CC,g0,g1,g2⟩:=hcut;obtain⟨d0,d1,d2,d3,d4,d5,d6⟩:=cF7 g0;have D4:=zHi d4;clear d0 d1 d2 d5 d6;go_wp2_with fail
   go_loopw [45] (fun i wr=>∃k:Nat,k<=ts.length/\i=.int .i64 k/\Below w.heap.size w wr/\R<wr.heap.size/\wr.heap[w.heap.size]?=some (.cells #[.int .i64 kd,.int .i64 dy,.string pl,.string fr,.slice B ts.length c,.int .i64 cl,.int .i64 yr] 28)/\wr.heap[O]?=some (zbu own)/\wr.heap[R]?=some (zbu (zeE (ts.take k)))) (fun i _=>ts.length-(intOf i).toNat)
   case atStart=>exact⟨0,Nat.zero_le _,rfl,hB,CC,g0,g1,g2⟩
   case round=>
    clear hB CC g0 g1 g2 d3 d4;obtain⟨k,hk,rfl,hB,CC,g0,g1,g2⟩:=hrel;have dI:=zi4 ji.o k;have aj:=znT (fun p hp=>(ji.o p hp).1) (l:=ts) k;have aV:zaJ (zeE (ts.take k)):=dI.small (by unfold zeE;have:=nr.o;grind) (by unfold zeE;grind);have BO:=zHi aV;clear dI aj aV;by_cases aa:k<ts.length
    ·obtain⟨b',off,rfl,cC,hc⟩:=(HS.o.keep hB).at aa;have gN:=(ji.o ts[k] (List.getElem_mem aa)).2.2;have kZ:=zls ts aa;generalize ts[k]=p at*;obtain⟨pn,pu,pd⟩:=p;generalize zeE (ts.take k)=q at*;have h0:wr.cell? ⟨b',off+k*3,none⟩=some (.string pn):=hc 0 _ rfl;have h1:wr.cell? ⟨b',off+k*3+1,none⟩=some (.int .i64 pu):=hc 1 _ rfl;have h2:wr.cell? ⟨b',off+k*3+2,none⟩=some (.int .i64 pd):=hc 2 _ rfl;obtain⟨pA,BU⟩:=yH2 kZ (fun W=>subS_any q pu pd W BO.o gN);have r0:wr.cell? ⟨R,0,none⟩=some (.int .i64 q.num):=by simp only[World.cell?,g2,zbu];rfl
     have r1:wr.cell? ⟨R,1,none⟩=some (.int .i64 q.den):=by simp only[World.cell?,g2,zbu];rfl
     have r2:wr.frozen? ⟨R,0,none⟩=false:=by simp only[World.frozen?,g2,zbu];rfl
     have r3:wr.frozen? ⟨R,1,none⟩=false:=by simp only[World.frozen?,g2,zbu];rfl
     have au:(k:Int)<(ts.length:Int):=Mcm;have aP:(0:Int)<=(k:Int):=Mcm;have fD:(k:Int)<=(c:Int):=Mcm;have Cz:R≠wr.heap.size:=Mcm;have hOR:O≠R:=Mcm;have hwR:w.heap.size≠R:=Mcm;obtain⟨G0,G1,G2⟩:=yH3 g0 g1 g2;clear hc gN kZ g0 g1 g2;go_wp2_with (go_at_call 88;refine(BU.o _).mono ?_;rintro e wq ⟨rfl,z,rfl⟩;simp only[zaC])
     go_round
     case rel=>
      have g0:=G0.o;have g1:=G1.o;refine⟨k+1,by omega,by go_num,?_,by simp[zaf];omega,by repeat(first|assumption|with_reducible refine zak ?_|with_reducible refine zbv ?_|with_reducible refine J_ne Mcm ?_),by repeat(first|assumption|with_reducible refine zak ?_|with_reducible refine zbv ?_|with_reducible refine J_ne Mcm ?_),?_⟩
      ·exact Bw
      ·rw[pA.o];(repeat(first|with_reducible refine zak ?_|with_reducible refine zbv ?_))
       exact zeo G2.o
     case measure=>simp[intOf];omega
    ·have au:¬(k:Int)<(ts.length:Int):=Mcm;rw[List.take_of_length_le Mcm]at g2;obtain⟨W1,rfl⟩:∃x,x=wr:=⟨_,rfl⟩
     have t1:=(hB.block T cV).trans eA.o;obtain⟨m0,m1,m2,m3,m4,m5⟩:=cF6 t1;have K9:T<W1.heap.size:=zab t1;have JY:T≠W1.heap.size:=Mcm;have CH:T≠W1.heap.size+1:=Mcm;obtain⟨G0,G1,G2,J2⟩:=yH4 g0 g1 g2 t1;have bZ:=zHi (fun W (hW:Below W1.heap.size W1 W)=>zeC ghs H ghs.length aJ W rfl Mcm (Ro.sl zan ((qZ.o.keep hB).keep hW)));clear g0 g1 g2 t1;go_upto_region 19 with fail
     go_cut [11]from 12 (fun v wc2=>v=.pointer (some ⟨W1.heap.size+1,0,none⟩)/\∃hv,MarkAt wc2 W1.heap.size false/\zbz wc2 (W1.heap.size+1) gpl gcl frm gfin hv (.slice D gdi.length dc)/\OwnS wc2 (W1.heap.size+1) 62 3 zaa hv ghs/\Below W1.heap.size W1 wc2)
     case first=>
      go_wp2_with (go_at_call 57
                   refine(bZ.o _ Bw).mono ?_;rintro e wq ⟨hv,rfl,o1,o2⟩;obtain⟨A1,c1,sY,_,_⟩:=o1.sl zan;subst sY;have x1:wq.heap[W1.heap.size+1]?=some (.cells #[.string gpl,.int .i64 gcl,.int .i64 frm,.int .i64 gfin,.slice H ghs.length aJ,.slice D gdi.length dc] 84):=(o2.block _ Mcp).trans (zas _ _ _ Mcp);have x2:MarkAt wq W1.heap.size false:=(o2.block _ Mcr).trans (zak (zas _ _ _ rfl));have x3:=zab x1;have x4:wq.frozen? ⟨W1.heap.size+1,4,none⟩=false:=(by simp only[World.frozen?,x1];rfl)
                   have x5:wq.cell? ⟨W1.heap.size+1,4,none⟩=some (.slice H ghs.length aJ):=(by simp only[World.cell?,x1];rfl)
                   obtain⟨X1,X2,O1,O2⟩:=yH4 x1 x2 o1 o2
                   clear x1 x2 o1 o2)
      go_meet
      have bF:Below W1.heap.size W1 wq:=Below.trans (zac (zac (Below.refl _ _) _) _ Mcp) (O2.o.mono Mcr);refine⟨rfl,_,J_ne Mcm X2.o,zgu (show zbz wq _ gpl gcl frm gfin (.slice H ghs.length aJ) (.slice D gdi.length dc) from X1.o) _,?_,zaL bF Mcp _⟩;refine OwnS.base_le (OwnS.grown O1.o (zar _ _ _ _) (.inr fun e=>?_)) Mcp;have:=(O1.o.ge _ e).1;simp at this;omega
     case rest=>
      obtain⟨rfl,hv,hm,cq,ei,bx⟩:=hcut;have bo:=bx.size;have bs:=zab cq;have e3:wc.cell? ⟨w.heap.size,3,none⟩=some (.string fr):=(zah bx Mcm).trans Md5;have e4:wc.cell? ⟨w.heap.size,4,none⟩=some (.slice B ts.length c):=(zah bx Mcm).trans Md5;have o0:wc.cell? ⟨O,0,none⟩=some (.int .i64 own.num):=(zah bx Mcm).trans Mdm;have o1:wc.cell? ⟨O,1,none⟩=some (.int .i64 own.den):=(zah bx Mcm).trans Mdm;have bV:ts.take k=ts:=List.take_of_length_le Mcm;rw[bV]at BO;generalize hq:zeE ts=q at*;have r0:wc.cell? ⟨R,0,none⟩=some (.int .i64 q.num):=(zah bx Mcm).trans (by simp only[World.cell?,G2.o,zbu];rfl);have r1:wc.cell? ⟨R,1,none⟩=some (.int .i64 q.den):=(zah bx Mcm).trans (by simp only[World.cell?,G2.o,zbu];rfl);obtain⟨HQ,HM,eY,dS,aA⟩:=yH5 hq hm cq ei bx;clear hq hm cq ei bV m0 m1 m2 m3 m4 m5 bZ;go_wp2_with fail
      go_region_held3 (fun w'=>w'.cell? ⟨w.heap.size,3,none⟩=some (.string fr)/\w'.cell? ⟨O,0,none⟩=some (.int .i64 own.num)/\w'.cell? ⟨O,1,none⟩=some (.int .i64 own.den)/\w'.cell? ⟨R,0,none⟩=some (.int .i64 q.num)/\w'.cell? ⟨R,1,none⟩=some (.int .i64 q.den))
       ((refine⟨?_,?_,?_,?_,?_⟩<;>first|assumption|(simp[go_sem,e3,o0,o1,r0,r1];done)))
       (first
         |(go_at_call 89
           go_loud(refine(zhJ W1.heap.size false _ HM.o.drew own q iE BO.o).mono ?_)
           rintro e wq ⟨rfl,m1,m2⟩;have p3:wq.cell? ⟨w.heap.size,3,none⟩=some (.string fr):=(by rw[zbc m2 Mcr Mcm];simpa[go_sem]using e3)
           have p0:wq.cell? ⟨O,0,none⟩=some (.int .i64 own.num):=(by rw[zbc m2 Mcr Mcm];simpa[go_sem]using o0)
           have p1:wq.cell? ⟨O,1,none⟩=some (.int .i64 own.den):=(by rw[zbc m2 Mcr Mcm];simpa[go_sem]using o1)
           have q0:wq.cell? ⟨R,0,none⟩=some (.int .i64 q.num):=(by rw[zbc m2 Mcr Mcm];simpa[go_sem]using r0)
           have q1:wq.cell? ⟨R,1,none⟩=some (.int .i64 q.den):=(by rw[zbc m2 Mcr Mcm];simpa[go_sem]using r1)
           obtain⟨M1,M2⟩:=yH2 m1 m2
           clear m1 m2)
         |(go_at_call 86
           refine(zit (W1.heap.size+1) (W1.heap.size+1) ghs hv gpl gcl frm gfin (.slice D gdi.length dc) fr (zbh (own*q)) _ ?q1 (Nat.le_refl _) ?q2 eb.o.good.asc Mcm).mono ?_
           case q1=>exact(M2.o.block _ Mcr Mcp).trans eY.o
           case q2=>exact OwnS.grown (W:=wc.drew) dS.o M2.o (.inr fun e=>by have:=(dS.o.ge _ e).1;omega)
           rintro e wz ⟨rfl,v',t1,t2,t3,_⟩;have s3:wz.cell? ⟨w.heap.size,3,none⟩=some (.string fr):=(zah t3 Mcm).trans p3;have s0:wz.cell? ⟨O,0,none⟩=some (.int .i64 own.num):=(zah t3 Mcm).trans p0;have s1:wz.cell? ⟨O,1,none⟩=some (.int .i64 own.den):=(zah t3 Mcm).trans p1;have u0:wz.cell? ⟨R,0,none⟩=some (.int .i64 q.num):=(zah t3 Mcm).trans q0;have u1:wz.cell? ⟨R,1,none⟩=some (.int .i64 q.den):=(zah t3 Mcm).trans q1;obtain⟨T1,T2,T3⟩:=yH3 t1 t2 t3
           clear t1 t2 t3))
      have M:=zHi (show MarkAt wz W1.heap.size (bigQ (own*q)) by have:=M1.o.keep T3.o Mcm;simpa using this);have s4:wz.cell? ⟨w.heap.size,4,none⟩=some (.slice B ts.length c):=(zah T3.o Mcm).trans ((zbc M2.o Mcr Mcm).trans (by simpa[go_sem]using e4));have En:=zHi (Below.trans (zaW (zaH aA.o) M2.o (Nat.le_refl _)) (T3.o.mono Mcm));have pX:=zio (n:=fr) (q:=zbh (own*q)) (l:=ghs);have pm:=zHi pX;clear M1 M2 T3 eY dS HM aA e3 e4 o0 o1 r0 r1 p3 p0 p1 q0 q1 s3 s0 s1 u0 u1 pX;go_wp2_with fail
      go_loopw [72] (fun i wr=>∃(k:Nat) (v:Value) (out:Parts) (fl:Bool),k<=ts.length/\i=.int .i64 k/\Hid ((out,fl)=zef own (zam (ts.take k)) (setP ghs fr (zbh (own*q)),bigQ (own*q)))/\Hid (out.length<=ghs.length+1+k)/\MarkAt wr W1.heap.size fl/\zbz wr (W1.heap.size+1) gpl gcl frm gfin v (.slice D gdi.length dc)/\OwnS wr (W1.heap.size+1) 62 3 zaa v out/\Below W1.heap.size W1 wr/\W1.heap.size+1<wr.heap.size) (fun i _=>ts.length-(intOf i).toNat)
      case atStart=>exact⟨0,v',_,_,Nat.zero_le _,rfl,rfl,pm.o,M.o,T1.o,T2.o,En.o,zab T1.o⟩
      case round=>
       clear pm M T1 T2 En s4 bo bs;obtain⟨k2,v,out,fl,pU,rfl,HX,ez,hm,cq,ei,gV,aV⟩:=hrel;obtain⟨A1,c1,rfl,rF,oC⟩:=ei.sl zan;have aS:Below w.heap.size w wr:=hB.trans (gV.mono Mcm);have da:Bd out 1:=by have:=d8.o k2;rw[<-HX.o]at this;exact this
       obtain⟨HD,HM,eY,dS,IG,tk⟩:=yH6 da hm cq ei rF gV;have yS:wr.cell? ⟨W1.heap.size+1,4,none⟩=some (.slice A1 out.length c1):=Mc9;clear hm cq ei rF da;by_cases br:k2<ts.length
       ·obtain⟨b',off,rfl,cC,hc⟩:=(HS.o.keep aS).at br;obtain⟨j8,jU,gN⟩:=ji.o ts[k2] (List.getElem_mem br);have aK:=gain_snoc own ts (setP ghs fr (zbh (own*q)),bigQ (own*q)) br;rw[<-HX.o]at aK;generalize ts[k2]=p at*;obtain⟨pn,pu,pd⟩:=p;obtain⟨_,_,sr0,sr1⟩:=zbk gN;have i0:wr.cell? ⟨b',off+k2*3,none⟩=some (.string pn):=hc 0 _ rfl;have i1:wr.cell? ⟨b',off+k2*3+1,none⟩=some (.int .i64 pu):=hc 1 _ rfl;have i2:wr.cell? ⟨b',off+k2*3+2,none⟩=some (.int .i64 pd):=hc 2 _ rfl;have o0:wr.cell? ⟨O,0,none⟩=some (.int .i64 own.num):=(zah tk.o Mcm).trans Mdm;have o1:wr.cell? ⟨O,1,none⟩=some (.int .i64 own.den):=(zah tk.o Mcm).trans Mdm;have xm:zaJ (zbh (own*Rat.divInt pu pd)):=zcb (zct (Rat.mul_nonneg iX sr0)) (Rat.le_trans (zha (Rat.mul_nonneg iX sr0)) (zjC iX kY sr0 sr1)) (zgr _);obtain⟨dB,qH⟩:=yH2 aK xm;have au:(k2:Int)<(ts.length:Int):=Mcm;have aP:(0:Int)<=(k2:Int):=Mcm;have fD:(k2:Int)<=(c:Int):=Mcm;have FE:O≠wr.heap.size:=Mcm;have wj:O<wr.heap.size:=Mcm;have ue:out.length<=90000:=by have:=ez.o;omega
        clear hc aK xm j8 jU sr0 sr1
        go_wp2_with (go_at_call 89
                     refine(mulS_any W1.heap.size fl _ (HM.o.alloc _) own pu pd iE gN).mono ?_;rintro e wq ⟨rfl,m1,m2⟩;have ic:=m2.size;have y0:wq.heap[wr.heap.size]?=some (.cells #[.string pn,.int .i64 pu,.int .i64 pd] 62):=(m2.block _ Mcp Mcr).trans (zas _ _ _ rfl);have y1:wq.cell? ⟨wr.heap.size,0,none⟩=some (.string pn):=(by simp only[World.cell?,y0];rfl)
                     have y3:wr.heap.size<wq.heap.size:=zab y0;obtain⟨M1,M2⟩:=yH2 m1 m2;clear m1 m2 y0
                     simp only[zaC])
        have wg:OwnS wq (W1.heap.size+1) 62 3 zaa (.slice A1 out.length c1) out:=OwnS.grown (W:=wr.alloc _) (dS.o.keep (n:=wr.heap.size) (zac (Below.refl _ _) _)) M2.o (.inr fun e=>by have:=(dS.o.ge _ e).1;omega);have lZ:zbz wq (W1.heap.size+1) gpl gcl frm gfin (.slice A1 out.length c1) (.slice D gdi.length dc):=(M2.o.block _ Mcr Mcp).trans (zak eY.o);have nP:wq.cell? ⟨W1.heap.size+1,4,none⟩=some (.slice A1 out.length c1):=by unfold zbz at lZ;simp only[World.cell?,lZ];rfl
        have bu:W1.heap.size+1<wq.heap.size:=zab lZ;obtain⟨OQ,TQ⟩:=yH2 wg lZ;have mS:zaJ (zag out pn):=HD.o.share Rat.le_refl pn;generalize eD:zbh (own*Rat.divInt pu pd)=gt at*;generalize nL:zag out pn=sv at*;obtain⟨uV,gn,eK⟩:=yH3 eD nL mS;have kB:wr.heap.size≠wq.heap.size:=Mcm;have Ho:W1.heap.size+1≠wq.heap.size:=Mcm;clear wg lZ mS eD nL i0 i1 i2 o0 o1;go_region_held3 (fun w'=>w'.cell? ⟨wr.heap.size,0,none⟩=some (.string pn)/\w'.cell? ⟨wq.heap.size,0,none⟩=some (.int .i64 gt.num)/\w'.cell? ⟨wq.heap.size,1,none⟩=some (.int .i64 gt.den))
         ((refine⟨?_,?_,?_⟩<;>first|assumption|(simp[go_sem,y1,y3];done)))
         (first
           |(go_at_call 87
             go_loud(refine(zes out A1 c1 (W1.heap.size+1) pn _ ?q1 ?q2 Mcm HD.o.good.asc (Sl.keep (OQ.o.sl' zan) (n:=wq.heap.size) Bw)).mono ?_)
             case q1=>simp[go_sem,nP,bu]
             case q2=>simp;omega
             rintro e w5 ⟨rfl,zs,rfl⟩;rw[gn.o]
             simp only[zaC])
           |(go_at_call 90
             go_loud(refine(zhK W1.heap.size (fl||bigQ (own*Rat.divInt pu pd)) _ ?q3 sv gt eK.o qH.o).mono ?_)
             case q3=>(repeat(first|exact M1.o|refine MarkAt.ext ?_ _|refine MarkAt.drew ?_|refine MarkAt.alloc ?_ _))
             rintro e w6 ⟨rfl,n1,n2⟩;have p3:w6.cell? ⟨wr.heap.size,0,none⟩=some (.string pn):=MdB;have p0:w6.cell? ⟨wq.heap.size,0,none⟩=some (.int .i64 gt.num):=McY;have p1:w6.cell? ⟨wq.heap.size,1,none⟩=some (.int .i64 gt.den):=McY;obtain⟨N1,N2⟩:=yH2 n1 n2;clear n1 n2
             simp only[zaC])
           |(go_at_call 86
             go_loud(refine(zit (W1.heap.size+1) (W1.heap.size+1) out (.slice A1 out.length c1) gpl gcl frm gfin (.slice D gdi.length dc) pn (zbh (sv+gt)) _ ?q4 (Nat.le_refl _) ?q5 HD.o.good.asc ue).mono ?_)
             case q4=>exact(N2.o.block _ Mcv Mcp).trans Mdr
             case q5=>exact OwnS.grown (OQ.o.keep (n:=wq.heap.size) Bw) N2.o (.inr fun e=>by have:=(OQ.o.ge _ e).1;omega)
             rintro e wz ⟨rfl,v',t1,t2,t3,t4⟩;have s3:wz.cell? ⟨wr.heap.size,0,none⟩=some (.string pn):=(World.cell?_of_block (w:=w6) (t4 wr.heap.size McU Mcm (fun e=>by have:=(dS.o.ge _ e).2;omega))).trans p3;have s0:wz.cell? ⟨wq.heap.size,0,none⟩=some (.int .i64 gt.num):=(World.cell?_of_block (w:=w6) (t4 wq.heap.size McU Mcm (fun e=>by have:=(dS.o.ge _ e).2;omega))).trans p0;have s1:wz.cell? ⟨wq.heap.size,1,none⟩=some (.int .i64 gt.den):=(World.cell?_of_block (w:=w6) (t4 wq.heap.size McU Mcm (fun e=>by have:=(dS.o.ge _ e).2;omega))).trans p1;obtain⟨T1,T2,T3⟩:=yH3 t1 t2 t3
             clear t1 t2 t3))
        have Ba:Hid (zfd own (pn,Rat.divInt pu pd) (out,fl)=(setP out pn (zbh (sv+gt)),fl||bigQ (own*Rat.divInt pu pd)||bigQ (sv+gt))):=by
         show _=_;unfold zfd;simp only[uV.o,gn.o]
        have cA:MarkAt wz W1.heap.size (fl||bigQ (own*Rat.divInt pu pd)||bigQ (sv+gt)):=N1.o.keep T3.o Mcm;have Bz:=zHi cA;have iC:=zio (n:=pn) (q:=zbh (sv+gt)) (l:=out);have fX:=zHi iC;have fj:Below W1.heap.size W1 wz:=by
         have h1:Below W1.heap.size W1 wq:=zaW (zac tk.o _) M2.o (Nat.le_refl _);have h2:Below W1.heap.size W1 w6:=zaW (W:=((wq.alloc (.cells #[.int .i64 gt.num,.int .i64 gt.den] 56)).drew).ext zs) Bw N2.o (Nat.le_refl _);exact h2.trans (T3.o.mono Mcm)
        have fA:=zHi fj;have cZ:=zab T1.o;clear cA iC fj p3 p0 p1 s3 s0 s1 y1;go_wp2_with fail
        go_round
        case rel=>
         have pR:=Ba.o.symm.trans dB.o.symm;have pY:(setP out pn (zbh (sv+gt))).length<=ghs.length+1+(k2+1):=by have:=fX.o;have:=ez.o;omega
         (repeat apply Exists.intro)
         exact⟨⟨k2+1,v',setP out pn (zbh (sv+gt)),_,by omega,by go_num,pR,pY,Bz.o,T1.o,T2.o,fA.o,cZ⟩,rfl⟩
        case measure=>simp[intOf];omega
       ·have au:¬(k2:Int)<(ts.length:Int):=Mcm;have nO:(out,fl)=zcu ghs fr (zam ts):=by
         rw[HX.o,List.take_of_length_le Mcm];unfold zcu;rw[<-dH.o,show(1:Rat)-sumQ (zam ts)=q from HQ.o]
        have jt:=(aS.block T cV).trans eA.o;obtain⟨mY,aW⟩:=yH2 jt aS;have gC:wr.cell? ⟨W1.heap.size,0,none⟩=some (.bool fl):=(zbV HM.o).1;have fL:=HG.o;rw[<-nO]at fL;clear nO HX d8 eb aS;cases fl
        ·have tA:=zHi fL;have cq:=eY.o;unfold zbz at cq;obtain⟨n0,n1,n2,n3,-,n5⟩:=cF6 cq;obtain⟨z0,z1,z2,z3,z4,z5⟩:=cF6 jt;have fz:∀j,wr.frozen? ⟨T,j,none⟩=false:=fun j=>by simp only[World.frozen?,jt];rfl
         clear fL cq jt;go_wp2_with fail
         go_ret
         have aS:=aW.o;have dX:Ro wr 62 zaa A1 out:=dS.o.ro';have hN:TombAt ((((((wr.setCell ⟨T,0,none⟩ (.string gpl)).setCell ⟨T,1,none⟩ (.int .i64 gcl)).setCell ⟨T,2,none⟩ (.int .i64 frm)).setCell ⟨T,3,none⟩ (.int .i64 gfin)).setCell ⟨T,4,none⟩ (.slice A1 out.length c1)).setCell ⟨T,5,none⟩ (.slice D gdi.length dc)) base Bk T ⟨gpl,gcl,gfin,out,gdi⟩:=
          ⟨A1,c1,D,dc,frm,zi3 mY.o _ _ _ _ _ _,t2,oC,t4,dX.kept (zcc _ _ _ _ _ _ _ _) mY.o Mco,(kO.o.keep aS).kept (zcc _ _ _ _ _ _ _ _) mY.o Mco,nv.o⟩
         have aj:=zi2 b8 (HC.o.keep aS) (HP.o.keep aS) (HT.o.keep aS) qR.o mY.o (zcc wr T _ _ _ _ _ _) hN;have cP:Below base w wr:=aS.mono Mcm;have js:=zaW cP (zcc wr T (.string gpl) (.int .i64 gcl) (.int .i64 frm) (.int .i64 gfin) (.slice A1 out.length c1) (.slice D gdi.length dc)) t2 Mcm;have bf:zbr s ⟨kd,dy,pl,fr,ts,cl,yr⟩=(s.withGrave i ⟨gpl,gcl,gfin,out,gdi⟩,0):=tA.o.trans (if_neg Mcp);exact MaO
        ·exact MaR
theorem tomb_set3{W:World}{T:Nat}{pl:ByteArray}{cl fr en:Int}{v dv:Value}{cs3:Int}(h:zbz W T pl cl fr en v dv):zbz (W.setCell ⟨T,3,none⟩ (.int .i64 cs3)) T pl cl fr cs3 v dv:=by
 unfold zbz at*;have:=Joins.block_setCell (i:=3) h (.int .i64 cs3);simpa using this
theorem zmK(base b:Nat)(s:St)(la co last:Int)(d:Deed)(B:Option Addr)(c:Nat)(w:World)(hW:WldAt base w b s la co)(hL:LensIn w)(hd:OkD d)(ag:s.graves.length<=1000)(bM:∀g∈s.graves,g.fin<=200000):
 Calls Tryz.prog 54 #[.pointer (some ⟨b,0,none⟩),d.v B c] w (zbH base b (zcV s d) la co w):=by
 have dV:=hd.years;clear hd;have ao:=hW;obtain⟨Bk,dd,cc,pp,wl,rr,mv,tv,ps,b8,hC,hP,hT⟩:=hW;have cu:=zab hC;obtain⟨kd,dy,pl,fr,ts,cl,yr⟩:=d;simp only at*;obtain⟨bX,HW,HC,HP⟩:=yH4 (fun W (hB:Below w.heap.size w W)=>zjB base b s la co pl dy W (hC.keep hB) (hT.keep hB) Mcm) ao hC hP;cases aX:zaP s pl dy with
 |none=>
  rw[aX]at bX;have HG:Hid (zcV s ⟨kd,dy,pl,fr,ts,cl,yr⟩=(s,6)):=by show _=_;simp[zcV,aX]
  clear aX ao hC hP hT hL;unfold Deed.v;simp only;go_enter Tryz.func54,Tryz.ntmps54
  exact Mab
 |some i=>
  obtain⟨T,g,ib,iF,aT,bP,gX,kp⟩:=zev hT aX;have KI:=bM g (List.mem_of_getElem? aT);have ip:∀W,Below w.heap.size w W->Calls Tryz.prog 31 #[.pointer (some ⟨b,0,none⟩),.string pl,.int .i64 dy] W (Ret W (.pointer (some ⟨T,0,none⟩))):=fun W hB=>by
   have:=bX.o W hB;exact MaM
  have kH:=zHi ip;obtain⟨H,aJ,D,dc,frm,t1,t2,t3,t4,t5,t6,t7⟩:=gX;have cV:=zab t1;obtain⟨gpl,gcl,gfin,ghs,gdi⟩:=g;simp only at*;have j9:zcV s ⟨kd,dy,pl,fr,ts,cl,yr⟩=if decide (gfin<0)then(s,15)else if decide (zce gfin yr<0)then(s,2)else(s.withGrave i ⟨gpl,gcl,zce gfin yr,ghs,gdi⟩,0):=by
   unfold zcV;simp only[aX,bP]
  obtain⟨eA,qZ,kO,nv,gq,HT,qR⟩:=yH7 t1 t5 t6 t7 j9 hT ib;unfold zbz at t1;obtain⟨-,-,-,k3⟩:=cF4 t1;have fz:∀j,w.frozen? ⟨T,j,none⟩=false:=fun j=>by simp only[World.frozen?,t1];rfl
  have am:=zHi (fun W (hB:Below w.heap.size w W) (h0:0<=gfin)=>zjA gfin yr W (hL.keep hB) h0 KI dV.1 dV.2);clear ip bX t1 t5 t6 t7 j9 hT ib iF bP aT kp aX ao hC hP hL bM;unfold Deed.v;simp only;go_enter Tryz.func54,Tryz.ntmps54
  by_cases oR:gfin<0
  ·go_wp2_with (go_at_call 31;refine(kH.o _ Bw).mono ?_;rintro e wq ⟨rfl,z,rfl⟩)
   go_ret
   exact zbP HW.o Bw (by rw[gq.o];simp[oR])
  ·have cS:0<=gfin:=Mcm;go_upto_region 6 with(go_at_call 31;refine(kH.o _ Bw).mono ?_;rintro e wq ⟨rfl,z,rfl⟩)
   generalize hR:zce gfin yr=R at*
   (refine zaj Mcn Mcn ?_
    repeat(first|go_big_quiet_skip|(go_big_quiet_want;go_big_quiet_op;first|go_big_quiet_on|(apply Exists.intro;refine⟨fun _=>?_,?_⟩;(go_at_call 85;exact quietx (am.o _ Bw cS));go_big_quiet_on)))
    refine wpQuiet_nil ?_
    rintro _ ⟨zq,rfl⟩)
   by_cases Cz:R<0
   ·go_wp2_with fail
    go_ret
    exact zbP HW.o Bw (by rw[gq.o];simp[oR,Cz])
   ·go_wp2_with fail
    go_ret
    have bf:zcV s ⟨kd,dy,pl,fr,ts,cl,yr⟩=(s.withGrave i ⟨gpl,gcl,R,ghs,gdi⟩,0):=by rw[gq.o];simp[show¬gfin<0 by omega,show¬R<0 by omega]
    rw[bf];obtain⟨Z,hZ⟩:∃Z,Z=((w.alloc (.cells #[.int .i64 kd,.int .i64 dy,.string pl,.string fr,.slice B ts.length c,.int .i64 cl,.int .i64 yr] 28)).ext z).ext zq:=⟨_,rfl⟩
    have eP:Below w.heap.size w Z:=by rw[hZ];exact Bw
    have wE:=(eP.block T cV).trans eA.o;have hN:TombAt (Z.setCell ⟨T,3,none⟩ (.int .i64 R)) base Bk T ⟨gpl,gcl,R,ghs,gdi⟩:=⟨H,aJ,D,dc,frm,tomb_set3 (show zbz Z T gpl gcl frm gfin _ _ from wE),t2,t3,t4,(qZ.o.keep eP).kept (zar Z T 3 _) wE Mco,(kO.o.keep eP).kept (zar Z T 3 _) wE Mco,nv.o⟩
    have aj:=zi2 b8 (HC.o.keep eP) (HP.o.keep eP) (HT.o.keep eP) qR.o wE (zar Z T 3 (.int .i64 R)) hN;have cP:Below base w (Z.setCell ⟨T,3,none⟩ (.int .i64 R)):=zaL (eP.mono Mcm) t2 _;have hE:Z.setCell ⟨T,3,none⟩ (.int .i64 R)=(((w.setCell ⟨T,3,none⟩ (.int .i64 R)).alloc (.cells #[.int .i64 kd,.int .i64 dy,.string pl,.string fr,.slice B ts.length c,.int .i64 cl,.int .i64 yr] 28)).ext z).ext zq:=by
     rw[hZ,zaq _ _ _ _ _ Mcv,zaq _ _ _ _ _ Mcr,zad _ _ _ _ _ cV]
    have bQ:=(KeepD.below eP).trans (KeepD.cells (zar Z T 3 (.int .i64 R)) wE Mco);rw[hE]at aj cP bQ;exact⟨rfl,aj,cP,bQ⟩
def surF(frm:ByteArray)(left:Rat):Parts->Parts×Bool->Parts×Bool
 | [],x=>x
 |p::l,x=>surF frm left l (if zae p.1 frm then x else(x.1++[(p.1,zbh (p.2/left))],x.2||bigQ (p.2/left)))
theorem zi6(frm:ByteArray)(left:Rat):∀(a b:Parts) (x:Parts×Bool),surF frm left (a++b) x=surF frm left b (surF frm left a x)
 | [],_,_=>rfl
 |p::a,b,x=>zi6 frm left a b _
theorem surF_snoc(frm:ByteArray)(left:Rat)(hs:Parts)(x:Parts×Bool){k:Nat}(h:k<hs.length):surF frm left (hs.take (k+1)) x=if zae hs[k].1 frm then surF frm left (hs.take k) x else((surF frm left (hs.take k) x).1++[(hs[k].1,zbh (hs[k].2/left))],(surF frm left (hs.take k) x).2||bigQ (hs[k].2/left)):=by
 rw[List.take_succ_eq_append_getElem h,zi6];rfl
theorem zi7(frm:ByteArray)(left:Rat):∀(hs out:Parts) (f:Bool),(surF frm left hs (out,f)).2=(f||zaF ((zat hs frm).map fun p=>(p.1,p.2/left)))/\
 ((surF frm left hs (out,f)).2=false->(surF frm left hs (out,f)).1=out++(zat hs frm).map fun p=>(p.1,p.2/left))
 | [],out,f=>by simp[surF,zat,zaF]
 |p::hs,out,f=>by
  rw[surF];cases hp:zae p.1 frm
  ·have e:zat (p::hs) frm=p::zat hs frm:=by unfold zat;rw[List.filter_cons,hp];rfl
   obtain⟨h1,h2⟩:=zi7 frm left hs (out++[(p.1,zbh (p.2/left))]) (f||bigQ (p.2/left));simp only[Bool.false_eq_true,if_false];rw[e,List.map_cons];refine⟨by rw[h1];unfold zaF;rw[List.any_cons,Bool.or_assoc],fun h=>?_⟩;rw[h2 h];rw[h1,Bool.or_eq_false_iff,Bool.or_eq_false_iff]at h;rw[zfc h.1.2];simp
  ·have e:zat (p::hs) frm=zat hs frm:=by unfold zat;rw[List.filter_cons,hp];rfl
   simp only[if_true];rw[e];exact zi7 frm left hs out f
theorem zku(frm:ByteArray)(left:Rat):∀(hs out:Parts) (f:Bool),(surF frm left hs (out,f)).1.length<=out.length+hs.length
 | [],out,f=>by simp[surF]
 |p::hs,out,f=>by
  rw[surF];split
  ·have:=zku frm left hs out f;simp;omega
  ·have:=zku frm left hs (out++[(p.1,zbh (p.2/left))]) (f||bigQ (p.2/left));simp at this⊢;omega
theorem zkv{s:St}{d:Deed}{i:Nat}{g:Grave}(aX:zaP s d.place d.day=some i)(hg:s.graves.getD i zgl=g):
 zba s d=if zag g.holders d.frm==0 then(s,19)else if(surF d.frm (1-zag g.holders d.frm) g.holders ([],false)).2 then(s,8)else
  (s.withGrave i {g with holders:=(surF d.frm (1-zag g.holders d.frm) g.holders ([],false)).1},0):=by
 obtain⟨h1,h2⟩:=zi7 d.frm (1-zag g.holders d.frm) g.holders [] false;unfold zba;rw[aX];simp only[hg];rw[Bool.false_or]at h1;rw[<-h1];cases hf:(surF d.frm (1-zag g.holders d.frm) g.holders ([],false)).2
 ·have:=h2 hf;rw[List.nil_append]at this;rw[<-this]
 ·rfl
theorem zlv{g:Grave}{frm:ByteArray}(hG:GoodG g)(ai:zag g.holders frm≠0):zaJ (zag g.holders frm)/\zaJ (1-zag g.holders frm)/\0<=1-zag g.holders frm/\
 ∀p∈g.holders,zae p.1 frm=false->0<1-zag g.holders frm/\zaJ p.2:=by
 have ho:=zbB hG.good frm;have bG:=zds hG.good frm;have dQ:sumQ g.holders=1:=by
  rcases hG.one with h|h
  ·exact absurd h (zdh ai)
  ·exact h
 have hb:=zcF frm hG.small;have pV:zag g.holders frm<=1:=McG;have dt:=zcb ho pV hb;have bF:bigQ (1-zag g.holders frm)=false:=by
  have hI:IsN (zag g.holders frm).den (zag g.holders frm):=⟨(zag g.holders frm).num,by
   generalize zag g.holders frm=q;have h1:q=q.num/(q.den:Int):=by rw[<-Rat.divInt_eq_div,Rat.num_divInt_den]
   have h2:((q.den:Int):Rat)≠0:=ratI (by have:=q.den_pos;omega);rw[Rat.intCast_natCast]at h1 h2;conv=>lhs;rw[h1]
   grind⟩
  exact zeu (zag g.holders frm).den_pos dt.2 (zgX (zgY _) hI)
 refine⟨dt,zcb McG McG bF,by grind,fun p hp hs=>?_⟩;have sN:=hG.good.pos p hp;have gN:p∈zat g.holders frm:=List.mem_filter.2 ⟨hp,by rw[hs];rfl⟩;have h1:=zcg (n:=frm) hG.good;have h2:=zgV (l:=zat g.holders frm) (fun q hq=>by have:=(zbK hG.good (n:=frm)).pos q hq;grind) p gN;refine⟨by grind,zcb McG McG ?_⟩;have:=hG.small;unfold zaF at this;rw[List.any_eq_false]at this;simpa using this p hp
theorem sl_part{w:World}{b:Nat}{p:ByteArray×Rat}{t:TypeId}{fr:Nat×Nat}(h:w.heap[b]?=some (.cells #[.string p.1,.int .i64 p.2.num,.int .i64 p.2.den] t fr)):Sl w 3 zaa (some ⟨b,0,none⟩) [p]:=fun _=>⟨b,0,rfl,zab h,fun k y hy j u hu=>by
 have hk:k=0:=Mcy;subst hk;simp only[List.getElem?_cons_zero,Option.some.injEq]at hy;subst hy;match j,hu with
 |0,hu=>simp[zaa]at hu;simp[World.cell?,h,<-hu]
 |1,hu=>simp[zaa]at hu;simp[World.cell?,h,<-hu]
 |2,hu=>simp[zaa]at hu;simp[World.cell?,h,<-hu]
 |j+3,hu=>simp[zaa]at hu⟩
theorem sub1_any(q:Rat)(W:World)(hq:zaJ q):Calls Tryz.prog 88 #[.agg #[.int .i64 1,.int .i64 1],.agg #[.int .i64 q.num,.int .i64 q.den]] W (Ret W (zaC (1-q))):=
 zh8 1 q W ⟨by decide,by decide⟩ hq
theorem zkw(base b:Nat)(s:St)(la co last:Int)(d:Deed)(B:Option Addr)(c:Nat)(w:World)(hW:WldAt base w b s la co)(jm:GoodSt s last)(ag:s.graves.length<=1000)(cx:∀g∈s.graves,g.holders.length<=10000):
 Calls Tryz.prog 53 #[.pointer (some ⟨b,0,none⟩),d.v B c] w (zbH base b (zba s d) la co w):=by
 have rL:=fun i g h1 h2=>zkv (s:=s) (d:=d) (i:=i) (g:=g) h1 h2
 have ao:=hW;obtain⟨Bk,dd,cc,pp,wl,rr,mv,tv,ps,b8,hC,hP,hT⟩:=hW;have cu:=zab hC;obtain⟨kd,dy,pl,fr,ts,cl,yr⟩:=d;simp only at*;obtain⟨bX,HW,HC,HP⟩:=yH4 (fun W (hB:Below w.heap.size w W)=>zjB base b s la co pl dy W (hC.keep hB) (hT.keep hB) Mcm) ao hC hP;cases aX:zaP s pl dy with
 |none=>
  rw[aX]at bX;have HG:Hid (zba s ⟨kd,dy,pl,fr,ts,cl,yr⟩=(s,6)):=by show _=_;simp[zba,aX]
  clear aX rL ao hC hP hT;unfold Deed.v;simp only;go_enter Tryz.func53,Tryz.ntmps53
  exact Mab
 |some i=>
  obtain⟨T,g,ib,iF,aT,bP,gX,kp⟩:=zev hT aX;have rA:=jm.graves g (List.mem_of_getElem? aT);have ss:=cx g (List.mem_of_getElem? aT);have j9:=rL i g aX bP;have ip:∀W,Below w.heap.size w W->Calls Tryz.prog 31 #[.pointer (some ⟨b,0,none⟩),.string pl,.int .i64 dy] W (Ret W (.pointer (some ⟨T,0,none⟩))):=fun W hB=>by
   have:=bX.o W hB;exact MaM
  have kH:=zHi ip;obtain⟨H,aJ,D,dc,frm,t1,t2,t3,t4,t5,t6,t7⟩:=gX;have cV:=zab t1;obtain⟨eA,qZ,kO,nv,gq,eb,HT,qR⟩:=yH8 t1 t5 t6 t7 j9 rA hT ib;clear ip bX t1 t5 t6 t7 j9 rA hT ib iF bP aT kp aX rL jm cx ao hC hP;obtain⟨gpl,gcl,gfin,ghs,gdi⟩:=g;simp only at*;unfold zbz at eA;have k4:w.cell? ⟨T,4,none⟩=some (.slice H ghs.length aJ):=Md1;obtain⟨own,ae⟩:∃own,own=zag ghs fr:=⟨_,rfl⟩
  have gn:=zHi (fun W (hB:Below w.heap.size w W)=>zes ghs H aJ T fr W ((hB.cell (p:=⟨T,4,none⟩) cV).trans k4) (Nat.lt_of_lt_of_le cV hB.size) Mcm eb.o.good.asc (Ro.sl zan (qZ.o.keep hB)));have sV:own≠0->_:=fun h=>zlv eb.o (frm:=fr) (by rw[<-ae];exact h)
  have eK:=zHi sV;rw[<-ae]at gn eK;have jF:=gq.o;clear gq sV;simp only[<-ae,numZ]at jF;have gq:=zHi jF;clear jF;have dH:=zHi ae;clear ae;unfold zaC at gn;unfold Deed.v;simp only;go_enter Tryz.func53,Tryz.ntmps53
  go_upto_region 7 with(first
   |(go_at_call 31;refine(kH.o _ Bw).mono ?_;rintro e wq ⟨rfl,z,rfl⟩)
   |(go_at_call 87;refine(gn.o _ Bw).mono ?_;rintro e wq ⟨rfl,z2,rfl⟩))
  all_goals(try(go_ret;exact zbP HW.o Bw (by rw[gq.o];simp[*];done)))
  have uy:(own.num==0)=false:=Mc2;have yb:own≠0:=fun e=>by rw[e]at uy;exact absurd uy Mco
  obtain⟨iE,xK,jD,ej⟩:=eK.o yb;have HG:Hid (zba s ⟨kd,dy,pl,fr,ts,cl,yr⟩=if(surF fr (1-own) ghs ([],false)).2 then(s,8)else(s.withGrave i ⟨gpl,gcl,gfin,(surF fr (1-own) ghs ([],false)).1,gdi⟩,0)):=by
   show _=_;rw[gq.o];simp[*];done
  have kM:=zHi ej;clear gq kH gn eK ej;generalize kX:1-own=lf at*;have zo:=zHi kX;clear kX;go_cut [5,6,7]from 8 (fun v5 v6 v7 wc=>v5=.pointer (some ⟨T,0,none⟩)/\∃O C,v6=.pointer (some ⟨O,0,none⟩)/\v7=.pointer (some ⟨C,0,none⟩)/\Below w.heap.size w wc/\w.heap.size<O/\O<C/\C+1=wc.heap.size/\wc.heap[w.heap.size]?=some (.cells #[.int .i64 kd,.int .i64 dy,.string pl,.string fr,.slice B ts.length c,.int .i64 cl,.int .i64 yr] 28)/\wc.heap[O]?=some (zbu own)/\MarkAt wc C false)
  case first=>
   go_wp2_with fail
   go_meet
   refine⟨rfl,_,_,rfl,rfl,Bw,by omega,?_,?_,?_,?_,?_⟩
   ·exact Ma5
   ·exact Ma5
   ·exact Mbr
   ·exact Mbl
   ·exact zas _ _ _ MdI
  case rest=>
   obtain⟨rfl,O,C,rfl,rfl,hB,hO,hC,hCs,g0,g1,hm⟩:=hcut;obtain⟨W0,rfl⟩:∃x,x=wc:=⟨_,rfl⟩
   have t1:=(hB.block T cV).trans eA.o;obtain⟨m0,m1,m2,m3,m4,m5⟩:=cF6 t1;have K9:T<W0.heap.size:=zab t1;have JY:T≠W0.heap.size:=Mcm;have o0:W0.cell? ⟨O,0,none⟩=some (.int .i64 own.num):=by simp only[World.cell?,g1,zbu];rfl
   have o1:W0.cell? ⟨O,1,none⟩=some (.int .i64 own.den):=by simp only[World.cell?,g1,zbu];rfl
   have wj:O<W0.heap.size:=Mcm;have FE:O≠W0.heap.size:=Mcm;obtain⟨G0,HM,J2,eJ⟩:=yH4 g0 hm t1 (fun W=>sub1_any own W iE);rw[zo.o]at eJ;clear g0 g1 t1 hm;go_wp2_with (go_at_call 88;refine(eJ.o _).mono ?_;rintro e wq ⟨rfl,z,rfl⟩;simp only[zaC])
   generalize hLL:W0.heap.size+1+z.os.size=L at*;have lH:=zHi hLL;have zU:W0.heap.size<L:=Mcm;clear hLL m0 m1 m2 m3 m4 m5 o0 o1;go_loopw [39] (fun i wr=>∃(k:Nat) (v:Value) (out:Parts) (fl:Bool),k<=ghs.length/\i=.int .i64 k/\Hid ((out,fl)=surF fr lf (ghs.take k) ([],false))/\MarkAt wr C fl/\zbz wr W0.heap.size gpl gcl frm gfin v (.slice D gdi.length dc)/\OwnS wr W0.heap.size 62 3 zaa v out/\wr.heap[L]?=some (zbu lf)/\Below C W0 wr/\L<wr.heap.size) (fun i _=>ghs.length-(intOf i).toNat)
   case atStart=>
    refine⟨0,.slice none 0 0,[],false,Nat.zero_le _,rfl,rfl,?_,?_,OwnS.nil,?_,?_,?_⟩
    ·exact((HM.o.alloc _).ext z).alloc _
    ·exact zak (zbv (zas _ _ _ rfl))
    ·exact zas _ _ _ (by have:=lH.o;simp[zaf];omega)
    ·have b8:Below C W0 W0:=Below.refl _ _;exact zac (zbm (zac b8 _ Mcm) _ Mcm) _ Mcm
    ·have:=lH.o;simp[zaf];omega
   case round=>
    obtain⟨k,v,out,fl,hk,rfl,HX,hm,cq,ei,pY,gV,aV⟩:=hrel;obtain⟨A1,c1,rfl,rF,oC⟩:=ei.sl zan;have eE:=zku fr lf (ghs.take k) [] false;rw[<-HX.o]at eE;simp only[List.length_nil,Nat.zero_add,List.length_take]at eE;have ue:out.length<=10000:=Mcm;clear eE rF;have aS:Below w.heap.size w wr:=hB.trans (gV.mono Mcm);have yS:wr.cell? ⟨W0.heap.size,4,none⟩=some (.slice A1 out.length c1):=Mc9;have fx4:wr.frozen? ⟨W0.heap.size,4,none⟩=false:=by unfold zbz at cq;simp only[World.frozen?,cq];rfl
    have fE:wr.cell? ⟨L,0,none⟩=some (.int .i64 lf.num):=by simp only[World.cell?,pY,zbu];rfl
    have fF:wr.cell? ⟨L,1,none⟩=some (.int .i64 lf.den):=by simp only[World.cell?,pY,zbu];rfl
    have e3:wr.cell? ⟨w.heap.size,3,none⟩=some (.string fr):=(zah gV Mcm).trans Md5;obtain⟨HM,eY,dS,lI,tk,aW⟩:=yH6 hm cq ei pY gV aS;clear hm cq ei pY gV;by_cases aa:k<ghs.length
    ·obtain⟨b',off,rfl,cC,hc⟩:=(Ro.sl zan (qZ.o.keep aS)).at aa;have aK:=surF_snoc fr lf ghs ([],false) aa;rw[<-HX.o]at aK;have sN:=kM.o ghs[k] (List.getElem_mem aa);generalize ghs[k]=p at*;obtain⟨pn,pq⟩:=p;have i0:wr.cell? ⟨b',off+k*3,none⟩=some (.string pn):=hc 0 _ rfl;have i1:wr.cell? ⟨b',off+k*3+1,none⟩=some (.int .i64 pq.num):=hc 1 _ rfl;have i2:wr.cell? ⟨b',off+k*3+2,none⟩=some (.int .i64 pq.den):=hc 2 _ rfl;obtain⟨dB,IL⟩:=yH2 aK sN;have au:(k:Int)<(ghs.length:Int):=Mcm;have aP:(0:Int)<=(k:Int):=Mcm;have fD:(k:Int)<=(aJ:Int):=Mcm;have bW:w.heap.size<wr.heap.size:=Mcm;have kB:w.heap.size≠wr.heap.size:=Mcm;have bs:W0.heap.size<wr.heap.size:=Mcm;have Ho:W0.heap.size≠wr.heap.size:=Mcm;have hLn:L≠wr.heap.size:=Mcm;clear hc aK sN aS;by_cases hsb:pn.toList=fr.toList
     ·have eJ:=zHi (zee hsb);have dq:(pn.toList==fr.toList)=true:=by simpa using hsb
      have bo:(pn.toList != fr.toList)=false:=by simp[hsb]
      clear hsb;go_wp2_with fail
      go_round
      case rel=>
       have h1:=dB.o;rw[eJ.o]at h1;exact⟨k+1,_,out,fl,by omega,by go_num,(h1.symm:_=_),HM.o.alloc _,zak eY.o,dS.o.keep (n:=wr.heap.size) (zac (Below.refl _ _) _),zak lI.o,zac tk.o _ Mcm,by simp;omega⟩
      case measure=>simp[intOf];omega
     ·have eJ:=zHi (ze4 hsb);have dq:(pn.toList==fr.toList)=false:=by simpa using hsb
      have bo:(pn.toList != fr.toList)=true:=by simp[hsb]
      clear hsb;obtain⟨Gv,yj⟩:=IL.o eJ.o;go_upto_region 15 with fail
      refine wp_region_held_drew (S:=(fun w'=>w'.cell? ⟨wr.heap.size,0,none⟩=some (.string pn)/\w'.cell? ⟨wr.heap.size,1,none⟩=some (.int .i64 pq.num)/\w'.cell? ⟨wr.heap.size,2,none⟩=some (.int .i64 pq.den)/\w'.cell? ⟨L,0,none⟩=some (.int .i64 lf.num)/\w'.cell? ⟨L,1,none⟩=some (.int .i64 lf.den))) Mcn ?hS ?hrest
      case hS=>((try dsimp only);refine⟨?_,?_,?_,?_,?_⟩<;>(simp[go_sem,fE,fF,aV];done))
      case hrest=>
       intro hHeld;refine TkH 0 ?_;refine TkH 2 ?_;refine TkH 3 ?_;refine TkH 4 ?_;refine TkH 5 ?_;refine TkH 6 ?_;refine wpAnyH_ready (rs:=[1,7]) Mcn Mcp (AllReadyH.cons (List.getElem?_toArray.trans rfl) (fun K hK=>?_) (AllReadyH.cons (List.getElem?_toArray.trans rfl) (fun K hK=>?_) AllReadyH.nil))
       ·go_simp
        refine hK.out _ _ ?_ (fun hHeld=>?_);focus((try dsimp only);refine⟨?_,?_,?_,?_,?_⟩<;>first|assumption|(simp[go_sem,fE,fF,aV];done)|(simp[go_sem,a0,a1,a2,l5,l6,yp,yL];done)|(simp[go_sem,z0,z1,z2,z5,z6,zx,zy];done))
        clear hK K;try simp only[Act.put,List.setIfInBounds_toArray,List.set_cons_zero,List.set_cons_succ]
        refine OnH 7 fun K hK=>?_
        go_simp
        refine(znS C fl _ ?q1 pq lf yj xK Gv).mono ?_
        case q1=>(repeat(first|exact HM.o|refine MarkAt.drew ?_|refine MarkAt.alloc ?_ _))
        rintro e w5 ⟨rfl,n1,n2⟩;have dW:=n2.size;have y0:w5.heap[wr.heap.size]?=some (.cells #[.string pn,.int .i64 pq.num,.int .i64 pq.den] 62):=(n2.block _ Mcp Mcr).trans (zas _ _ _ rfl);obtain⟨a0,a1,a2⟩:=cF3 y0;have yL':w5.heap[L]?=some (zbu lf):=(n2.block _ Mcr Mcr).trans (zak lI.o);have l5:w5.cell? ⟨L,0,none⟩=some (.int .i64 lf.num):=Mdu;have l6:w5.cell? ⟨L,1,none⟩=some (.int .i64 lf.den):=Mdu;have yT:zbz w5 W0.heap.size gpl gcl frm gfin (.slice A1 out.length c1) (.slice D gdi.length dc):=(n2.block _ Mcr Mcr).trans (zak eY.o);have y2:w5.cell? ⟨W0.heap.size,4,none⟩=some (.slice A1 out.length c1):=by unfold zbz at yT;simp only[World.cell?,yT];rfl
        have yO:OwnS w5 W0.heap.size 62 3 zaa (.slice A1 out.length c1) out:=by refine OwnS.grown (hg:=n2) ?_ (.inr fun e=>by have:=(dS.o.ge _ e).1;omega);exact dS.o.keep (n:=wr.heap.size) Bw
        have yl:=zab yT;have yp:=zab y0;have yL:=zab yL';have yn:W0.heap.size≠w5.heap.size:=Mcm;have ypn:wr.heap.size≠w5.heap.size:=Mcm;obtain⟨YT,YO,YL,Y0,N1,N2⟩:=yH6 yT yO yL' y0 n1 n2;clear yT yO yL' n1 n2 y0;simp only[zaC];refine hK.out _ _ ?_ (fun hHeld=>?_);focus((try dsimp only);refine⟨?_,?_,?_,?_,?_⟩<;>first|assumption|(simp[go_sem,fE,fF,aV];done)|(simp[go_sem,a0,a1,a2,l5,l6,yp,yL];done)|(simp[go_sem,z0,z1,z2,z5,z6,zx,zy];done))
        clear hK K;try simp only[Act.put,List.setIfInBounds_toArray,List.set_cons_zero,List.set_cons_succ]
        refine TkH 8 ?_;refine OnH 9 fun K hK=>?_
        exact Mc
       ·go_simp
        refine(znS C fl _ ?q1 pq lf yj xK Gv).mono ?_
        case q1=>(repeat(first|exact HM.o|refine MarkAt.drew ?_|refine MarkAt.alloc ?_ _))
        rintro e w5 ⟨rfl,n1,n2⟩;have dW:=n2.size;have y0:w5.heap[wr.heap.size]?=some (.cells #[.string pn,.int .i64 pq.num,.int .i64 pq.den] 62):=(n2.block _ Mcp Mcr).trans (zas _ _ _ rfl);obtain⟨a0,a1,a2⟩:=cF3 y0;have yL':w5.heap[L]?=some (zbu lf):=(n2.block _ Mcr Mcr).trans (zak lI.o);have l5:w5.cell? ⟨L,0,none⟩=some (.int .i64 lf.num):=Mdu;have l6:w5.cell? ⟨L,1,none⟩=some (.int .i64 lf.den):=Mdu;have yT:zbz w5 W0.heap.size gpl gcl frm gfin (.slice A1 out.length c1) (.slice D gdi.length dc):=(n2.block _ Mcr Mcr).trans (zak eY.o);have y2:w5.cell? ⟨W0.heap.size,4,none⟩=some (.slice A1 out.length c1):=by unfold zbz at yT;simp only[World.cell?,yT];rfl
        have yO:OwnS w5 W0.heap.size 62 3 zaa (.slice A1 out.length c1) out:=by refine OwnS.grown (hg:=n2) ?_ (.inr fun e=>by have:=(dS.o.ge _ e).1;omega);exact dS.o.keep (n:=wr.heap.size) Bw
        have yl:=zab yT;have yp:=zab y0;have yL:=zab yL';have yn:W0.heap.size≠w5.heap.size:=Mcm;have ypn:wr.heap.size≠w5.heap.size:=Mcm;obtain⟨YT,YO,YL,Y0,N1,N2⟩:=yH6 yT yO yL' y0 n1 n2;clear yT yO yL' n1 n2 y0;simp only[zaC];refine hK.out _ _ ?_ (fun hHeld=>?_);focus((try dsimp only);refine⟨?_,?_,?_,?_,?_⟩<;>first|assumption|(simp[go_sem,fE,fF,aV];done)|(simp[go_sem,a0,a1,a2,l5,l6,yp,yL];done)|(simp[go_sem,z0,z1,z2,z5,z6,zx,zy];done))
        clear hK K;try simp only[Act.put,List.setIfInBounds_toArray,List.set_cons_zero,List.set_cons_succ]
        refine TkH 8 ?_;refine wpAnyH_ready (rs:=[1,9]) Mcn Mcp (AllReadyH.cons (List.getElem?_toArray.trans rfl) (fun K hK=>?_) (AllReadyH.cons (List.getElem?_toArray.trans rfl) (fun K hK=>?_) AllReadyH.nil))
        ·go_simp
         refine hK.out _ _ ?_ (fun hHeld=>?_);focus((try dsimp only);refine⟨?_,?_,?_,?_,?_⟩<;>first|assumption|(simp[go_sem,fE,fF,aV];done)|(simp[go_sem,a0,a1,a2,l5,l6,yp,yL];done)|(simp[go_sem,z0,z1,z2,z5,z6,zx,zy];done))
         clear hK K;try simp only[Act.put,List.setIfInBounds_toArray,List.set_cons_zero,List.set_cons_succ]
         refine OnH 9 fun K hK=>?_
         exact Mc
        ·go_simp
         refine hK.out _ _ ?_ (fun hHeld=>?_);focus((try dsimp only);refine⟨?_,?_,?_,?_,?_⟩<;>first|assumption|(simp[go_sem,fE,fF,aV];done)|(simp[go_sem,a0,a1,a2,l5,l6,yp,yL];done)|(simp[go_sem,z0,z1,z2,z5,z6,zx,zy];done))
         clear hK K;try simp only[Act.put,List.setIfInBounds_toArray,List.set_cons_zero,List.set_cons_succ]
         refine OnH 1 fun K hK=>?_
         exact Mc
    ·have au:¬(k:Int)<(ghs.length:Int):=Mcm;have nO:(out,fl)=surF fr lf ghs ([],false):=by rw[HX.o,List.take_of_length_le Mcm]
     have jt:=(aS.block T cV).trans eA.o;have mY:=zHi jt;have gC:wr.cell? ⟨C,0,none⟩=some (.bool fl):=(zbV HM.o).1;have fL:=HG.o;rw[<-nO]at fL;clear nO HX eb aS fE fF e3;cases fl
     ·have tA:=zHi fL;have cq:=eY.o;unfold zbz at cq;obtain⟨n0,n1,n2,n3,-,n5⟩:=cF6 cq;obtain⟨z0,z1,z2,z3,z4,z5⟩:=cF6 jt;have fz:∀j,wr.frozen? ⟨T,j,none⟩=false:=fun j=>by simp only[World.frozen?,jt];rfl
      clear fL cq jt;go_wp2_with fail
      go_ret
      have aS:=aW.o;have dX:Ro wr 62 zaa A1 out:=dS.o.ro';have hN:TombAt ((((((wr.setCell ⟨T,0,none⟩ (.string gpl)).setCell ⟨T,1,none⟩ (.int .i64 gcl)).setCell ⟨T,2,none⟩ (.int .i64 frm)).setCell ⟨T,3,none⟩ (.int .i64 gfin)).setCell ⟨T,4,none⟩ (.slice A1 out.length c1)).setCell ⟨T,5,none⟩ (.slice D gdi.length dc)) base Bk T ⟨gpl,gcl,gfin,out,gdi⟩:=
       ⟨A1,c1,D,dc,frm,zi3 mY.o _ _ _ _ _ _,t2,oC,t4,dX.kept (zcc _ _ _ _ _ _ _ _) mY.o Mco,(kO.o.keep aS).kept (zcc _ _ _ _ _ _ _ _) mY.o Mco,nv.o⟩
      have aj:=zi2 b8 (HC.o.keep aS) (HP.o.keep aS) (HT.o.keep aS) qR.o mY.o (zcc wr T _ _ _ _ _ _) hN;have cP:Below base w wr:=aS.mono Mcm;have js:=zaW cP (zcc wr T (.string gpl) (.int .i64 gcl) (.int .i64 frm) (.int .i64 gfin) (.slice A1 out.length c1) (.slice D gdi.length dc)) t2 Mcm;have bf:zba s ⟨kd,dy,pl,fr,ts,cl,yr⟩=(s.withGrave i ⟨gpl,gcl,gfin,out,gdi⟩,0):=tA.o.trans (if_neg Mcp);exact MaO
     ·exact MaR

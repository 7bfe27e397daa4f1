import Derived.Test.YtcfheecahnnhjaaGreatDoorJV
import Derived.Test.YtcfheecahnnhjaaGreatDoorO8
set_option linter.all false
set_option maxRecDepth 100000
set_option maxHeartbeats 4000000
namespace Go.Proofs.YtcfheecahnnhjaaGreatDoor
open Go.RowKit Go.Shelf
attribute [local go_sem] World.cell?_alloc_mark zag za4 zar zaB zaw zax zay zaz za0 za1 za2
attribute [local go_sem] zas zad
theorem look_will{base:Nat}{W:World}{B:List Nat}{d c p wl r:Nat}{mv:Value}{s:St}(h:PplAt base W B d c p wl r mv s)(n:ByteArray):
 ∃A cc,(∀W',Below W.heap.size W W'->(Instr.lookup 79 (.map (some wl)) (.string n) false).run Tryz.prog W'=.ok (.slice A (zbx s n).length cc) W')/\Ro W 64 zaa A (zbx s n):=by
 obtain⟨m,k1,k2⟩:=h.wills;have hl:=fun W' (hB:Below W.heap.size W W')=>zbn mapSP (k1.below hB).at n
 rcases k2 n with⟨h1,h2⟩|⟨A,cc,h1,h2⟩
 ·rw[h1]at hl;refine⟨none,0,fun W' hB=>?_,by rw[h2];exact Ro.nil⟩;rw[h2];exact hl W' hB
 ·rw[h1]at hl;exact⟨A,cc,hl,h2⟩
theorem noB_nil{s:ByteArray}(h:noB s=true):s=⟨#[]⟩:=by
 unfold noB at h;have h1:s.toList=(⟨#[]⟩:ByteArray).toList:=by rw[List.isEmpty_iff.1 h,ByteArray.toList_eq]
 have h2:zae s ⟨#[]⟩=true:=by unfold zae;rw[h1];simp
 exact zap.1 h2
theorem two_gr{w W W':World}{C m:Nat}(h:w.grownBy W (some C))(hm:w.heap.size<=m)(t:Two2 W W' C m):w.grownBy W' (some C):=
 have b:=t.below 0 (Nat.zero_le _) (Nat.zero_le _) (Nat.zero_le _);⟨b.os.trans h.os,b.tape.trans h.tape,b.output.trans h.output,Nat.le_trans h.size t.size,fun k hk ai=>(t.others k (Nat.lt_of_lt_of_le hk h.size) (fun e=>ai (by rw[e])) Mcu).trans (h.block k hk ai)⟩
theorem zkD{w W W':World}{n:Nat}{row:Option Nat}(h:w.grownBy W row)(hb:Below n W W')(hn:w.heap.size<=n):w.grownBy W' row:=
 ⟨hb.os.trans h.os,hb.tape.trans h.tape,hb.output.trans h.output,Nat.le_trans h.size hb.size,fun k hk ai=>(hb.block k Mcu).trans (h.block k hk ai)⟩
structure EstN (w:World) (h C m L R:Nat):Prop where
 gc:C<w.heap.size
 gh:w.heap.size<=h
 gm:w.heap.size<=m
 gl:w.heap.size<=L
 gr:w.heap.size<=R
 hm:h≠m
 hl:h≠L
 hr:h≠R
 ml:m≠L
 mr:m≠R
 lr:L≠R
theorem own_any{rest:Rat}{law:Law}(hs:zaJ rest)(eY:za8 16 law.num law.den=true):
 IntKind.i64.wrap (rest.num*law.num)=rest.num*law.num/\IntKind.i64.wrap ((rest.den:Int)*law.den)=(rest.den:Int)*law.den/\
 ∀W:World,Calls Tryz.prog 168 #[.int .i64 (rest.num*law.num),.int .i64 ((rest.den:Int)*law.den)] W (Ret W (zaA (rest*Rat.divInt law.num law.den))):=by
 obtain⟨h1,h2,_,_⟩:=zbp eY;have hd:=eY;unfold za8 at hd;simp only[Bool.and_eq_true,decide_eq_true_eq]at hd;have yU:(rest.den:Int)<=1000000000:=by have:=hs.2;omega
 have fW:0<(rest.den:Int):=by have:=rest.den_pos;omega
 obtain⟨m1,n1⟩:=zaO hs.1 (show law.num.natAbs<=1000000000 by omega);obtain⟨m2,n2⟩:=zaO (show(rest.den:Int).natAbs<=1000000000 by omega) (show law.den.natAbs<=1000000000 by omega);have m4:0<(rest.den:Int)*law.den:=Int.mul_pos fW Mcu;refine⟨IntWalk.i64_in _ Mcu,IntWalk.i64_in _ Mcu,fun W=>?_⟩;have e:rest*Rat.divInt law.num law.den=Rat.divInt (rest.num*law.num) ((rest.den:Int)*law.den):=by
  rw[zgN,h1,h2]
 rw[e];exact zdR _ _ W Mcu m4 Mcu
theorem own_ok{rest:Rat}{law:Law}(hN:IsN 720720 rest)(h0:0<=rest)(h1:rest<=1)(eY:za8 16 law.num law.den=true):
 0<=rest*Rat.divInt law.num law.den/\rest*Rat.divInt law.num law.den<=rest/\zaJ (rest*Rat.divInt law.num law.den)/\zaJ (rest-rest*Rat.divInt law.num law.den):=by
 obtain⟨⟨ld,ld0,ld1,l1⟩,l2,l3⟩:=isN_law eY;generalize Rat.divInt law.num law.den=la at*;have iO:0<=rest*la:=Rat.mul_nonneg h0 l2;have li:rest*la<=rest:=by
  have:=Rat.mul_nonneg h0 (show 0<=1-la by grind);grind
 have hn:=zkn hN l1;refine⟨iO,li,zcd iO McX (zey Mcu Mcu hn),zcd McX McX (zey (n:=720720*ld) Mcu Mcu (zgW (zlg hN) hn))⟩
theorem zg7{l:List Tree}{q t:Rat}{out:Parts}{fl:Bool}(h0:0<=q)(h:Bd out t):Bd (zc0 l q (out,fl)).1 (t+q):=by
 rw[zc0];have h1:=zhN (zcy (zeE h0 l.length)) (l:=l) (fl:=fl||bigQ (q*(1/(l.length:Rat)))) h;exact h1.up6 (by have:=zk5 h0 l.length;grind)
theorem zhR{W:World}{P o k:Nat}{v:Value}(h:k≠P):(W.setCell ⟨P,o,none⟩ v).heap[k]?=W.heap[k]?:=by
 have hb:¬P=k:=fun e=>h e.symm
 simp[World.setCell,Array.getElem?_modify,hb]
theorem row_gr{w W W':World}{C:Nat}{row:Option Nat}(h:w.grownBy W (some C))(k:W.grownBy W' row)(hr:∀j,row=some j->w.heap.size<=j):w.grownBy W' (some C):=
 ⟨k.os.trans h.os,k.tape.trans h.tape,k.output.trans h.output,Nat.le_trans h.size k.size,fun i hi ai=>(k.block i (Nat.lt_of_lt_of_le hi h.size) (fun e=>by have:=hr i e.symm;omega)).trans (h.block i hi ai)⟩
theorem zkE{W W':World}{C:Nat}{f:Bool}{row:Option Nat}(h:MarkAt W C f)(k:W.grownBy W' row)(hr:∀j,row=some j->j≠C):MarkAt W' C f:=(k.block C (zab h) (fun e=>hr C e.symm rfl)).trans h
theorem zlT{α:Type}{W:World}{base:Nat}{e:TypeId}{size:Nat}{f:α->List Value}{v:Value}{xs:List α}(h:OwnS W base e size f v xs){j:Nat}(hj:za5 v=some j):∃cur,W.heap[j]?=some (.cells cur e (0,0)):=by
 rcases h with⟨rfl,_⟩|⟨g,o,c,cur,rfl,_,hg,_⟩
 ·cases hj
 ·simp only[za5,Option.some.injEq]at hj;subst hj;exact⟨cur,hg⟩
theorem zeM{W:World}{b r:Nat}{K V:Type}{ek:K->Value}{ev:V->Value}{m left:List (K×V)}(h:RangeAt W b r ek ev m left){j:Nat}{cur:Array Value}{t:TypeId}{fr:Nat×Nat}(hj:W.heap[j]?=some (.cells cur t fr)):j≠b/\j≠r:=by
 obtain⟨es,clock,since,seen,c0,h1,_,_,_,h5,_⟩:=h;refine⟨fun e=>?_,fun e=>?_⟩
 ·subst e;rw[h1]at hj;simp at hj
 ·subst e;rw[h5]at hj;simp at hj
theorem zoe{q:Rat}:0<q↔0<q.num:=by rw[Rat.lt_iff];simp
theorem W_two(w:World)(o1 o2:Obj):Below w.heap.size w ((w.alloc o1).alloc o2):=zac (zac (Below.refl _ _) _) _
def LK(W W':World):Prop:= ∀(k:Nat) (cur:Array Value) (fr:Nat×Nat),W.heap[k]?=some (.cells cur 229 fr)->W'.heap[k]?=W.heap[k]?
theorem LK.trans{a b c:World}(h:LK a b)(k:LK b c):LK a c:=fun i cur fr hi=>(k i cur fr ((h i cur fr hi).trans hi)).trans (h i cur fr hi)
theorem LK.below{n:Nat}{a b:World}(h:Below n a b)(hn:a.heap.size<=n:=by first|exact Nat.le_refl _|omega):LK a b:=fun i cur fr hi=>h.block i (Nat.lt_of_lt_of_le (Array.getElem?_eq_some_iff.1 hi).1 hn)
theorem LK.put{W:World}{R:Nat}{q0 q:Rat}(h:W.heap[R]?=some (zbv q0)):LK W ((W.setCell ⟨R,0,none⟩ (.int .i64 q.num)).setCell ⟨R,1,none⟩ (.int .i64 q.den)):=fun i cur fr hi=>by
 have ai:i≠R:=by
  intro e;subst e;rw[h]at hi;simp[zbv]at hi
 rw[zhR ai,zhR ai]
theorem LK.items{W W':World}{Q:Nat->Prop}{f:Nat}{es:List Ln}{l:List Tree}(h:LK W W')(k:ItemsN W Q f es l):ItemsN W' Q f es l:=k.same h
theorem LK.ro{W W':World}{A:Option Addr}{es:List Ln}(h:LK W W')(k:Ro W 229 lnC A es):Ro W' 229 lnC A es:=k.same (fun b cur fr hx _=>h b cur fr hx)
def zlU(law:Law):Obj:=.cells #[.int .i64 law.frm,.bool law.stems,.int .i64 law.num,.int .i64 law.den] 100
structure EstSt (w W:World) (b h C m L R:Nat) (law:Law) (n:ByteArray) (x:Parts×Bool) (rest:Rat):Prop where
 heir:HeirAt W h b law n C m
 lawB:W.heap[L]?=some (zlU law)
 restB:W.heap[R]?=some (zbv rest)
 has:HasAt W m x.1
 mark:MarkAt W C x.2
 gr:w.grownBy W (some C)
section
variable {w W W':World} {b h C m L R:Nat} {law:Law} {n:ByteArray} {x y:Parts×Bool} {rest q:Rat}
theorem EstSt.keep{k:Nat}(e:EstSt w W b h C m L R law n x rest)(hB:Below k W W')(hk:W.heap.size<=k:=by first|exact Nat.le_refl _|omega):EstSt w W' b h C m L R law n x rest:=
 ⟨e.heir.keep hB hk,(hB.block L (Nat.lt_of_lt_of_le (zab e.lawB) hk)).trans e.lawB,(hB.block R (Nat.lt_of_lt_of_le (zab e.restB) hk)).trans e.restB,e.has.keep hB hk,e.mark.keep hB (Nat.lt_of_lt_of_le (zab e.mark) hk),zkD e.gr hB (Nat.le_trans e.gr.size hk)⟩
theorem EstSt.two(hn:EstN w h C m L R)(e:EstSt w W b h C m L R law n x rest)(t:Two2 W W' C m)(h1:HasAt W' m y.1)(h2:MarkAt W' C y.2):EstSt w W' b h C m L R law n y rest:=by
 have c1:=hn.gc;have c2:=hn.gh;have c3:=hn.gm;have c4:=hn.gl;have c5:=hn.gr
 have d1:=hn.hm;have d2:=hn.ml;have d3:=hn.mr
 exact⟨(t.others h (zab e.heir) Mcu d1).trans e.heir,(t.others L (zab e.lawB) Mcu (fun z=>d2 z.symm)).trans e.lawB,(t.others R (zab e.restB) Mcu (fun z=>d3 z.symm)).trans e.restB,h1,h2,two_gr e.gr c3 t⟩
theorem EstSt.put(hn:EstN w h C m L R)(e:EstSt w W b h C m L R law n x rest)(q:Rat):EstSt w ((W.setCell ⟨R,0,none⟩ (.int .i64 q.num)).setCell ⟨R,1,none⟩ (.int .i64 q.den)) b h C m L R law n x q:=by
 have c1:=hn.gc;have c5:=hn.gr
 have d1:=hn.hr;have d2:=hn.lr;have d3:=hn.mr
 have hs:∀k,k≠R->((W.setCell ⟨R,0,none⟩ (.int .i64 q.num)).setCell ⟨R,1,none⟩ (.int .i64 q.den)).heap[k]?=W.heap[k]?:=fun k hk=>(zhR hk).trans (zhR hk)
 refine⟨(hs h d1).trans e.heir,(hs L d2).trans e.lawB,zdy e.restB,e.has.block (hs m d3),(hs C Mcu).trans e.mark,?_⟩;exact⟨e.gr.os,e.gr.tape,e.gr.output,by simpa using e.gr.size,fun k hk ai=>(hs k Mcu).trans (e.gr.block k hk ai)⟩
end
theorem zoT(base b C:Nat)(s:St)(last:Int)(law:Law)(n:ByteArray)(w:World)(rE:∀W,w.grownBy W (some C)->PeoAt base W b s)(hG:GoodSt s last)(hM:MarkAt w C false)(bX:s.children.length<=1000)(fJ:s.marriages.length<=1000)(cG:(zbx s n).length<=1000)(eY:za8 16 law.num law.den=true):
 Calls Tryz.prog 147 #[.pointer (some ⟨b,0,none⟩),law.v,.string n,.pointer (some ⟨C,0,none⟩)] w fun e w'=>∃v,e=.returned v/\OwnS w' w.heap.size 64 3 zaa v (zcn s law n).1/\MarkAt w' C (zcn s law n).2/\w.grownBy w' (some C):=by
 have JP:=rE w (zdp _ _);have ua:∀(W:World),w.grownBy W (some C)->PeoAt base W b s:=rE;obtain⟨B,d,c,p,wl,r,mv,tv,la,co,jy,zh⟩:=JP;have hb:=zab jy;unfold WldC at jy;obtain⟨-,-,-,-,c4⟩:=cF5 jy;obtain⟨WA,wcap,cX,FF⟩:=look_will zh n;have zm:=hG.wills n;have lm:∀q∈zbx s n,noB q.1=false:=by
  intro q hq;unfold zbx at hq;cases hf:s.wills.reverse.find? (fun x=>zae x.1 n)with
  |none=>rw[hf]at hq;simp at hq
  |some x=>
   rw[hf]at hq;exact hG.willNames x (by simpa using List.mem_of_find?_eq_some hf) q (by simpa using hq)
 have wh:=zab hM;obtain⟨HM,qQ,HP,lX,EX,HG⟩:=yH6 hM FF ua zm lm hG
 have pG:zcn s law n=(let y:=zdm s n (zbx s n) ([],false) 1
  let sp:=zcq s n
  let lines:=zb7 s law.stems n (zaX s) n
  if lines.isEmpty then zcW sp y.2 y.1 else
  if noB sp then zc0 lines y.2 y.1 else
  zc0 lines (y.2-y.2*Rat.divInt law.num law.den) (zcW sp (y.2*Rat.divInt law.num law.den) y.1)):=rfl
 have tD:=zHi pG;have cL:∀W',Below w.heap.size w W'->(Instr.lookup 79 (.map (some wl)) (.string n) false).run Tryz.prog W'=.ok (.slice WA (zbx s n).length wcap) W':=cX;generalize zcn s law n=EF at*;generalize jz:zbx s n=ws at*;have BV:=zHi jz;clear jz pG jy zh cX FF zm lm hG hM ua rE;unfold Law.v;go_enter Tryz.func147,Tryz.ntmps147
 have ct:= @run_makeMap Tryz.prog;have pV:=cL ((((w.alloc (zlU law)).alloc (.map #[] 0)).alloc (.cells #[.pointer (some ⟨b,0,none⟩),.int .i64 law.frm,.bool law.stems,.int .i64 law.num,.int .i64 law.den,.string n,.pointer (some ⟨C,0,none⟩),.map (some (w.heap.size+1))] 215)).alloc (.cells #[.int .i64 1,.int .i64 1] 31)) Bw;unfold zlU at pV;go_upto_block 0 with fail
 have hN:EstN w (w.heap.size+1+1) C (w.heap.size+1) w.heap.size (w.heap.size+1+1+1):=⟨wh,by omega,by omega,by omega,by omega,by omega,by omega,by omega,by omega,by omega,by omega⟩
 have HN:=zHi hN;have hC0:C≠w.heap.size:=Mcu;clear hN cL pV ct;go_cut [12,34]from 35 (fun _ _ wc=>EstSt w wc b (w.heap.size+1+1) C (w.heap.size+1) w.heap.size (w.heap.size+1+1+1) law n (zdm s n ws ([],false) 1).1 (zdm s n ws ([],false) 1).2)
 case first=>
  go_wp2_with fail
  go_loopw [34] (fun i wr=>∃(k:Nat) (x:Parts×Bool) (rest:Rat),k<=ws.length/\i=.int .i64 k/\Hid ((x,rest)=zdm s n (ws.take k) ([],false) 1)/\EstSt w wr b (w.heap.size+1+1) C (w.heap.size+1) w.heap.size (w.heap.size+1+1+1) law n x rest) (fun i _=>ws.length-(intOf i).toNat)
  case atStart=>
   refine⟨0,([],false),1,Nat.zero_le _,rfl,rfl,?_,?_,?_,?_,?_,?_⟩
   ·exact zal (zaq _ _ _ Mcx)
   ·exact zal (zal (zal (zaq _ _ _ rfl)))
   ·exact zaq _ _ _ Mcx
   ·refine⟨[],?_,by simp,fun nm=> .inl ⟨rfl,rfl⟩⟩;have h0:MapS ((w.alloc (.cells #[.int .i64 law.frm,.bool law.stems,.int .i64 law.num,.int .i64 law.den] 100)).alloc (.map #[] 0)) (w.alloc (.cells #[.int .i64 law.frm,.bool law.stems,.int .i64 law.num,.int .i64 law.den] 100)).heap.size ekS (fun v:Value=>v) ([]:List (ByteArray×Value)):=MapS.new _;rw[World.size_alloc]at h0;exact h0.below (n:=w.heap.size+1+1) (zac (zac (Below.refl _ _) _ Mcx) _ Mcx) Mcx
   ·exact((((HM.o.alloc _).alloc _).alloc _).alloc _)
   ·exact zcw (zcw (zcw (zcw (zdp _ _) _) _) _) _
  case round=>
   obtain⟨k,x,rest,hk,rfl,HX,ao⟩:=hrel;have yH:=ao.restB;have dB:=ao.gr;have aK:=zHi ao;have r0:wr.cell? ⟨w.heap.size+1+1+1,0,none⟩=some (.int .i64 rest.num):=by simp only[World.cell?,yH,zbv];rfl
   have r1:wr.cell? ⟨w.heap.size+1+1+1,1,none⟩=some (.int .i64 rest.den):=by simp only[World.cell?,yH,zbv];rfl
   have nD:=zab yH;have Cv:w.heap.size+1+1+1≠wr.heap.size:=Mcu;have dZ:=qQ.o.kept dB HM.o Mcw;clear ao yH;by_cases ae:k<ws.length
   ·obtain⟨b',off,rfl,cK,hc⟩:=(Ro.sl zam dZ).at ae;have bw:=will_snoc s n ws ([],false) 1 ae;have jp:=zk6 (s:=s) (frm:=n) lX.o k;rw[<-HX.o]at bw jp;have bH:ws[k]∈ws:=List.getElem_mem ae;have d8:=lX.o.pos _ bH;have xJ:=lX.o.isN _ bH;have fZ:=EX.o _ bH;have DO:ws[k].2<=1:=Rat.le_trans (zgU (l:=ws) (fun q hq=>by have:=lX.o.pos q hq;grind) _ bH) lX.o.le;generalize ws[k]=pt at*;obtain⟨pn,pq⟩:=pt;have i0:wr.cell? ⟨b',off+k*3,none⟩=some (.string pn):=hc 0 _ rfl;have i1:wr.cell? ⟨b',off+k*3+1,none⟩=some (.int .i64 pq.num):=hc 1 _ rfl;have i2:wr.cell? ⟨b',off+k*3+2,none⟩=some (.int .i64 pq.den):=hc 2 _ rfl;have yB:zaJ pq:=zcd (by simp only at d8;grind) DO (zey Mcw Mcw xJ);have ar:(k:Int)<(ws.length:Int):=Mcu;have aT:(0:Int)<=(k:Int):=Mcu;have cJ:zed s pn n=ziF s pn n:=by rw[able_q,fZ];rfl
    simp only[cJ]at bw;obtain⟨bT,lO,jX⟩:=yH3 bw jp (fun W hW=>HP.o W (zkD dB hW (n:=wr.heap.size) dB.size));clear hc bw jp bH d8 xJ fZ DO cJ dZ;have fx:=zHi (fun W (hW:Below wr.heap.size wr W)=>zk2 base b (w.heap.size+1+1) C (w.heap.size+1) s law n pn W (jX.o W hW) (aK.o.keep hW).heir);generalize ziF s pn n=ab at*;cases ab
    ·go_wp2_with (go_at_call 174;refine(fx.o _ Bw).mono ?_;rintro e wq ⟨rfl,z,rfl⟩)
     go_round
     case rel=>exact⟨k+1,x,rest,by omega,by go_num,by show _=_;simpa using bT.o.symm,aK.o.keep (k:=wr.heap.size) Bw⟩
     case measure=>simp[intOf];omega
    ·go_wp2_with (first
      |(go_at_call 174;refine(fx.o _ Bw).mono ?_;rintro e wq ⟨rfl,z,rfl⟩)
      |(go_at_call 175
        go_loud(refine(zg1 b (w.heap.size+1+1) C (w.heap.size+1) law n pn pq x.1 x.2 _ (aK.o.keep (k:=wr.heap.size) Bw).heir (aK.o.keep (k:=wr.heap.size) Bw).mark (aK.o.keep (k:=wr.heap.size) Bw).has Mcu Mcu Mcu lO.o.bd.good (lO.o.bd.share (by have:=lO.o.nn;grind) pn) yB).mono ?_)
        rintro e wq ⟨rfl,g1,g2,g3⟩;have da:=(aK.o.keep (W':=(wr.alloc (.cells #[.string pn,.int .i64 pq.num,.int .i64 pq.den] 64)).ext z) (k:=wr.heap.size) Bw).two HN.o g3 g1 g2;have hp:wq.heap[wr.heap.size]?=some (.cells #[.string pn,.int .i64 pq.num,.int .i64 pq.den] 64):=(g3.others _ McD Mcu Mcu).trans (zb5 (zaq _ _ _ rfl));have eO:=zHi da;have q0:wq.cell? ⟨w.heap.size+1+1+1,0,none⟩=some (.int .i64 rest.num):=by simp only[World.cell?,da.restB,zbv];rfl
        have q1:wq.cell? ⟨w.heap.size+1+1+1,1,none⟩=some (.int .i64 rest.den):=by simp only[World.cell?,da.restB,zbv];rfl
        have f0:wq.frozen? ⟨w.heap.size+1+1+1,0,none⟩=false:=by simp only[World.frozen?,da.restB,zbv];rfl
        have f1:wq.frozen? ⟨w.heap.size+1+1+1,1,none⟩=false:=by simp only[World.frozen?,da.restB,zbv];rfl
        obtain⟨-,p1,p2⟩:=cF3 hp;have JU:=zab da.restB
        clear da hp g1 g2 g3)
      |(go_at_call 142;refine(zhB rest pq _ lO.o.small yB).mono ?_;rintro e wq2 ⟨rfl,z2,rfl⟩;simp only[zaA]))
     go_round
     case rel=>exact⟨k+1,zcW pn pq x,rest-pq,by omega,by go_num,by show _=_;simpa using bT.o.symm,(eO.o.put HN.o (rest-pq)).keep (zao _ z2)⟩
     case measure=>simp[intOf];omega
   ·have ar:¬(k:Int)<(ws.length:Int):=Mcu;rw[List.take_of_length_le Mcu]at HX;go_wp2_with fail
    go_meet
    rw[<-HX.o];exact aK.o
 case rest=>
  have jp:=zk6 (s:=s) (frm:=n) lX.o ws.length;rw[List.take_of_length_le (Nat.le_refl _)]at jp;generalize zdm s n ws ([],false) 1=y at*;obtain⟨x,rest⟩:=y;have lO:=zHi jp;have dB:=hcut.gr;obtain⟨aK,jX⟩:=yH2 hcut (fun W hW=>HP.o W (zkD dB hW (n:=wc.heap.size) dB.size));clear jp hcut qQ lX EX;obtain⟨df,iY⟩:=yH2 (fun W (hW:Below wc.heap.size wc W)=>zl9 base b (w.heap.size+1+1) C (w.heap.size+1) s law n (fun c hc=>(HG.o.kids c hc).2) bX (zaX s) n W (jX.o W hW) (aK.o.keep hW).heir (zk7 HG.o.acyc n)) (fun W (hW:Below wc.heap.size wc W)=>zjH base b s n W (jX.o W hW) Mcu);generalize cv:zaK s n=sp at*
  go_upto_region 11 with(first
   |(go_at_call 176;refine(df.o _ Bw).mono ?_;rintro e wq ⟨v,es,rfl,o1,o2,o3,o4⟩;obtain⟨VA,vc,rfl,_,jx⟩:=o1.sl zjJ;obtain⟨dg,dq⟩:=yH2 o1 o2;clear o1 o2)
   |(go_at_call 149;refine(iY.o _ Bw).mono ?_;rintro e wq2 ⟨rfl,z,rfl⟩))
  have cK:b<wc.heap.size:=Nat.lt_of_lt_of_le hb dB.size;have bk:=o3.size;have fx:=zHi (fun W (hW:Below wq.heap.size wq W)=>zk2 base b (w.heap.size+1+1) C (w.heap.size+1) s law n sp W (jX.o W (o3.trans (hW.mono bk))) (aK.o.keep (o3.trans (hW.mono bk))).heir);have yS:zcq s n=if(!noB sp&&ziF s sp n)=true then sp else⟨#[]⟩:=by unfold zcq;rw[cv,able_q]
  generalize zcq s n=hs at*;generalize ziF s sp n=ab at*;go_cut [59,60,61,62,63,64,65,66]from 67 (fun _ _ _ _ _ _ _ v66 W=>v66=.bool (!noB sp&&!ab)/\∃z,W=wq.ext z)
  case first=>
   cases ab;all_goals(go_wp2_with (go_at_call 174;refine(fx.o _ Bw).mono ?_;rintro e wq2 ⟨rfl,z2,rfl⟩))
   all_goals go_meet
   all_goals exact⟨zaP (by first|(simp[noB, *];done)|(rw[Bool.eq_iff_iff];simp[noB];simp[*];done)),zaZ Bw⟩
  case rest=>
   obtain⟨rfl,z2,rfl⟩:=hcut;go_upto_if 66 with fail
   go_cut [14,66]from 67 (fun v14 _ W=>v14=.string hs/\W=wq.ext z2)
   case first=>
    cases fZ:noB sp
    ·cases ab
     ·exact Mbx
     ·exact Mbx
    ·cases ab;all_goals go_wp2_with fail
     all_goals go_meet
     all_goals rw[fZ]at yS
     all_goals have bw:sp=⟨#[]⟩:=noB_nil fZ
     all_goals exact⟨by rw[yS,bw];rfl,rfl⟩
   case rest=>
    obtain⟨rfl,rfl⟩:=hcut;have gI:Below wq.heap.size wq (wq.ext z2):=zao _ _;have ay:Below wc.heap.size wc (wq.ext z2):=o3.trans (gI.mono bk);have zb:=aK.o.keep ay;obtain⟨vD,oa⟩:=yH2 (dg.o.keep (n:=wq.heap.size) gI) (dq.o.keep (n:=wq.heap.size) gI);generalize wq.ext z2=W3 at*;have Cw:=vD.o.ro;obtain⟨VA2,vc2,H9,_,nD⟩:=Cw;simp only[Value.slice.injEq]at H9;obtain⟨rfl,_,rfl⟩:=H9;obtain⟨BJ,bB⟩:=yH2 nD zb;clear zb nD gI ay dg dq aK fx df iY o3 bk yS cv;have rv:=tD.o;have vv:=zHi oa.o.len;go_upto_block 2 with fail
    go_cut [15]from 67 (fun _ W=>∃rest',EstSt w W b (w.heap.size+1+1) C (w.heap.size+1) w.heap.size (w.heap.size+1+1+1) law n EF rest'/\Bd EF.1 1)
    case first=>
     have r0:W3.cell? ⟨w.heap.size+1+1+1,0,none⟩=some (.int .i64 rest.num):=by simp only[World.cell?,bB.o.restB,zbv];rfl
     have r1:W3.cell? ⟨w.heap.size+1+1+1,1,none⟩=some (.int .i64 rest.den):=by simp only[World.cell?,bB.o.restB,zbv];rfl
     have l2:W3.cell? ⟨w.heap.size,2,none⟩=some (.int .i64 law.num):=by simp only[World.cell?,bB.o.lawB,zlU];rfl
     have l3:W3.cell? ⟨w.heap.size,3,none⟩=some (.int .i64 law.den):=by simp only[World.cell?,bB.o.lawB,zlU];rfl
     have nD:=zab bB.o.restB;have u4:=zab bB.o.lawB;have i8:=lO.o.nn;have bP:=lO.o.le;have cT:=lO.o.small;obtain⟨dp,qv⟩:=yH2 lO.o.bd rv;have wB:=zjL (s:=s) (stems:=law.stems) (frm:=n) bX (zaX s) n;generalize zb7 s law.stems n (zaX s) n=tr at*;have rg:=zHi wB;clear rv wB tD;by_cases he:es.length=0
     ·have Kq:(((es.length:Nat):Int)==0)=true:=by rw[he];rfl
      have Lp:tr=[]:=List.eq_nil_of_length_eq_zero (by have:=vv.o;omega);clear he;go_wp2_with (go_at_call 175;refine(zg1 b (w.heap.size+1+1) C (w.heap.size+1) law n hs rest x.1 x.2 _ bB.o.heir bB.o.mark bB.o.has Mcu Mcu Mcu dp.o.good (dp.o.share McX hs) cT).mono ?_;rintro e w6 ⟨rfl,g1,g2,g3⟩)
      go_meet
      have h1:=qv.o;rw[Lp]at h1;rw[h1];exact⟨rest,bB.o.two HN.o g3 g1 g2,(zf7 (fl:=x.2) dp.o i8).up6 McX⟩
     ·have Kq:(((es.length:Nat):Int)==0)=false:=by simpa using he
      have ai:tr≠[]:=fun e=>he (by have:=vv.o;rw[e]at this;exact this)
      have iR:tr.isEmpty=false:=by cases tr with|nil=>exact absurd rfl ai|cons _ _=>rfl
      have gU:=zHi ai;clear ai he;cases fZ:noB hs
      ·have sQ:hs.toList.isEmpty=false:=fZ;have DI:(!hs.toList.isEmpty)=true:=by rw[sQ];rfl
       have gC:=qv.o;rw[iR,fZ]at gC;simp only[Bool.false_eq_true,if_false]at gC;have qw:=zHi gC;obtain⟨ow1,ow2,ow3⟩:=own_any cT eY;obtain⟨oo1,oo2,oo3,oo4⟩:=own_ok lO.o.isN i8 bP eY;generalize Rat.divInt law.num law.den=la at*;generalize aa:rest*la=own at*;have dN:=zHi ow3;clear gC ow3 aa iR fZ
       go_wp2_with (first
        |(go_at_call 168;refine(dN.o _).mono ?_;rintro e w5 ⟨rfl,z5,rfl⟩;simp only[zaA])
        |(go_at_call 175
          refine(zg1 b (w.heap.size+1+1) C (w.heap.size+1) law n hs own x.1 x.2 _ (bB.o.keep (k:=W3.heap.size) Bw).heir (bB.o.keep (k:=W3.heap.size) Bw).mark (bB.o.keep (k:=W3.heap.size) Bw).has Mcu Mcu Mcu dp.o.good (dp.o.share McX hs) oo3).mono ?_;rintro e w6 ⟨rfl,g1,g2,g3⟩;have iF:=(bB.o.keep (W':=(W3.ext z5).alloc (.cells #[.int .i64 own.num,.int .i64 own.den] 31)) (k:=W3.heap.size) Bw).two HN.o g3 g1 g2;have oh:=zHi iF;have hO:w6.heap[(W3.ext z5).heap.size]?=some (zbv own):=(g3.others _ Mcx McD McD).trans (zaq _ _ _ rfl);have q0:w6.cell? ⟨w.heap.size+1+1+1,0,none⟩=some (.int .i64 rest.num):=by simp only[World.cell?,iF.restB,zbv];rfl
          have q1:w6.cell? ⟨w.heap.size+1+1+1,1,none⟩=some (.int .i64 rest.den):=by simp only[World.cell?,iF.restB,zbv];rfl
          have f0:w6.frozen? ⟨w.heap.size+1+1+1,0,none⟩=false:=by simp only[World.frozen?,iF.restB,zbv];rfl
          have f1:w6.frozen? ⟨w.heap.size+1+1+1,1,none⟩=false:=by simp only[World.frozen?,iF.restB,zbv];rfl
          have o0:w6.cell? ⟨W3.heap.size+z5.os.size,0,none⟩=some (.int .i64 own.num):=by simp only[<-zag,World.cell?,hO,zbv];rfl
          have o1:w6.cell? ⟨W3.heap.size+z5.os.size,1,none⟩=some (.int .i64 own.den):=by simp only[<-zag,World.cell?,hO,zbv];rfl
          have JU:=zab iF.restB;go_loud(have wx:=(LK.below (a:=W3) (n:=W3.heap.size) (b:=(W3.ext z5).alloc (.cells #[.int .i64 own.num,.int .i64 own.den] 31)) Bw).trans (zkC g3 (bB.o.keep (k:=W3.heap.size) Bw).mark (bB.o.keep (k:=W3.heap.size) Bw).has))
          go_loud(have fO:=zHi (((wx.trans (LK.put (q:=rest-own) iF.restB)))))
          clear iF hO g1 g2 g3 wx)
        |(go_at_call 142;refine(zhB rest own _ cT oo3).mono ?_;rintro e w7 ⟨rfl,z7,rfl⟩;simp only[zaA])
        |(go_at_call 177
          refine(zhh b (w.heap.size+1+1) C (w.heap.size+1) law n Mcu Mcu Mcu (zaX s) es tr _ VA es.length vc (rest-own) (1-rest+own) (zcW hs own x).1 (zcW hs own x).2 _ ((fO.o.trans (LK.below (zao _ z7))).items oa.o) rg.o ((fO.o.trans (LK.below (zao _ z7))).ro BJ.o) gU.o vv.o ((oh.o.put HN.o (rest-own)).keep (zao _ z7)).heir ((oh.o.put HN.o (rest-own)).keep (zao _ z7)).mark ((oh.o.put HN.o (rest-own)).keep (zao _ z7)).has McX McX oo4 (zf7 (fl:=x.2) dp.o oo1) McX).mono ?_;rintro e w8 ⟨rfl,g1,g2,g3⟩;have mZ:=((oh.o.put HN.o (rest-own)).keep (zao _ z7)).two HN.o g3 g1 g2;have qW:=zHi mZ
          clear mZ g1 g2 g3))
       go_meet
       rw[qw.o];exact⟨rest-own,qW.o,(zg7 (fl:=(zcW hs own x).2) (show 0<=rest-own by grind) (zf7 (n:=hs) (fl:=x.2) dp.o oo1)).up6 McX⟩
      ·have sQ:hs.toList.isEmpty=true:=fZ;have DI:(!hs.toList.isEmpty)=false:=by rw[sQ];rfl
       have gC:=qv.o;rw[iR,fZ]at gC;simp only[Bool.false_eq_true,if_false,if_true]at gC;have qw:=zHi gC;clear gC iR fZ
       go_wp2_with (go_at_call 177
                    refine(zhh b (w.heap.size+1+1) C (w.heap.size+1) law n Mcu Mcu Mcu (zaX s) es tr _ VA es.length vc rest (1-rest) x.1 x.2 _ oa.o rg.o BJ.o gU.o vv.o bB.o.heir bB.o.mark bB.o.has i8 bP cT dp.o McX).mono ?_;rintro e w8 ⟨rfl,g1,g2,g3⟩;have mZ:=bB.o.two HN.o g3 g1 g2;have qW:=zHi mZ
                    clear mZ g1 g2 g3)
       go_meet
       rw[qw.o];exact⟨rest,qW.o,(zg7 (fl:=x.2) i8 dp.o).up6 McX⟩
    case rest=>
     obtain⟨rest',ao,dt⟩:=hcut;have dp:=zHi dt;have Ah:=ao.heir;have Aj:=ao.mark;have Cg:=ao.gr;have FJ:=ao.has;have hh8:=zab Ah;clear ao dt rv tD vv BJ vD oa jX lO bB;obtain⟨W8,rfl⟩:∃x,x=wc:=⟨_,rfl⟩
     have AE:=FJ.lt;obtain⟨mm,dC,cZ,iw⟩:=FJ;unfold HeirAt at Ah;obtain⟨-,-,-,-,-,-,-,e7⟩:=cF8 Ah;obtain⟨yK,pH⟩:=zgR (P:=Tryz.prog) dC (t:=213) Tryz.underlying213;generalize dC.choose_spec.choose=cc at*;generalize dC.choose=ce at*;have Jp:∀j cur,W8.heap[j]?=some (.cells cur 64 (0,0))->j≠C:=fun j cur hj e=>by
      subst e;unfold MarkAt at Aj;rw[Aj]at hj;simp at hj
     obtain⟨IA,Ih,qB,kN⟩:=yH4 Aj Cg iw cZ;have hs8:=Cg.size;have vJ:=zHi pH;clear Aj Cg iw cZ pH Jp dC Ah;go_upto_block 6 with fail
     generalize hI:W8.heap.size=I at*;generalize sN:w.heap.size+1=mb at*;obtain⟨pm,Io⟩:=yH2 sN hI;clear yK;go_wp2_with fail
     go_loopg [16] (mm.length+1) (fun gg v wr=>∃done left,Hid ((done++left).Perm mm)/\RangeAt wr mb I ekS (fun v:Value=>v) mm left/\OwnS wr w.heap.size 64 3 zaa v (colP EF.1 done)/\MarkAt wr C EF.2/\w.grownBy wr (some C)/\left.length<gg/\I<wr.heap.size)
     case atStart=>
      refine⟨[],mm,List.Perm.refl _,vJ.o,OwnS.nil,?_,?_,by omega,by simp;omega⟩
      ·exact IA.o.alloc _
      ·exact zcw Ih.o _
     case round=>
      obtain⟨done,left,HP,mU,aa,hm,hg,aW,hIl⟩:=hrel;obtain⟨cl,bi⟩:∃cl,cl=colP EF.1 done:=⟨_,rfl⟩
      rw[<-bi]at aa;have cN:=zHi bi;clear bi;obtain⟨VC,vcc,rfl,_,Lw⟩:=aa.sl zam;have Cb:∀j,za5 (.slice VC cl.length vcc)=some j->w.heap.size<=j/\j<wr.heap.size:=fun j hj=>aa.ge j hj
      rcases zif (P:=Tryz.prog) mU 0 with⟨h0,hrun⟩|⟨i,p,w',hi,hrun,hra',hgr',hsz,hent⟩
      ·have Cl:=HP.o;rw[h0,List.append_nil]at Cl;have pL:cl.Perm EF.1:=by
        rw[cN.o];exact(Cl.filterMap (zlC EF.1)).trans (zoa dp.o.good kN.o qB.o)
       have eG:cl.length<=1000000000:=by rw[pL.length_eq];exact dp.o.len Rat.le_refl
       obtain⟨dM,I2,HO,HM,eh,tx⟩:=yH6 eG pL aa hm hg Cb;clear Cl pL aa hm hg Cb mU h0 eG;go_wp2_with (go_at_call 178;refine(sortP_any (.slice VC cl.length vcc) cl w.heap.size _ HO.o dM.o).mono ?_;rintro e wq ⟨rfl,L,s1,s2,s3,s4,s5⟩)
       go_ret
       have hL:L=EF.1:=zlD dp.o.good (s1.trans I2.o) s2;rw[hL]at s3;exact⟨_,rfl,s3,zkE HM.o s5 (fun j hj=>by have:=tx.o j hj;omega),row_gr eh.o s5 (fun j hj=>(tx.o j hj).1)⟩
      ·obtain⟨pn,pv⟩:=p;have gR:(pn,pv)∈mm:=HP.o.mem_iff.1 (List.mem_append_right _ (List.mem_of_getElem? hi));have Lf:pv=zaA (zaf EF.1 pn):=by
        have h1:=zg0 kN.o gR;rcases qB.o pn with⟨h2,_⟩|h2
        ·rw[h2]at h1;cases h1
        ·rw[h2]at h1;simpa using h1.symm
       subst Lf;have FW:zlC EF.1 (pn,zaA (zaf EF.1 pn))=if 0<zaf EF.1 pn then some (pn,zaf EF.1 pn)else none:=rfl;have fW:=done_perm HP.o hi;have bh:=colP_snoc EF.1 done (pn,zaA (zaf EF.1 pn));rw[<-cN.o,FW]at bh;obtain⟨jS,ee⟩:=yH2 fW bh;have dK:cl.length<=1000000000:=by
        have h1:(colP EF.1 (done++left)).Perm EF.1:=(HP.o.filterMap (zlC EF.1)).trans (zoa dp.o.good kN.o qB.o);have h2:=h1.length_eq;unfold colP at h2;rw[List.filterMap_append,List.length_append]at h2;have h3:=dp.o.len Rat.le_refl;have h4:=cN.o;unfold colP at h4;rw[<-h4]at h2;omega
       have hel:(left.eraseIdx i).length+1=left.length:=by
        exact Mbu
       clear fW bh FW gR hi;generalize zaf EF.1 pn=q at*;have yQ:(Instr.next (.pointer (some ⟨I,0,none⟩)) false 0).run Tryz.prog wr=.ok (.tuple #[.bool true,.string pn,.agg #[.int .i64 q.num,.int .i64 q.den]]) w':=hrun;have xw:(Instr.entry (.pointer (some ⟨I,0,none⟩))).run Tryz.prog w'=.ok (.tuple #[.string pn,.agg #[.int .i64 q.num,.int .i64 q.den]]) w':=hent;have ym:∀j,some I=some j->w.heap.size<=j:=fun j hj=>by have:=Io.o;simp at hj;omega
       have cR:=aa.grown hgr' (by
        cases hb:za5 (.slice VC cl.length vcc)with
        |none=>exact .inl rfl
        |some j=>
         right
         intro e;obtain⟨cur,si⟩:=zlT aa hb
         exact(zeM mU si).2 MdO)
       have Gv:=zkE hm hgr' (fun j hj=>by have:=ym j hj;omega);have fD:=row_gr hg hgr' ym;have xb:∀j,za5 (.slice VC cl.length vcc)=some j->w.heap.size<=j/\j≠mb/\j≠I:=fun j hj=>by
        obtain⟨cur,si⟩:=zlT cR hj;exact⟨(cR.ge j hj).1,zeM hra' si⟩
       obtain⟨pe,BS,vK,HO,HM,eh⟩:=yH6 xb hsz hra' cR Gv fD;have JA:I<w'.heap.size:=Mcu;have jz:w.heap.size<=w'.heap.size:=fD.size;clear mU hra' aa cR hm Gv hg fD hrun hent hgr' Cb hsz xb;by_cases hq:0<q.num
       ·have jl:=ee.o;rw[if_pos (zoe.2 hq)]at jl;have qq:=zHi jl;clear jl;go_wp2_with (at_builtin;go_loud(refine zat (v:=.slice VC cl.length vcc) (n:=cl.length) (m:=1) rfl _ _ rfl zdV zam zcg rfl (HO.o.keep (n:=w'.heap.size) Bw) rfl rfl rfl (sl_part (p:=(pn,q)) (zaq _ _ _ Mcx)) McP Mcu Mcz ?_);intro v3 w3 h1 h2 h3)
        have R1:=(vK.o.below (n:=w'.heap.size) (W_two w' _ _)).grown h2 (fun e=>(pe.o mb e.symm).2.1 rfl) (fun e=>(pe.o I e.symm).2.2 rfl);have M1:=zkE ((HM.o.alloc _).alloc _) h2 (fun j hj=>by have:=pe.o j hj;omega);have G1:=row_gr (zcw (zcw eh.o _) _) h2 (fun j hj=>(pe.o j hj).1);have S1:=h2.size;simp only[World.size_alloc]at S1;go_roundg (gk-1)
        case measure=>omega
        case rel=>exact⟨done++[(pn,zaA q)],left.eraseIdx i,jS.o,R1,by rw[qq.o];exact h1,M1,G1,by omega,by omega⟩
       ·have jl:=ee.o;rw[if_neg (fun h=>hq (zoe.1 h))]at jl;have qq:=zHi jl;clear jl;go_wp2_with fail
        go_roundg (gk-1)
        case measure=>omega
        case rel=>exact⟨done++[(pn,zaA q)],left.eraseIdx i,jS.o,vK.o.below (n:=w'.heap.size) Bw,by rw[qq.o];simpa using HO.o.keep (n:=w'.heap.size) Bw,HM.o.alloc _,zcw eh.o _,by omega,by simp;omega⟩

import Derived.Test.YtegdimedhfafjaaGreatDoorJV
import Derived.Test.YtegdimedhfafjaaGreatDoorO8
set_option linter.all false
set_option maxRecDepth 100000
set_option maxHeartbeats 4000000
namespace Go.Proofs.YtegdimedhfafjaaGreatDoor
open Go.RowKit Go.Shelf
attribute [local go_sem] World.cell?_alloc_mark zaf za5 zao za8 zav zaw zax zay zaz za0 za1
attribute [local go_sem] zaq zad
theorem look_will{base:Nat}{W:World}{B:List Nat}{d c p wl r:Nat}{mv:Value}{s:St}(h:PplAt base W B d c p wl r mv s)(n:ByteArray):
 ∃A cc,(∀W',Below W.heap.size W W'->(Instr.lookup 91 (.map (some wl)) (.string n) false).run Tryz.prog W'=.ok (.slice A (zbw s n).length cc) W')/\Ro W 62 zaa A (zbw s n):=by
 obtain⟨m,k1,k2⟩:=h.wills;have hl:=fun W' (hB:Below W.heap.size W W')=>zb4 mapSP (k1.below hB).at n
 rcases k2 n with⟨h1,h2⟩|⟨A,cc,h1,h2⟩
 ·rw[h1]at hl;refine⟨none,0,fun W' hB=>?_,by rw[h2];exact Ro.nil⟩;rw[h2];exact hl W' hB
 ·rw[h1]at hl;exact⟨A,cc,hl,h2⟩
theorem noB_nil{s:ByteArray}(h:noB s=true):s=⟨#[]⟩:=by
 unfold noB at h;have h1:s.toList=(⟨#[]⟩:ByteArray).toList:=by rw[List.isEmpty_iff.1 h,ByteArray.toList_eq]
 have h2:zae s ⟨#[]⟩=true:=by unfold zae;rw[h1];simp
 exact za2.1 h2
theorem two_gr{w W W':World}{C m:Nat}(h:w.grownBy W (some C))(hm:w.heap.size<=m)(t:Two2 W W' C m):w.grownBy W' (some C):=
 have b:=t.below 0 (Nat.zero_le _) (Nat.zero_le _) (Nat.zero_le _);⟨b.os.trans h.os,b.tape.trans h.tape,b.output.trans h.output,Nat.le_trans h.size t.size,fun k hk ai=>(t.others k (Nat.lt_of_lt_of_le hk h.size) (fun e=>ai (by rw[e])) Mcm).trans (h.block k hk ai)⟩
theorem zk7{w W W':World}{n:Nat}{row:Option Nat}(h:w.grownBy W row)(hb:Below n W W')(hn:w.heap.size<=n):w.grownBy W' row:=
 ⟨hb.os.trans h.os,hb.tape.trans h.tape,hb.output.trans h.output,Nat.le_trans h.size hb.size,fun k hk ai=>(hb.block k Mcm).trans (h.block k hk ai)⟩
structure EstN (w:World) (h C m L R:Nat):Prop where
 gc:C<w.heap.size
 gh:w.heap.size<=h
 gm:w.heap.size<=m
 gl:w.heap.size<=L
 gr:w.heap.size<=R
 hm:h≠m
 hl:h≠L
 hr:h≠R
 ml:m≠L
 mr:m≠R
 lr:L≠R
theorem own_any{rest:Rat}{law:Law}(hs:zaJ rest)(eV:za9 16 law.num law.den=true):
 IntKind.i64.wrap (rest.num*law.num)=rest.num*law.num/\IntKind.i64.wrap ((rest.den:Int)*law.den)=(rest.den:Int)*law.den/\
 ∀W:World,Calls Tryz.prog 120 #[.int .i64 (rest.num*law.num),.int .i64 ((rest.den:Int)*law.den)] W (Ret W (zaC (rest*Rat.divInt law.num law.den))):=by
 obtain⟨h1,h2,_,_⟩:=zbk eV;have hd:=eV;unfold za9 at hd;simp only[Bool.and_eq_true,decide_eq_true_eq]at hd;have yy:(rest.den:Int)<=1000000000:=by have:=hs.2;omega
 have fO:0<(rest.den:Int):=by have:=rest.den_pos;omega
 obtain⟨m1,n1⟩:=zaN hs.1 (show law.num.natAbs<=1000000000 by omega);obtain⟨m2,n2⟩:=zaN (show(rest.den:Int).natAbs<=1000000000 by omega) (show law.den.natAbs<=1000000000 by omega);have m4:0<(rest.den:Int)*law.den:=Int.mul_pos fO Mcm;refine⟨IntWalk.i64_in _ Mcm,IntWalk.i64_in _ Mcm,fun W=>?_⟩;have e:rest*Rat.divInt law.num law.den=Rat.divInt (rest.num*law.num) ((rest.den:Int)*law.den):=by
  rw[zgQ,h1,h2]
 rw[e];exact zdL _ _ W Mcm m4 Mcm
theorem own_ok{rest:Rat}{law:Law}(hN:IsN 720720 rest)(h0:0<=rest)(h1:rest<=1)(eV:za9 16 law.num law.den=true):
 0<=rest*Rat.divInt law.num law.den/\rest*Rat.divInt law.num law.den<=rest/\zaJ (rest*Rat.divInt law.num law.den)/\zaJ (rest-rest*Rat.divInt law.num law.den):=by
 obtain⟨⟨ld,ld0,ld1,l1⟩,l2,l3⟩:=isN_law eV;generalize Rat.divInt law.num law.den=la at*;have iX:0<=rest*la:=Rat.mul_nonneg h0 l2;have kY:rest*la<=rest:=by
  have:=Rat.mul_nonneg h0 (show 0<=1-la by grind);grind
 have hn:=zki hN l1;refine⟨iX,kY,zcb iX McG (zeu Mcm Mcm hn),zcb McG McG (zeu (n:=720720*ld) Mcm Mcm (zgX (zld hN) hn))⟩
theorem zg9{l:List Tree}{q t:Rat}{out:Parts}{fl:Bool}(h0:0<=q)(h:Bd out t):Bd (zcv l q (out,fl)).1 (t+q):=by
 rw[zcv];have h1:=zhM (zct (zeB h0 l.length)) (l:=l) (fl:=fl||bigQ (q*(1/(l.length:Rat)))) h;exact h1.up6 (by have:=zk2 h0 l.length;grind)
theorem zhO{W:World}{P o k:Nat}{v:Value}(h:k≠P):(W.setCell ⟨P,o,none⟩ v).heap[k]?=W.heap[k]?:=by
 have hb:¬P=k:=fun e=>h e.symm
 simp[World.setCell,Array.getElem?_modify,hb]
theorem row_gr{w W W':World}{C:Nat}{row:Option Nat}(h:w.grownBy W (some C))(k:W.grownBy W' row)(hr:∀j,row=some j->w.heap.size<=j):w.grownBy W' (some C):=
 ⟨k.os.trans h.os,k.tape.trans h.tape,k.output.trans h.output,Nat.le_trans h.size k.size,fun i hi ai=>(k.block i (Nat.lt_of_lt_of_le hi h.size) (fun e=>by have:=hr i e.symm;omega)).trans (h.block i hi ai)⟩
theorem zk8{W W':World}{C:Nat}{f:Bool}{row:Option Nat}(h:MarkAt W C f)(k:W.grownBy W' row)(hr:∀j,row=some j->j≠C):MarkAt W' C f:=(k.block C (zab h) (fun e=>hr C e.symm rfl)).trans h
theorem zlG{α:Type}{W:World}{base:Nat}{e:TypeId}{size:Nat}{f:α->List Value}{v:Value}{xs:List α}(h:OwnS W base e size f v xs){j:Nat}(hj:za7 v=some j):∃cur,W.heap[j]?=some (.cells cur e (0,0)):=by
 rcases h with⟨rfl,_⟩|⟨g,o,c,cur,rfl,_,hg,_⟩
 ·cases hj
 ·simp only[za7,Option.some.injEq]at hj;subst hj;exact⟨cur,hg⟩
theorem ziF{W:World}{b r:Nat}{K V:Type}{ek:K->Value}{ev:V->Value}{m left:List (K×V)}(h:RangeAt W b r ek ev m left){j:Nat}{cur:Array Value}{t:TypeId}{fr:Nat×Nat}(hj:W.heap[j]?=some (.cells cur t fr)):j≠b/\j≠r:=by
 obtain⟨es,clock,since,seen,c0,h1,_,_,_,h5,_⟩:=h;refine⟨fun e=>?_,fun e=>?_⟩
 ·subst e;rw[h1]at hj;simp at hj
 ·subst e;rw[h5]at hj;simp at hj
theorem zob{q:Rat}:0<q↔0<q.num:=by rw[Rat.lt_iff];simp
theorem W_two(w:World)(o1 o2:Obj):Below w.heap.size w ((w.alloc o1).alloc o2):=zac (zac (Below.refl _ _) _) _
def LK(W W':World):Prop:= ∀(k:Nat) (cur:Array Value) (fr:Nat×Nat),W.heap[k]?=some (.cells cur 204 fr)->W'.heap[k]?=W.heap[k]?
theorem LK.trans{a b c:World}(h:LK a b)(k:LK b c):LK a c:=fun i cur fr hi=>(k i cur fr ((h i cur fr hi).trans hi)).trans (h i cur fr hi)
theorem LK.below{n:Nat}{a b:World}(h:Below n a b)(hn:a.heap.size<=n:=by first|exact Nat.le_refl _|omega):LK a b:=fun i cur fr hi=>h.block i (Nat.lt_of_lt_of_le (Array.getElem?_eq_some_iff.1 hi).1 hn)
theorem LK.put{W:World}{R:Nat}{q0 q:Rat}(h:W.heap[R]?=some (zbu q0)):LK W ((W.setCell ⟨R,0,none⟩ (.int .i64 q.num)).setCell ⟨R,1,none⟩ (.int .i64 q.den)):=fun i cur fr hi=>by
 have ai:i≠R:=by
  intro e;subst e;rw[h]at hi;simp[zbu]at hi
 rw[zhO ai,zhO ai]
theorem LK.items{W W':World}{Q:Nat->Prop}{f:Nat}{es:List Ln}{l:List Tree}(h:LK W W')(k:ItemsN W Q f es l):ItemsN W' Q f es l:=k.same h
theorem LK.ro{W W':World}{A:Option Addr}{es:List Ln}(h:LK W W')(k:Ro W 204 lnC A es):Ro W' 204 lnC A es:=k.same (fun b cur fr hx _=>h b cur fr hx)
def zlH(law:Law):Obj:=.cells #[.int .i64 law.frm,.bool law.stems,.int .i64 law.num,.int .i64 law.den] 72
structure EstSt (w W:World) (b h C m L R:Nat) (law:Law) (n:ByteArray) (x:Parts×Bool) (rest:Rat):Prop where
 heir:HeirAt W h b law n C m
 lawB:W.heap[L]?=some (zlH law)
 restB:W.heap[R]?=some (zbu rest)
 has:HasAt W m x.1
 mark:MarkAt W C x.2
 gr:w.grownBy W (some C)
section
variable {w W W':World} {b h C m L R:Nat} {law:Law} {n:ByteArray} {x y:Parts×Bool} {rest q:Rat}
theorem EstSt.keep{k:Nat}(e:EstSt w W b h C m L R law n x rest)(hB:Below k W W')(hk:W.heap.size<=k:=by first|exact Nat.le_refl _|omega):EstSt w W' b h C m L R law n x rest:=
 ⟨e.heir.keep hB hk,(hB.block L (Nat.lt_of_lt_of_le (zab e.lawB) hk)).trans e.lawB,(hB.block R (Nat.lt_of_lt_of_le (zab e.restB) hk)).trans e.restB,e.has.keep hB hk,e.mark.keep hB (Nat.lt_of_lt_of_le (zab e.mark) hk),zk7 e.gr hB (Nat.le_trans e.gr.size hk)⟩
theorem EstSt.two(hn:EstN w h C m L R)(e:EstSt w W b h C m L R law n x rest)(t:Two2 W W' C m)(h1:HasAt W' m y.1)(h2:MarkAt W' C y.2):EstSt w W' b h C m L R law n y rest:=by
 have c1:=hn.gc;have c2:=hn.gh;have c3:=hn.gm;have c4:=hn.gl;have c5:=hn.gr
 have d1:=hn.hm;have d2:=hn.ml;have d3:=hn.mr
 exact⟨(t.others h (zab e.heir) Mcm d1).trans e.heir,(t.others L (zab e.lawB) Mcm (fun z=>d2 z.symm)).trans e.lawB,(t.others R (zab e.restB) Mcm (fun z=>d3 z.symm)).trans e.restB,h1,h2,two_gr e.gr c3 t⟩
theorem EstSt.put(hn:EstN w h C m L R)(e:EstSt w W b h C m L R law n x rest)(q:Rat):EstSt w ((W.setCell ⟨R,0,none⟩ (.int .i64 q.num)).setCell ⟨R,1,none⟩ (.int .i64 q.den)) b h C m L R law n x q:=by
 have c1:=hn.gc;have c5:=hn.gr
 have d1:=hn.hr;have d2:=hn.lr;have d3:=hn.mr
 have hs:∀k,k≠R->((W.setCell ⟨R,0,none⟩ (.int .i64 q.num)).setCell ⟨R,1,none⟩ (.int .i64 q.den)).heap[k]?=W.heap[k]?:=fun k hk=>(zhO hk).trans (zhO hk)
 refine⟨(hs h d1).trans e.heir,(hs L d2).trans e.lawB,zeo e.restB,e.has.block (hs m d3),(hs C Mcm).trans e.mark,?_⟩;exact⟨e.gr.os,e.gr.tape,e.gr.output,by simpa using e.gr.size,fun k hk ai=>(hs k Mcm).trans (e.gr.block k hk ai)⟩
end
theorem zoL(base b C:Nat)(s:St)(last:Int)(law:Law)(n:ByteArray)(w:World)(rG:∀W,w.grownBy W (some C)->PeoAt base W b s)(hG:GoodSt s last)(hM:MarkAt w C false)(bV:s.children.length<=1000)(fI:s.marriages.length<=1000)(bW:(zbw s n).length<=1000)(eV:za9 16 law.num law.den=true):
 Calls Tryz.prog 92 #[.pointer (some ⟨b,0,none⟩),law.v,.string n,.pointer (some ⟨C,0,none⟩)] w fun e w'=>∃v,e=.returned v/\OwnS w' w.heap.size 62 3 zaa v (zch s law n).1/\MarkAt w' C (zch s law n).2/\w.grownBy w' (some C):=by
 have JR:=rG w (zdC _ _);have tS:∀(W:World),w.grownBy W (some C)->PeoAt base W b s:=rG;obtain⟨B,d,c,p,wl,r,mv,tv,la,co,jI,yJ⟩:=JR;have hb:=zab jI;unfold WldC at jI;obtain⟨-,-,-,-,c4⟩:=cF5 jI;obtain⟨WA,wcap,fq,FG⟩:=look_will yJ n;have yK:=hG.wills n;have kB:∀q∈zbw s n,noB q.1=false:=by
  intro q hq;unfold zbw at hq;cases hf:s.wills.reverse.find? (fun x=>zae x.1 n)with
  |none=>rw[hf]at hq;simp at hq
  |some x=>
   rw[hf]at hq;exact hG.willNames x (by simpa using List.mem_of_find?_eq_some hf) q (by simpa using hq)
 have vO:=zab hM;obtain⟨HM,oa,HP,iQ,EZ,HG⟩:=yH6 hM FG tS yK kB hG
 have pJ:zch s law n=(let y:=zdd s n (zbw s n) ([],false) 1
  let sp:=zcl s n
  let lines:=zb7 s law.stems n (zaX s) n
  if lines.isEmpty then zcK sp y.2 y.1 else
  if noB sp then zcv lines y.2 y.1 else
  zcv lines (y.2-y.2*Rat.divInt law.num law.den) (zcK sp (y.2*Rat.divInt law.num law.den) y.1)):=rfl
 have tu:=zHi pJ;have dl:∀W',Below w.heap.size w W'->(Instr.lookup 91 (.map (some wl)) (.string n) false).run Tryz.prog W'=.ok (.slice WA (zbw s n).length wcap) W':=fq;generalize zch s law n=EF at*;generalize ic:zbw s n=ws at*;have BY:=zHi ic;clear ic pJ jI yJ fq FG yK kB hG hM tS rG;unfold Law.v;go_enter Tryz.func92,Tryz.ntmps92
 have cX:= @run_makeMap Tryz.prog;have pV:=dl ((((w.alloc (zlH law)).alloc (.map #[] 0)).alloc (.cells #[.pointer (some ⟨b,0,none⟩),.int .i64 law.frm,.bool law.stems,.int .i64 law.num,.int .i64 law.den,.string n,.pointer (some ⟨C,0,none⟩),.map (some (w.heap.size+1))] 176)).alloc (.cells #[.int .i64 1,.int .i64 1] 56)) Bw;unfold zlH at pV;go_upto_block 0 with fail
 have hN:EstN w (w.heap.size+1+1) C (w.heap.size+1) w.heap.size (w.heap.size+1+1+1):=⟨vO,by omega,by omega,by omega,by omega,by omega,by omega,by omega,by omega,by omega,by omega⟩
 have HN:=zHi hN;have hC0:C≠w.heap.size:=Mcm;clear hN dl pV cX;go_cut [12,34]from 35 (fun _ _ wc=>EstSt w wc b (w.heap.size+1+1) C (w.heap.size+1) w.heap.size (w.heap.size+1+1+1) law n (zdd s n ws ([],false) 1).1 (zdd s n ws ([],false) 1).2)
 case first=>
  go_wp2_with fail
  go_loopw [34] (fun i wr=>∃(k:Nat) (x:Parts×Bool) (rest:Rat),k<=ws.length/\i=.int .i64 k/\Hid ((x,rest)=zdd s n (ws.take k) ([],false) 1)/\EstSt w wr b (w.heap.size+1+1) C (w.heap.size+1) w.heap.size (w.heap.size+1+1+1) law n x rest) (fun i _=>ws.length-(intOf i).toNat)
  case atStart=>
   refine⟨0,([],false),1,Nat.zero_le _,rfl,rfl,?_,?_,?_,?_,?_,?_⟩
   ·exact zak (zas _ _ _ Mcp)
   ·exact zak (zak (zak (zas _ _ _ rfl)))
   ·exact zas _ _ _ Mcp
   ·refine⟨[],?_,by simp,fun nm=> .inl ⟨rfl,rfl⟩⟩;have h0:MapS ((w.alloc (.cells #[.int .i64 law.frm,.bool law.stems,.int .i64 law.num,.int .i64 law.den] 72)).alloc (.map #[] 0)) (w.alloc (.cells #[.int .i64 law.frm,.bool law.stems,.int .i64 law.num,.int .i64 law.den] 72)).heap.size ekS (fun v:Value=>v) ([]:List (ByteArray×Value)):=MapS.new _;rw[World.size_alloc]at h0;exact h0.below (n:=w.heap.size+1+1) (zac (zac (Below.refl _ _) _ Mcp) _ Mcp) Mcp
   ·exact((((HM.o.alloc _).alloc _).alloc _).alloc _)
   ·exact zcq (zcq (zcq (zcq (zdC _ _) _) _) _) _
  case round=>
   obtain⟨k,x,rest,hk,rfl,HX,aj⟩:=hrel;have yo:=aj.restB;have dj:=aj.gr;have aH:=zHi aj;have r0:wr.cell? ⟨w.heap.size+1+1+1,0,none⟩=some (.int .i64 rest.num):=by simp only[World.cell?,yo,zbu];rfl
   have r1:wr.cell? ⟨w.heap.size+1+1+1,1,none⟩=some (.int .i64 rest.den):=by simp only[World.cell?,yo,zbu];rfl
   have nA:=zab yo;have Cz:w.heap.size+1+1+1≠wr.heap.size:=Mcm;have dX:=oa.o.kept dj HM.o Mco;clear aj yo;by_cases aa:k<ws.length
   ·obtain⟨b',off,rfl,cC,hc⟩:=(Ro.sl zan dX).at aa;have bR:=will_snoc s n ws ([],false) 1 aa;have jz:=zk3 (s:=s) (frm:=n) iQ.o k;rw[<-HX.o]at bR jz;have bJ:ws[k]∈ws:=List.getElem_mem aa;have cS:=iQ.o.pos _ bJ;have xv:=iQ.o.isN _ bJ;have fS:=EZ.o _ bJ;have GT:ws[k].2<=1:=Rat.le_trans (zgV (l:=ws) (fun q hq=>by have:=iQ.o.pos q hq;grind) _ bJ) iQ.o.le;generalize ws[k]=pt at*;obtain⟨pn,pq⟩:=pt;have i0:wr.cell? ⟨b',off+k*3,none⟩=some (.string pn):=hc 0 _ rfl;have i1:wr.cell? ⟨b',off+k*3+1,none⟩=some (.int .i64 pq.num):=hc 1 _ rfl;have i2:wr.cell? ⟨b',off+k*3+2,none⟩=some (.int .i64 pq.den):=hc 2 _ rfl;have yh:zaJ pq:=zcb (by simp only at cS;grind) GT (zeu Mco Mco xv);have au:(k:Int)<(ws.length:Int):=Mcm;have aP:(0:Int)<=(k:Int):=Mcm;have cF:zdX s pn n=ziC s pn n:=by rw[able_q,fS];rfl
    simp only[cF]at bR;obtain⟨ed,lG,lP⟩:=yH3 bR jz (fun W hW=>HP.o W (zk7 dj hW (n:=wr.heap.size) dj.size));clear hc bR jz bJ cS xv fS GT cF dX;have fw:=zHi (fun W (hW:Below wr.heap.size wr W)=>zk1 base b (w.heap.size+1+1) C (w.heap.size+1) s law n pn W (lP.o W hW) (aH.o.keep hW).heir);generalize ziC s pn n=ab at*;cases ab
    ·go_wp2_with (go_at_call 127;refine(fw.o _ Bw).mono ?_;rintro e wq ⟨rfl,z,rfl⟩)
     go_round
     case rel=>exact⟨k+1,x,rest,by omega,by go_num,by show _=_;simpa using ed.o.symm,aH.o.keep (k:=wr.heap.size) Bw⟩
     case measure=>simp[intOf];omega
    ·go_wp2_with (first
      |(go_at_call 127;refine(fw.o _ Bw).mono ?_;rintro e wq ⟨rfl,z,rfl⟩)
      |(go_at_call 128
        go_loud(refine(zg4 b (w.heap.size+1+1) C (w.heap.size+1) law n pn pq x.1 x.2 _ (aH.o.keep (k:=wr.heap.size) Bw).heir (aH.o.keep (k:=wr.heap.size) Bw).mark (aH.o.keep (k:=wr.heap.size) Bw).has Mcm Mcm Mcm lG.o.bd.good (lG.o.bd.share (by have:=lG.o.nn;grind) pn) yh).mono ?_)
        rintro e wq ⟨rfl,g1,g2,g3⟩;have ck:=(aH.o.keep (W':=(wr.alloc (.cells #[.string pn,.int .i64 pq.num,.int .i64 pq.den] 62)).ext z) (k:=wr.heap.size) Bw).two HN.o g3 g1 g2;have hp:wq.heap[wr.heap.size]?=some (.cells #[.string pn,.int .i64 pq.num,.int .i64 pq.den] 62):=(g3.others _ Mcv Mcm Mcm).trans (zbv (zas _ _ _ rfl));have cN:=zHi ck;have q0:wq.cell? ⟨w.heap.size+1+1+1,0,none⟩=some (.int .i64 rest.num):=by simp only[World.cell?,ck.restB,zbu];rfl
        have q1:wq.cell? ⟨w.heap.size+1+1+1,1,none⟩=some (.int .i64 rest.den):=by simp only[World.cell?,ck.restB,zbu];rfl
        have f0:wq.frozen? ⟨w.heap.size+1+1+1,0,none⟩=false:=by simp only[World.frozen?,ck.restB,zbu];rfl
        have f1:wq.frozen? ⟨w.heap.size+1+1+1,1,none⟩=false:=by simp only[World.frozen?,ck.restB,zbu];rfl
        obtain⟨-,p1,p2⟩:=cF3 hp;have JV:=zab ck.restB
        clear ck hp g1 g2 g3)
      |(go_at_call 88;refine(zh8 rest pq _ lG.o.small yh).mono ?_;rintro e wq2 ⟨rfl,z2,rfl⟩;simp only[zaC]))
     go_round
     case rel=>exact⟨k+1,zcK pn pq x,rest-pq,by omega,by go_num,by show _=_;simpa using ed.o.symm,(cN.o.put HN.o (rest-pq)).keep (zap _ z2)⟩
     case measure=>simp[intOf];omega
   ·have au:¬(k:Int)<(ws.length:Int):=Mcm;rw[List.take_of_length_le Mcm]at HX;go_wp2_with fail
    go_meet
    rw[<-HX.o];exact aH.o
 case rest=>
  have jz:=zk3 (s:=s) (frm:=n) iQ.o ws.length;rw[List.take_of_length_le (Nat.le_refl _)]at jz;generalize zdd s n ws ([],false) 1=y at*;obtain⟨x,rest⟩:=y;have lG:=zHi jz;have dj:=hcut.gr;obtain⟨aH,lP⟩:=yH2 hcut (fun W hW=>HP.o W (zk7 dj hW (n:=wc.heap.size) dj.size));clear jz hcut oa iQ EZ;obtain⟨cU,im⟩:=yH2 (fun W (hW:Below wc.heap.size wc W)=>zl2 base b (w.heap.size+1+1) C (w.heap.size+1) s law n (fun c hc=>(HG.o.kids c hc).2) bV (zaX s) n W (lP.o W hW) (aH.o.keep hW).heir (zk4 HG.o.acyc n)) (fun W (hW:Below wc.heap.size wc W)=>zj9 base b s n W (lP.o W hW) Mcm);generalize cj:zaK s n=sp at*
  go_upto_region 11 with(first
   |(go_at_call 129;refine(cU.o _ Bw).mono ?_;rintro e wq ⟨v,es,rfl,o1,o2,o3,o4⟩;obtain⟨VA,vc,rfl,_,jV⟩:=o1.sl zjG;obtain⟨fM,d9⟩:=yH2 o1 o2;clear o1 o2)
   |(go_at_call 95;refine(im.o _ Bw).mono ?_;rintro e wq2 ⟨rfl,z,rfl⟩))
  have cC:b<wc.heap.size:=Nat.lt_of_lt_of_le hb dj.size;have be:=o3.size;have fw:=zHi (fun W (hW:Below wq.heap.size wq W)=>zk1 base b (w.heap.size+1+1) C (w.heap.size+1) s law n sp W (lP.o W (o3.trans (hW.mono be))) (aH.o.keep (o3.trans (hW.mono be))).heir);have yx:zcl s n=if(!noB sp&&ziC s sp n)=true then sp else⟨#[]⟩:=by unfold zcl;rw[cj,able_q]
  generalize zcl s n=hs at*;generalize ziC s sp n=ab at*;go_cut [59,60,61,62,63,64,65,66]from 67 (fun _ _ _ _ _ _ _ v66 W=>v66=.bool (!noB sp&&!ab)/\∃z,W=wq.ext z)
  case first=>
   cases ab;all_goals(go_wp2_with (go_at_call 127;refine(fw.o _ Bw).mono ?_;rintro e wq2 ⟨rfl,z2,rfl⟩))
   all_goals go_meet
   all_goals exact⟨zaO (by first|(simp[noB, *];done)|(rw[Bool.eq_iff_iff];simp[noB];simp[*];done)),zaV Bw⟩
  case rest=>
   obtain⟨rfl,z2,rfl⟩:=hcut;go_upto_if 66 with fail
   go_cut [14,66]from 67 (fun v14 _ W=>v14=.string hs/\W=wq.ext z2)
   case first=>
    cases fS:noB sp
    ·cases ab
     ·exact Mbq
     ·exact Mbq
    ·cases ab;all_goals go_wp2_with fail
     all_goals go_meet
     all_goals rw[fS]at yx
     all_goals have bR:sp=⟨#[]⟩:=noB_nil fS
     all_goals exact⟨by rw[yx,bR];rfl,rfl⟩
   case rest=>
    obtain⟨rfl,rfl⟩:=hcut;have fj:Below wq.heap.size wq (wq.ext z2):=zap _ _;have aC:Below wc.heap.size wc (wq.ext z2):=o3.trans (fj.mono be);have mT:=aH.o.keep aC;obtain⟨vn,nZ⟩:=yH2 (fM.o.keep (n:=wq.heap.size) fj) (d9.o.keep (n:=wq.heap.size) fj);generalize wq.ext z2=W3 at*;have CB:=vn.o.ro;obtain⟨VA2,vc2,He,_,nA⟩:=CB;simp only[Value.slice.injEq]at He;obtain⟨rfl,_,rfl⟩:=He;obtain⟨BK,bL⟩:=yH2 nA mT;clear mT nA fj aC fM d9 aH fw cU im o3 be yx cj;have rz:=tu.o;have ve:=zHi nZ.o.len;go_upto_block 2 with fail
    go_cut [15]from 67 (fun _ W=>∃rest',EstSt w W b (w.heap.size+1+1) C (w.heap.size+1) w.heap.size (w.heap.size+1+1+1) law n EF rest'/\Bd EF.1 1)
    case first=>
     have r0:W3.cell? ⟨w.heap.size+1+1+1,0,none⟩=some (.int .i64 rest.num):=by simp only[World.cell?,bL.o.restB,zbu];rfl
     have r1:W3.cell? ⟨w.heap.size+1+1+1,1,none⟩=some (.int .i64 rest.den):=by simp only[World.cell?,bL.o.restB,zbu];rfl
     have l2:W3.cell? ⟨w.heap.size,2,none⟩=some (.int .i64 law.num):=by simp only[World.cell?,bL.o.lawB,zlH];rfl
     have l3:W3.cell? ⟨w.heap.size,3,none⟩=some (.int .i64 law.den):=by simp only[World.cell?,bL.o.lawB,zlH];rfl
     have nA:=zab bL.o.restB;have tP:=zab bL.o.lawB;have ia:=lG.o.nn;have bG:=lG.o.le;have dt:=lG.o.small;obtain⟨d8,qz⟩:=yH2 lG.o.bd rz;have vZ:=zjH (s:=s) (stems:=law.stems) (frm:=n) bV (zaX s) n;generalize zb7 s law.stems n (zaX s) n=tr at*;have rh:=zHi vZ;clear rz vZ tu;by_cases he:es.length=0
     ·have Kz:(((es.length:Nat):Int)==0)=true:=by rw[he];rfl
      have Lx:tr=[]:=List.eq_nil_of_length_eq_zero (by have:=ve.o;omega);clear he;go_wp2_with (go_at_call 128;refine(zg4 b (w.heap.size+1+1) C (w.heap.size+1) law n hs rest x.1 x.2 _ bL.o.heir bL.o.mark bL.o.has Mcm Mcm Mcm d8.o.good (d8.o.share McG hs) dt).mono ?_;rintro e w6 ⟨rfl,g1,g2,g3⟩)
      go_meet
      have h1:=qz.o;rw[Lx]at h1;rw[h1];exact⟨rest,bL.o.two HN.o g3 g1 g2,(zfA (fl:=x.2) d8.o ia).up6 McG⟩
     ·have Kz:(((es.length:Nat):Int)==0)=false:=by simpa using he
      have ai:tr≠[]:=fun e=>he (by have:=ve.o;rw[e]at this;exact this)
      have j9:tr.isEmpty=false:=by cases tr with|nil=>exact absurd rfl ai|cons _ _=>rfl
      have iN:=zHi ai;clear ai he;cases fS:noB hs
      ·have sL:hs.toList.isEmpty=false:=fS;have DL:(!hs.toList.isEmpty)=true:=by rw[sL];rfl
       have gz:=qz.o;rw[j9,fS]at gz;simp only[Bool.false_eq_true,if_false]at gz;have qA:=zHi gz;obtain⟨ow1,ow2,ow3⟩:=own_any dt eV;obtain⟨oo1,oo2,oo3,oo4⟩:=own_ok lG.o.isN ia bG eV;generalize Rat.divInt law.num law.den=la at*;generalize ae:rest*la=own at*;have dH:=zHi ow3;clear gz ow3 ae j9 fS
       go_wp2_with (first
        |(go_at_call 120;refine(dH.o _).mono ?_;rintro e w5 ⟨rfl,z5,rfl⟩;simp only[zaC])
        |(go_at_call 128
          refine(zg4 b (w.heap.size+1+1) C (w.heap.size+1) law n hs own x.1 x.2 _ (bL.o.keep (k:=W3.heap.size) Bw).heir (bL.o.keep (k:=W3.heap.size) Bw).mark (bL.o.keep (k:=W3.heap.size) Bw).has Mcm Mcm Mcm d8.o.good (d8.o.share McG hs) oo3).mono ?_;rintro e w6 ⟨rfl,g1,g2,g3⟩;have iJ:=(bL.o.keep (W':=(W3.ext z5).alloc (.cells #[.int .i64 own.num,.int .i64 own.den] 56)) (k:=W3.heap.size) Bw).two HN.o g3 g1 g2;have ob:=zHi iJ;have hO:w6.heap[(W3.ext z5).heap.size]?=some (zbu own):=(g3.others _ Mcp Mcv Mcv).trans (zas _ _ _ rfl);have q0:w6.cell? ⟨w.heap.size+1+1+1,0,none⟩=some (.int .i64 rest.num):=by simp only[World.cell?,iJ.restB,zbu];rfl
          have q1:w6.cell? ⟨w.heap.size+1+1+1,1,none⟩=some (.int .i64 rest.den):=by simp only[World.cell?,iJ.restB,zbu];rfl
          have f0:w6.frozen? ⟨w.heap.size+1+1+1,0,none⟩=false:=by simp only[World.frozen?,iJ.restB,zbu];rfl
          have f1:w6.frozen? ⟨w.heap.size+1+1+1,1,none⟩=false:=by simp only[World.frozen?,iJ.restB,zbu];rfl
          have o0:w6.cell? ⟨W3.heap.size+z5.os.size,0,none⟩=some (.int .i64 own.num):=by simp only[<-zaf,World.cell?,hO,zbu];rfl
          have o1:w6.cell? ⟨W3.heap.size+z5.os.size,1,none⟩=some (.int .i64 own.den):=by simp only[<-zaf,World.cell?,hO,zbu];rfl
          have JV:=zab iJ.restB;go_loud(have Ft:=(LK.below (a:=W3) (n:=W3.heap.size) (b:=(W3.ext z5).alloc (.cells #[.int .i64 own.num,.int .i64 own.den] 56)) Bw).trans (zk6 g3 (bL.o.keep (k:=W3.heap.size) Bw).mark (bL.o.keep (k:=W3.heap.size) Bw).has))
          go_loud(have ij:=zHi (((Ft.trans (LK.put (q:=rest-own) iJ.restB)))))
          clear iJ hO g1 g2 g3 Ft)
        |(go_at_call 88;refine(zh8 rest own _ dt oo3).mono ?_;rintro e w7 ⟨rfl,z7,rfl⟩;simp only[zaC])
        |(go_at_call 130
          refine(zhi b (w.heap.size+1+1) C (w.heap.size+1) law n Mcm Mcm Mcm (zaX s) es tr _ VA es.length vc (rest-own) (1-rest+own) (zcK hs own x).1 (zcK hs own x).2 _ ((ij.o.trans (LK.below (zap _ z7))).items nZ.o) rh.o ((ij.o.trans (LK.below (zap _ z7))).ro BK.o) iN.o ve.o ((ob.o.put HN.o (rest-own)).keep (zap _ z7)).heir ((ob.o.put HN.o (rest-own)).keep (zap _ z7)).mark ((ob.o.put HN.o (rest-own)).keep (zap _ z7)).has McG McG oo4 (zfA (fl:=x.2) d8.o oo1) McG).mono ?_;rintro e w8 ⟨rfl,g1,g2,g3⟩;have mU:=((ob.o.put HN.o (rest-own)).keep (zap _ z7)).two HN.o g3 g1 g2;have qW:=zHi mU
          clear mU g1 g2 g3))
       go_meet
       rw[qA.o];exact⟨rest-own,qW.o,(zg9 (fl:=(zcK hs own x).2) (show 0<=rest-own by grind) (zfA (n:=hs) (fl:=x.2) d8.o oo1)).up6 McG⟩
      ·have sL:hs.toList.isEmpty=true:=fS;have DL:(!hs.toList.isEmpty)=false:=by rw[sL];rfl
       have gz:=qz.o;rw[j9,fS]at gz;simp only[Bool.false_eq_true,if_false,if_true]at gz;have qA:=zHi gz;clear gz j9 fS
       go_wp2_with (go_at_call 130
                    refine(zhi b (w.heap.size+1+1) C (w.heap.size+1) law n Mcm Mcm Mcm (zaX s) es tr _ VA es.length vc rest (1-rest) x.1 x.2 _ nZ.o rh.o BK.o iN.o ve.o bL.o.heir bL.o.mark bL.o.has ia bG dt d8.o McG).mono ?_;rintro e w8 ⟨rfl,g1,g2,g3⟩;have mU:=bL.o.two HN.o g3 g1 g2;have qW:=zHi mU
                    clear mU g1 g2 g3)
       go_meet
       rw[qA.o];exact⟨rest,qW.o,(zg9 (fl:=x.2) ia d8.o).up6 McG⟩
    case rest=>
     obtain⟨rest',aj,da⟩:=hcut;have d8:=zHi da;have zS:=aj.heir;have zW:=aj.mark;have Cj:=aj.gr;have FJ:=aj.has;have hh8:=zab zS;clear aj da rz tu ve BK vn nZ lP lG bL;obtain⟨W8,rfl⟩:∃x,x=wc:=⟨_,rfl⟩
     have Aw:=FJ.lt;obtain⟨mm,dm,cR,iB⟩:=FJ;unfold HeirAt at zS;obtain⟨-,-,-,-,-,-,-,e7⟩:=cF8 zS;obtain⟨DW,ww⟩:=zjx (P:=Tryz.prog) dm (t:=174) Tryz.underlying174;generalize dm.choose_spec.choose=cc at*;generalize dm.choose=ce at*;have Jr:∀j cur,W8.heap[j]?=some (.cells cur 62 (0,0))->j≠C:=fun j cur hj e=>by
      subst e;unfold MarkAt at zW;rw[zW]at hj;simp at hj
     obtain⟨Iz,Ij,qE,kL⟩:=yH4 zW Cj iB cR;have hs8:=Cj.size;have BJ:=zHi ww;clear zW Cj iB cR ww Jr dm zS;go_upto_block 6 with fail
     generalize hI:W8.heap.size=I at*;generalize Ax:w.heap.size+1=mb at*;obtain⟨Br,Ip⟩:=yH2 Ax hI;clear DW;go_wp2_with fail
     go_loopg [16] (mm.length+1) (fun gg v wr=>∃done left,Hid ((done++left).Perm mm)/\RangeAt wr mb I ekS (fun v:Value=>v) mm left/\OwnS wr w.heap.size 62 3 zaa v (colP EF.1 done)/\MarkAt wr C EF.2/\w.grownBy wr (some C)/\left.length<gg/\I<wr.heap.size)
     case atStart=>
      refine⟨[],mm,List.Perm.refl _,BJ.o,OwnS.nil,?_,?_,by omega,by simp;omega⟩
      ·exact Iz.o.alloc _
      ·exact zcq Ij.o _
     case round=>
      obtain⟨done,left,HP,sQ,ae,hm,hg,bf,hIl⟩:=hrel;obtain⟨cl,bk⟩:∃cl,cl=colP EF.1 done:=⟨_,rfl⟩
      rw[<-bk]at ae;have bZ:=zHi bk;clear bk;obtain⟨VC,vcc,rfl,_,LF⟩:=ae.sl zan;have Ce:∀j,za7 (.slice VC cl.length vcc)=some j->w.heap.size<=j/\j<wr.heap.size:=fun j hj=>ae.ge j hj
      rcases zkX (P:=Tryz.prog) sQ 0 with⟨h0,hrun⟩|⟨i,p,w',hi,hrun,hra',hgr',hsz,hent⟩
      ·have Co:=HP.o;rw[h0,List.append_nil]at Co;have pO:cl.Perm EF.1:=by
        rw[bZ.o];exact(Co.filterMap (zl4 EF.1)).trans (znZ d8.o.good kL.o qE.o)
       have eE:cl.length<=1000000000:=by rw[pO.length_eq];exact d8.o.len Rat.le_refl
       obtain⟨ez,zb,HO,HM,eb,tp⟩:=yH6 eE pO ae hm hg Ce;clear Co pO ae hm hg Ce sQ h0 eE;go_wp2_with (go_at_call 131;refine(sortP_any (.slice VC cl.length vcc) cl w.heap.size _ HO.o ez.o).mono ?_;rintro e wq ⟨rfl,L,s1,s2,s3,s4,s5⟩)
       go_ret
       have hL:L=EF.1:=zl5 d8.o.good (s1.trans zb.o) s2;rw[hL]at s3;exact⟨_,rfl,s3,zk8 HM.o s5 (fun j hj=>by have:=tp.o j hj;omega),row_gr eb.o s5 (fun j hj=>(tp.o j hj).1)⟩
      ·obtain⟨pn,pv⟩:=p;have gN:(pn,pv)∈mm:=HP.o.mem_iff.1 (List.mem_append_right _ (List.mem_of_getElem? hi));have Lm:pv=zaC (zag EF.1 pn):=by
        have h1:=zhI kL.o gN;rcases qE.o pn with⟨h2,_⟩|h2
        ·rw[h2]at h1;cases h1
        ·rw[h2]at h1;simpa using h1.symm
       subst Lm;have Ai:zl4 EF.1 (pn,zaC (zag EF.1 pn))=if 0<zag EF.1 pn then some (pn,zag EF.1 pn)else none:=rfl;have fO:=done_perm HP.o hi;have bj:=colP_snoc EF.1 done (pn,zaC (zag EF.1 pn));rw[<-bZ.o,Ai]at bj;obtain⟨ke,dZ⟩:=yH2 fO bj;have cu:cl.length<=1000000000:=by
        have h1:(colP EF.1 (done++left)).Perm EF.1:=(HP.o.filterMap (zl4 EF.1)).trans (znZ d8.o.good kL.o qE.o);have h2:=h1.length_eq;unfold colP at h2;rw[List.filterMap_append,List.length_append]at h2;have h3:=d8.o.len Rat.le_refl;have h4:=bZ.o;unfold colP at h4;rw[<-h4]at h2;omega
       have hel:(left.eraseIdx i).length+1=left.length:=by
        have:=(List.getElem?_eq_some_iff.1 hi).1;rw[List.length_eraseIdx_of_lt this];omega
       clear fO bj Ai gN hi;generalize zag EF.1 pn=q at*;have H8:(Instr.next (.pointer (some ⟨I,0,none⟩)) false 0).run Tryz.prog wr=.ok (.tuple #[.bool true,.string pn,.agg #[.int .i64 q.num,.int .i64 q.den]]) w':=hrun;have Gf:(Instr.entry (.pointer (some ⟨I,0,none⟩))).run Tryz.prog w'=.ok (.tuple #[.string pn,.agg #[.int .i64 q.num,.int .i64 q.den]]) w':=hent;have xV:∀j,some I=some j->w.heap.size<=j:=fun j hj=>by have:=Ip.o;simp at hj;omega
       have eW:=ae.grown hgr' (by
        cases hb:za7 (.slice VC cl.length vcc)with
        |none=>exact .inl rfl
        |some j=>
         right
         intro e;obtain⟨cur,sj⟩:=zlG ae hb
         exact(ziF sQ sj).2 MdN)
       have Gx:=zk8 hm hgr' (fun j hj=>by have:=xV j hj;omega);have fC:=row_gr hg hgr' xV;have wO:∀j,za7 (.slice VC cl.length vcc)=some j->w.heap.size<=j/\j≠mb/\j≠I:=fun j hj=>by
        obtain⟨cur,sj⟩:=zlG eW hj;exact⟨(eW.ge j hj).1,ziF hra' sj⟩
       obtain⟨ph,qX,vv,HO,HM,eb⟩:=yH6 wO hsz hra' eW Gx fC;have JE:I<w'.heap.size:=Mcm;have ic:w.heap.size<=w'.heap.size:=fC.size;clear sQ hra' ae eW hm Gx hg fC hrun hent hgr' Ce hsz wO;by_cases hq:0<q.num
       ·have jv:=dZ.o;rw[if_pos (zob.2 hq)]at jv;have qv:=zHi jv;clear jv;go_wp2_with (at_builtin;go_loud(refine zau (v:=.slice VC cl.length vcc) (n:=cl.length) (m:=1) rfl _ _ rfl zdQ zan zcd rfl (HO.o.keep (n:=w'.heap.size) Bw) rfl rfl rfl (sl_part (p:=(pn,q)) (zas _ _ _ Mcp)) McL Mcm Mcr ?_);intro v3 w3 h1 h2 h3)
        have R1:=(vv.o.below (n:=w'.heap.size) (W_two w' _ _)).grown h2 (fun e=>(ph.o mb e.symm).2.1 rfl) (fun e=>(ph.o I e.symm).2.2 rfl);have M1:=zk8 ((HM.o.alloc _).alloc _) h2 (fun j hj=>by have:=ph.o j hj;omega);have G1:=row_gr (zcq (zcq eb.o _) _) h2 (fun j hj=>(ph.o j hj).1);have S1:=h2.size;simp only[World.size_alloc]at S1;go_roundg (gk-1)
        case measure=>omega
        case rel=>exact⟨done++[(pn,zaC q)],left.eraseIdx i,ke.o,R1,by rw[qv.o];exact h1,M1,G1,by omega,by omega⟩
       ·have jv:=dZ.o;rw[if_neg (fun h=>hq (zob.1 h))]at jv;have qv:=zHi jv;clear jv;go_wp2_with fail
        go_roundg (gk-1)
        case measure=>omega
        case rel=>exact⟨done++[(pn,zaC q)],left.eraseIdx i,ke.o,vv.o.below (n:=w'.heap.size) Bw,by rw[qv.o];simpa using HO.o.keep (n:=w'.heap.size) Bw,HM.o.alloc _,zcq eb.o _,by omega,by simp;omega⟩

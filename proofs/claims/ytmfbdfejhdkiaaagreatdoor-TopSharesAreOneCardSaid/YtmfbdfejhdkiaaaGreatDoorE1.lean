/- Walk of chapter 5's estate, the will. -/
import Derived.Test.YtmfbdfejhdkiaaaGreatDoorJV
import Derived.Test.YtmfbdfejhdkiaaaGreatDoorE2
set_option linter.all false
set_option maxRecDepth 100000
set_option maxHeartbeats 4000000
namespace Go.Proofs.YtmfbdfejhdkiaaaGreatDoor
open Go.RowKit Go.Shelf
attribute [local go_sem] World.cell?_alloc_mark zae za4 zao za8 zav zaw zax zay zaz za0 za1
attribute [local go_sem] zap zac
theorem look_will{base:Nat}{W:World}{B:List Nat}{d c p wl r:Nat}{mv:Value}{s:St}(h:PplAt base W B d c p wl r mv s)(n:ByteArray):
 ∃A cc,(∀W',Qa W W'->(Instr.lookup 81 (.map (some wl)) (.string n) false).run Tryz.prog W'=.ok (.slice A (zbx s n).length cc) W')/\Ro W 59 zaa A (zbx s n):=by
 obtain⟨m,k1,k2⟩:=h.wills;have hl:=fun W' (hB:Qa W W')=>zcp mapSP (k1.below hB).at n
 rcases k2 n with⟨h1,h2⟩|⟨A,cc,h1,h2⟩
 ·rw[h1]at hl;refine⟨none,0,fun W' hB=>?_,by rw[h2];exact Ro.nil⟩;rw[h2];exact hl W' hB
 ·rw[h1]at hl;exact⟨A,cc,hl,h2⟩
theorem noB_nil{s:ByteArray}(h:noB s=true):s=⟨#[]⟩:=by
 unfold noB at h;have h1:s.toList=(⟨#[]⟩:ByteArray).toList:=by rw[List.isEmpty_iff.1 h,ByteArray.toList_eq]
 have h2:zaf s ⟨#[]⟩=true:=by unfold zaf;rw[h1];simp
 exact za3.1 h2
theorem two_gr{w W W':World}{C m:Nat}(h:w.grownBy W (some C))(hm:w.heap.size<=m)(t:Two2 W W' C m):w.grownBy W' (some C):=
 have b:=t.below 0 (Nat.zero_le _) (Nat.zero_le _) (Nat.zero_le _);⟨b.os.trans h.os,b.tape.trans h.tape,b.output.trans h.output,Nat.le_trans h.size t.size,fun k hk ag=>(t.others k (Nat.lt_of_lt_of_le hk h.size) (fun e=>ag (by rw[e])) Mcq).trans (h.block k hk ag)⟩
theorem zk8{w W W':World}{n:Nat}{row:Option Nat}(h:w.grownBy W row)(hb:Below n W W')(hn:w.heap.size<=n):w.grownBy W' row:=
 ⟨hb.os.trans h.os,hb.tape.trans h.tape,hb.output.trans h.output,Nat.le_trans h.size hb.size,fun k hk ag=>(hb.block k Mcq).trans (h.block k hk ag)⟩
structure EstN (w:World) (h C m L R:Nat):Prop where
 gc:C<w.heap.size
 gh:w.heap.size<=h
 gm:w.heap.size<=m
 gl:w.heap.size<=L
 gr:w.heap.size<=R
 hm:h≠m
 hl:h≠L
 hr:h≠R
 ml:m≠L
 mr:m≠R
 lr:L≠R
theorem own_any{rest:Rat}{law:Law}(hs:zaL rest)(fh:zaA 16 law.num law.den=true):
 IntKind.i64.wrap (rest.num*law.num)=rest.num*law.num/\IntKind.i64.wrap ((rest.den:Int)*law.den)=(rest.den:Int)*law.den/\
 ∀W:World,Calls Tryz.prog 133 #[.int .i64 (rest.num*law.num),.int .i64 ((rest.den:Int)*law.den)] W (Ret W (zaD (rest*Rat.divInt law.num law.den))):=by
 obtain⟨h1,h2,_,_⟩:=zbl fh;have hd:=fh;unfold zaA at hd;simp only[Bool.and_eq_true,decide_eq_true_eq]at hd;have yR:(rest.den:Int)<=1000000000:=by have:=hs.2;omega
 have fX:0<(rest.den:Int):=by have:=rest.den_pos;omega
 obtain⟨m1,n1⟩:=zaQ hs.1 (show law.num.natAbs<=1000000000 by omega);obtain⟨m2,n2⟩:=zaQ (show(rest.den:Int).natAbs<=1000000000 by omega) (show law.den.natAbs<=1000000000 by omega);have m4:0<(rest.den:Int)*law.den:=Int.mul_pos fX Mcq;refine⟨IntWalk.i64_in _ Mcq,IntWalk.i64_in _ Mcq,fun W=>?_⟩;have e:rest*Rat.divInt law.num law.den=Rat.divInt (rest.num*law.num) ((rest.den:Int)*law.den):=by
  rw[zgX,h1,h2]
 rw[e];exact zdR _ _ W Mcq m4 Mcq
theorem own_ok{rest:Rat}{law:Law}(hN:IsN 720720 rest)(h0:0<=rest)(h1:rest<=1)(fh:zaA 16 law.num law.den=true):
 0<=rest*Rat.divInt law.num law.den/\rest*Rat.divInt law.num law.den<=rest/\zaL (rest*Rat.divInt law.num law.den)/\zaL (rest-rest*Rat.divInt law.num law.den):=by
 obtain⟨⟨ld,ld0,ld1,l1⟩,l2,l3⟩:=isN_law fh;generalize Rat.divInt law.num law.den=la at*;have j9:0<=rest*la:=Rat.mul_nonneg h0 l2;have lm:rest*la<=rest:=by
  have:=Rat.mul_nonneg h0 (show 0<=1-la by grind);grind
 have hn:=zkd hN l1;refine⟨j9,lm,zbZ j9 McN (zeu Mcq Mcq hn),zbZ McN McN (zeu (n:=720720*ld) Mcq Mcq (zhd (zld hN) hn))⟩
theorem zgK{l:List Tree}{q t:Rat}{out:Parts}{fl:Bool}(h0:0<=q)(h:Bd out t):Bd (zcz l q (out,fl)).1 (t+q):=by
 rw[zcz];have h1:=zhQ (zcx (ze9 h0 l.length)) (l:=l) (fl:=fl||bigQ (q*(1/(l.length:Rat)))) h;exact h1.up6 (by have:=zky h0 l.length;grind)
theorem zhW{W:World}{P o k:Nat}{v:Value}(h:k≠P):(W.setCell ⟨P,o,none⟩ v).heap[k]?=W.heap[k]?:=by
 have hb:¬P=k:=fun e=>h e.symm
 simp[World.setCell,Array.getElem?_modify,hb]
theorem row_gr{w W W':World}{C:Nat}{row:Option Nat}(h:w.grownBy W (some C))(k:W.grownBy W' row)(hr:∀j,row=some j->w.heap.size<=j):w.grownBy W' (some C):=
 ⟨k.os.trans h.os,k.tape.trans h.tape,k.output.trans h.output,Nat.le_trans h.size k.size,fun i hi ag=>(k.block i (Nat.lt_of_lt_of_le hi h.size) (fun e=>by have:=hr i e.symm;omega)).trans (h.block i hi ag)⟩
theorem zk9{W W':World}{C:Nat}{f:Bool}{row:Option Nat}(h:MarkAt W C f)(k:W.grownBy W' row)(hr:∀j,row=some j->j≠C):MarkAt W' C f:=(k.block C (zab h) (fun e=>hr C e.symm rfl)).trans h
theorem ziI{α:Type}{W:World}{base:Nat}{e:TypeId}{size:Nat}{f:α->List Value}{v:Value}{xs:List α}(h:OwnS W base e size f v xs){j:Nat}(hj:za6 v=some j):∃cur,W.heap[j]?=some (.cells cur e (0,0)):=by
 rcases h with⟨rfl,_⟩|⟨g,o,c,cur,rfl,_,hg,_⟩
 ·cases hj
 ·simp only[za6,Option.some.injEq]at hj;subst hj;exact⟨cur,hg⟩
theorem ziJ{W:World}{b r:Nat}{K V:Type}{ek:K->Value}{ev:V->Value}{m left:List (K×V)}(h:RangeAt W b r ek ev m left){j:Nat}{cur:Array Value}{t:TypeId}{fr:Nat×Nat}(hj:W.heap[j]?=some (.cells cur t fr)):j≠b/\j≠r:=by
 obtain⟨es,clock,since,seen,c0,h1,_,_,_,h5,_⟩:=h;refine⟨fun e=>?_,fun e=>?_⟩
 ·subst e;rw[h1]at hj;simp at hj
 ·subst e;rw[h5]at hj;simp at hj
theorem znZ{q:Rat}:0<q↔0<q.num:=by rw[Rat.lt_iff];simp
theorem W_two(w:World)(o1 o2:Obj):Qa w ((w.alloc o1).alloc o2):=zad (zad Qb _) _
def LK(W W':World):Prop:= ∀(k:Nat) (cur:Array Value) (fr:Nat×Nat),W.heap[k]?=some (.cells cur 201 fr)->W'.heap[k]?=W.heap[k]?
theorem LK.trans{a b c:World}(h:LK a b)(k:LK b c):LK a c:=fun i cur fr hi=>(k i cur fr ((h i cur fr hi).trans hi)).trans (h i cur fr hi)
theorem LK.below{n:Nat}{a b:World}(h:Below n a b)(hn:a.heap.size<=n:=by first|exact Qc|omega):LK a b:=fun i cur fr hi=>h.block i (Nat.lt_of_lt_of_le (Array.getElem?_eq_some_iff.1 hi).1 hn)
theorem LK.put{W:World}{R:Nat}{q0 q:Rat}(h:W.heap[R]?=some (zbw q0)):LK W ((W.setCell ⟨R,0,none⟩ (.int .i64 q.num)).setCell ⟨R,1,none⟩ (.int .i64 q.den)):=fun i cur fr hi=>by
 have ag:i≠R:=by
  intro e;subst e;rw[h]at hi;simp[zbw]at hi
 rw[zhW ag,zhW ag]
theorem LK.items{W W':World}{Q:Nat->Prop}{f:Nat}{es:List Ln}{l:List Tree}(h:LK W W')(k:ItemsN W Q f es l):ItemsN W' Q f es l:=k.same h
theorem LK.ro{W W':World}{A:Option Addr}{es:List Ln}(h:LK W W')(k:Ro W 201 lnC A es):Ro W' 201 lnC A es:=k.same (fun b cur fr hx _=>h b cur fr hx)
def zlJ(law:Law):Obj:=.cells #[.int .i64 law.frm,.bool law.stems,.int .i64 law.num,.int .i64 law.den] 72
structure EstSt (w W:World) (b h C m L R:Nat) (law:Law) (n:ByteArray) (x:Parts×Bool) (rest:Rat):Prop where
 heir:HeirAt W h b law n C m
 lawB:W.heap[L]?=some (zlJ law)
 restB:W.heap[R]?=some (zbw rest)
 has:HasAt W m x.1
 mark:MarkAt W C x.2
 gr:w.grownBy W (some C)
section
variable {w W W':World} {b h C m L R:Nat} {law:Law} {n:ByteArray} {x y:Parts×Bool} {rest q:Rat}
theorem EstSt.keep{k:Nat}(e:EstSt w W b h C m L R law n x rest)(hB:Below k W W')(hk:W.heap.size<=k:=by first|exact Qc|omega):EstSt w W' b h C m L R law n x rest:=
 ⟨e.heir.keep hB hk,(hB.block L (Nat.lt_of_lt_of_le (zab e.lawB) hk)).trans e.lawB,(hB.block R (Nat.lt_of_lt_of_le (zab e.restB) hk)).trans e.restB,e.has.keep hB hk,e.mark.keep hB (Nat.lt_of_lt_of_le (zab e.mark) hk),zk8 e.gr hB (Nat.le_trans e.gr.size hk)⟩
theorem EstSt.two(hn:EstN w h C m L R)(e:EstSt w W b h C m L R law n x rest)(t:Two2 W W' C m)(h1:HasAt W' m y.1)(h2:MarkAt W' C y.2):EstSt w W' b h C m L R law n y rest:=by
 have c1:=hn.gc;have c2:=hn.gh;have c3:=hn.gm;have c4:=hn.gl;have c5:=hn.gr
 have d1:=hn.hm;have d2:=hn.ml;have d3:=hn.mr
 exact⟨(t.others h (zab e.heir) Mcq d1).trans e.heir,(t.others L (zab e.lawB) Mcq (fun z=>d2 z.symm)).trans e.lawB,(t.others R (zab e.restB) Mcq (fun z=>d3 z.symm)).trans e.restB,h1,h2,two_gr e.gr c3 t⟩
theorem EstSt.put(hn:EstN w h C m L R)(e:EstSt w W b h C m L R law n x rest)(q:Rat):EstSt w ((W.setCell ⟨R,0,none⟩ (.int .i64 q.num)).setCell ⟨R,1,none⟩ (.int .i64 q.den)) b h C m L R law n x q:=by
 have c1:=hn.gc;have c5:=hn.gr
 have d1:=hn.hr;have d2:=hn.lr;have d3:=hn.mr
 have hs:∀k,k≠R->((W.setCell ⟨R,0,none⟩ (.int .i64 q.num)).setCell ⟨R,1,none⟩ (.int .i64 q.den)).heap[k]?=W.heap[k]?:=fun k hk=>(zhW hk).trans (zhW hk)
 refine⟨(hs h d1).trans e.heir,(hs L d2).trans e.lawB,zeO e.restB,e.has.block (hs m d3),(hs C Mcq).trans e.mark,?_⟩;exact⟨e.gr.os,e.gr.tape,e.gr.output,by simpa using e.gr.size,fun k hk ag=>(hs k Mcq).trans (e.gr.block k hk ag)⟩
end
theorem zoJ(base b C:Nat)(s:St)(last:Int)(law:Law)(n:ByteArray)(w:World)(s7:∀W,w.grownBy W (some C)->PeoAt base W b s)(hG:GoodSt s last)(hM:MarkAt w C false)(dO:s.children.length<=1000)(kF:s.marriages.length<=1000)(bY:(zbx s n).length<=1000)(fh:zaA 16 law.num law.den=true):
 Calls Tryz.prog 94 #[.pointer (some ⟨b,0,none⟩),law.v,.string n,.pointer (some ⟨C,0,none⟩)] w fun e w'=>∃v,e=.returned v/\OwnS w' w.heap.size 59 3 zaa v (zck s law n).1/\MarkAt w' C (zck s law n).2/\w.grownBy w' (some C):=by
 have Kw:=s7 w (zc3 _ _);have uj:∀(W:World),w.grownBy W (some C)->PeoAt base W b s:=s7;obtain⟨B,d,c,p,wl,r,mv,tv,la,co,kg,ES⟩:=Kw;have hb:=zab kg;unfold WldC at kg;obtain⟨-,-,-,-,c4⟩:=cF5 kg;obtain⟨WA,wcap,fL,Gr⟩:=look_will ES n;have zb:=hG.wills n;have kN:∀q∈zbx s n,noB q.1=false:=by
  intro q hq;unfold zbx at hq;cases hf:s.wills.reverse.find? (fun x=>zaf x.1 n)with
  |none=>rw[hf]at hq;simp at hq
  |some x=>
   rw[hf]at hq;exact hG.willNames x (by simpa using List.mem_of_find?_eq_some hf) q (by simpa using hq)
 have wn:=zab hM;obtain⟨HM,iO,HP,iP,FE,HG⟩:=yH6 hM Gr uj zb kN hG
 have pV:zck s law n=(let y:=zdi s n (zbx s n) ([],false) 1
  let sp:=zcq s n
  let lines:=zb4 s law.stems n (zaW s) n
  if lines.isEmpty then zcU sp y.2 y.1 else
  if noB sp then zcz lines y.2 y.1 else
  zcz lines (y.2-y.2*Rat.divInt law.num law.den) (zcU sp (y.2*Rat.divInt law.num law.den) y.1)):=rfl
 have tQ:=zHi pV;have gN:∀W',Qa w W'->(Instr.lookup 81 (.map (some wl)) (.string n) false).run Tryz.prog W'=.ok (.slice WA (zbx s n).length wcap) W':=fL;generalize zck s law n=EF at*;generalize jJ:zbx s n=ws at*;have Cw:=zHi jJ;clear jJ pV kg ES fL Gr zb kN hG hM uj s7;unfold Law.v;go_enter Tryz.func94,Tryz.ntmps94
 have fC:= @run_makeMap Tryz.prog;have qk:=gN ((((w.alloc (zlJ law)).alloc (.map #[] 0)).alloc (.cells #[.pointer (some ⟨b,0,none⟩),.int .i64 law.frm,.bool law.stems,.int .i64 law.num,.int .i64 law.den,.string n,.pointer (some ⟨C,0,none⟩),.map (some (w.heap.size+1))] 176)).alloc (.cells #[.int .i64 1,.int .i64 1] 57)) Bw;unfold zlJ at qk;go_upto_block 0 with fail
 have hN:EstN w (w.heap.size+1+1) C (w.heap.size+1) w.heap.size (w.heap.size+1+1+1):=⟨wn,by omega,by omega,by omega,by omega,by omega,by omega,by omega,by omega,by omega,by omega⟩
 have HN:=zHi hN;have hC0:C≠w.heap.size:=Mcq;clear hN gN qk fC;go_cut [12,34]from 35 (fun _ _ wc=>EstSt w wc b (w.heap.size+1+1) C (w.heap.size+1) w.heap.size (w.heap.size+1+1+1) law n (zdi s n ws ([],false) 1).1 (zdi s n ws ([],false) 1).2)
 case first=>
  go_wp2_with fail
  go_loopw [34] (fun i wr=>∃(k:Nat) (x:Parts×Bool) (rest:Rat),k<=ws.length/\i=.int .i64 k/\Hid ((x,rest)=zdi s n (ws.take k) ([],false) 1)/\EstSt w wr b (w.heap.size+1+1) C (w.heap.size+1) w.heap.size (w.heap.size+1+1+1) law n x rest) (fun i _=>ws.length-(intOf i).toNat)
  case atStart=>
   refine⟨0,([],false),1,Nat.zero_le _,rfl,rfl,?_,?_,?_,?_,?_,?_⟩
   ·exact zal (zat _ _ _ Mcv)
   ·exact zal (zal (zal (zat _ _ _ rfl)))
   ·exact zat _ _ _ Mcv
   ·refine⟨[],?_,by simp,fun nm=> .inl ⟨rfl,rfl⟩⟩;have h0:MapS ((w.alloc (.cells #[.int .i64 law.frm,.bool law.stems,.int .i64 law.num,.int .i64 law.den] 72)).alloc (.map #[] 0)) (w.alloc (.cells #[.int .i64 law.frm,.bool law.stems,.int .i64 law.num,.int .i64 law.den] 72)).heap.size ekS (fun v:Value=>v) ([]:List (ByteArray×Value)):=MapS.new _;rw[World.size_alloc]at h0;exact h0.below (n:=w.heap.size+1+1) (zad (zad Qb _ Mcv) _ Mcv) Mcv
   ·exact((((HM.o.alloc _).alloc _).alloc _).alloc _)
   ·exact zcv (zcv (zcv (zcv (zc3 _ _) _) _) _) _
  case round=>
   obtain⟨k,x,rest,hk,rfl,HX,ai⟩:=hrel;have AY:=ai.restB;have dr:=ai.gr;have aA:=zHi ai;have r0:wr.cell? ⟨w.heap.size+1+1+1,0,none⟩=some (.int .i64 rest.num):=by simp only[World.cell?,AY,zbw];rfl
   have r1:wr.cell? ⟨w.heap.size+1+1+1,1,none⟩=some (.int .i64 rest.den):=by simp only[World.cell?,AY,zbw];rfl
   have nM:=zab AY;have Dh:w.heap.size+1+1+1≠wr.heap.size:=Mcq;have dZ:=iO.o.kept dr HM.o Mcu;clear ai AY;by_cases aa:k<ws.length
   ·obtain⟨b',off,rfl,cI,hc⟩:=(Ro.sl zai dZ).at aa;have bN:=will_snoc s n ws ([],false) 1 aa;have jx:=zk4 (s:=s) (frm:=n) iP.o k;rw[<-HX.o]at bN jx;have bh:ws[k]∈ws:=List.getElem_mem aa;have cS:=iP.o.pos _ bh;have xG:=iP.o.isN _ bh;have df:=FE.o _ bh;have Ib:ws[k].2<=1:=Rat.le_trans (zf4 (l:=ws) (fun q hq=>by have:=iP.o.pos q hq;grind) _ bh) iP.o.le;generalize ws[k]=pt at*;obtain⟨pn,pq⟩:=pt;have i0:wr.cell? ⟨b',off+k*3,none⟩=some (.string pn):=hc 0 _ rfl;have i1:wr.cell? ⟨b',off+k*3+1,none⟩=some (.int .i64 pq.num):=hc 1 _ rfl;have i2:wr.cell? ⟨b',off+k*3+2,none⟩=some (.int .i64 pq.den):=hc 2 _ rfl;have qx:zaL pq:=zbZ (by simp only at cS;grind) Ib (zeu Mcu Mcu xG);have ar:(k:Int)<(ws.length:Int):=Mcq;have aR:(0:Int)<=(k:Int):=Mcq;have cH:zeb s pn n=zi8 s pn n:=by rw[able_q,df];rfl
    simp only[cH]at bN;obtain⟨dI,lP,lV⟩:=yH3 bN jx (fun W hW=>HP.o W (zk8 dr hW (n:=wr.heap.size) dr.size));clear hc bN jx bh cS xG df Ib cH dZ;have fD:=zHi (fun W (hW:Qa wr W)=>zkt base b (w.heap.size+1+1) C (w.heap.size+1) s law n pn W (lV.o W hW) (aA.o.keep hW).heir);generalize zi8 s pn n=ab at*;cases ab
    ·go_wp2_with (go_at_call 139;refine(fD.o _ Bw).mono ?_;rintro e wq ⟨rfl,z,rfl⟩)
     go_round
     case rel=>exact⟨k+1,x,rest,by omega,by go_num,by show _=_;simpa using dI.o.symm,aA.o.keep (k:=wr.heap.size) Bw⟩
     case measure=>simp[intOf];omega
    ·go_wp2_with (first
      |(go_at_call 139;refine(fD.o _ Bw).mono ?_;rintro e wq ⟨rfl,z,rfl⟩)
      |(go_at_call 140
        go_loud(refine(zg9 b (w.heap.size+1+1) C (w.heap.size+1) law n pn pq x.1 x.2 _ (aA.o.keep (k:=wr.heap.size) Bw).heir (aA.o.keep (k:=wr.heap.size) Bw).mark (aA.o.keep (k:=wr.heap.size) Bw).has Mcq Mcq Mcq lP.o.bd.good (lP.o.bd.share (by have:=lP.o.nn;grind) pn) qx).mono ?_)
        rintro e wq ⟨rfl,g1,g2,g3⟩;have bQ:=(aA.o.keep (W':=(wr.alloc (.cells #[.string pn,.int .i64 pq.num,.int .i64 pq.den] 59)).ext z) (k:=wr.heap.size) Bw).two HN.o g3 g1 g2;have hp:wq.heap[wr.heap.size]?=some (.cells #[.string pn,.int .i64 pq.num,.int .i64 pq.den] 59):=(g3.others _ McA Mcq Mcq).trans (zby (zat _ _ _ rfl));have cO:=zHi bQ;have q0:wq.cell? ⟨w.heap.size+1+1+1,0,none⟩=some (.int .i64 rest.num):=by simp only[World.cell?,bQ.restB,zbw];rfl
        have q1:wq.cell? ⟨w.heap.size+1+1+1,1,none⟩=some (.int .i64 rest.den):=by simp only[World.cell?,bQ.restB,zbw];rfl
        have f0:wq.frozen? ⟨w.heap.size+1+1+1,0,none⟩=false:=by simp only[World.frozen?,bQ.restB,zbw];rfl
        have f1:wq.frozen? ⟨w.heap.size+1+1+1,1,none⟩=false:=by simp only[World.frozen?,bQ.restB,zbw];rfl
        obtain⟨-,p1,p2⟩:=cF3 hp;have KB:=zab bQ.restB
        clear bQ hp g1 g2 g3)
      |(go_at_call 90;refine(zhE rest pq _ lP.o.small qx).mono ?_;rintro e wq2 ⟨rfl,z2,rfl⟩;simp only[zaD]))
     go_round
     case rel=>exact⟨k+1,zcU pn pq x,rest-pq,by omega,by go_num,by show _=_;simpa using dI.o.symm,(cO.o.put HN.o (rest-pq)).keep (zaq _ z2)⟩
     case measure=>simp[intOf];omega
   ·have ar:¬(k:Int)<(ws.length:Int):=Mcq;rw[List.take_of_length_le Mcq]at HX;go_wp2_with fail
    go_meet
    rw[<-HX.o];exact aA.o
 case rest=>
  have jx:=zk4 (s:=s) (frm:=n) iP.o ws.length;rw[List.take_of_length_le Qc]at jx;generalize zdi s n ws ([],false) 1=y at*;obtain⟨x,rest⟩:=y;have lP:=zHi jx;have dr:=hcut.gr;obtain⟨aA,lV⟩:=yH2 hcut (fun W hW=>HP.o W (zk8 dr hW (n:=wc.heap.size) dr.size));clear jx hcut iO iP FE;obtain⟨cX,fT⟩:=yH2 (fun W (hW:Qa wc W)=>zlw base b (w.heap.size+1+1) C (w.heap.size+1) s law n (fun c hc=>(HG.o.kids c hc).2) dO (zaW s) n W (lV.o W hW) (aA.o.keep hW).heir (zk5 HG.o.acyc n)) (fun W (hW:Qa wc W)=>zjC base b s n W (lV.o W hW) Mcq);generalize ck:zaM s n=sp at*
  go_upto_region 11 with(first
   |(go_at_call 141;refine(cX.o _ Bw).mono ?_;rintro e wq ⟨v,es,rfl,o1,o2,o3,o4⟩;obtain⟨VA,vc,rfl,_,kf⟩:=o1.sl zjF;obtain⟨fR,dm⟩:=yH2 o1 o2;clear o1 o2)
   |(go_at_call 97;refine(fT.o _ Bw).mono ?_;rintro e wq2 ⟨rfl,z,rfl⟩))
  have cI:b<wc.heap.size:=Nat.lt_of_lt_of_le hb dr.size;have aZ:=o3.size;have fD:=zHi (fun W (hW:Qa wq W)=>zkt base b (w.heap.size+1+1) C (w.heap.size+1) s law n sp W (lV.o W (o3.trans (hW.mono aZ))) (aA.o.keep (o3.trans (hW.mono aZ))).heir);have yQ:zcq s n=if(!noB sp&&zi8 s sp n)=true then sp else⟨#[]⟩:=by unfold zcq;rw[ck,able_q]
  generalize zcq s n=hs at*;generalize zi8 s sp n=ab at*;go_cut [59,60,61,62,63,64,65,66]from 67 (fun _ _ _ _ _ _ _ v66 W=>v66=.bool (!noB sp&&!ab)/\∃z,W=wq.ext z)
  case first=>
   cases ab;all_goals(go_wp2_with (go_at_call 139;refine(fD.o _ Bw).mono ?_;rintro e wq2 ⟨rfl,z2,rfl⟩))
   all_goals go_meet
   all_goals exact⟨zaR (by first|(simp[noB, *];done)|(rw[Bool.eq_iff_iff];simp[noB];simp[*];done)),zaU Bw⟩
  case rest=>
   obtain⟨rfl,z2,rfl⟩:=hcut;go_upto_if 66 with fail
   go_cut [14,66]from 67 (fun v14 _ W=>v14=.string hs/\W=wq.ext z2)
   case first=>
    cases df:noB sp
    ·cases ab
     ·exact Mbv
     ·exact Mbv
    ·cases ab;all_goals go_wp2_with fail
     all_goals go_meet
     all_goals rw[df]at yQ
     all_goals have bN:sp=⟨#[]⟩:=noB_nil df
     all_goals exact⟨by rw[yQ,bN];rfl,rfl⟩
   case rest=>
    obtain⟨rfl,rfl⟩:=hcut;have eY:Qa wq (wq.ext z2):=zaq _ _;have av:Qa wc (wq.ext z2):=o3.trans (eY.mono aZ);have yX:=aA.o.keep av;obtain⟨vG,ow⟩:=yH2 (fR.o.keep (n:=wq.heap.size) eY) (dm.o.keep (n:=wq.heap.size) eY);generalize wq.ext z2=W3 at*;have Di:=vG.o.ro;obtain⟨VA2,vc2,Ik,_,nM⟩:=Di;simp only[Value.slice.injEq]at Ik;obtain⟨rfl,_,rfl⟩:=Ik;obtain⟨Ce,bG⟩:=yH2 nM yX;clear yX nM eY av fR dm aA fD cX fT o3 aZ yQ ck;have rU:=tQ.o;have vz:=zHi ow.o.len;go_upto_block 2 with fail
    go_cut [15]from 67 (fun _ W=>∃rest',EstSt w W b (w.heap.size+1+1) C (w.heap.size+1) w.heap.size (w.heap.size+1+1+1) law n EF rest'/\Bd EF.1 1)
    case first=>
     have r0:W3.cell? ⟨w.heap.size+1+1+1,0,none⟩=some (.int .i64 rest.num):=by simp only[World.cell?,bG.o.restB,zbw];rfl
     have r1:W3.cell? ⟨w.heap.size+1+1+1,1,none⟩=some (.int .i64 rest.den):=by simp only[World.cell?,bG.o.restB,zbw];rfl
     have l2:W3.cell? ⟨w.heap.size,2,none⟩=some (.int .i64 law.num):=by simp only[World.cell?,bG.o.lawB,zlJ];rfl
     have l3:W3.cell? ⟨w.heap.size,3,none⟩=some (.int .i64 law.den):=by simp only[World.cell?,bG.o.lawB,zlJ];rfl
     have nM:=zab bG.o.restB;have ui:=zab bG.o.lawB;have iD:=lP.o.nn;have bu:=lP.o.le;have cU:=lP.o.small;obtain⟨dh,qX⟩:=yH2 lP.o.bd rU;have wE:=zjH (s:=s) (stems:=law.stems) (frm:=n) dO (zaW s) n;generalize zb4 s law.stems n (zaW s) n=tr at*;have rK:=zHi wE;clear rU wE tQ;by_cases he:es.length=0
     ·have Lf:(((es.length:Nat):Int)==0)=true:=by rw[he];rfl
      have No:tr=[]:=List.eq_nil_of_length_eq_zero (by have:=vz.o;omega);clear he;go_wp2_with (go_at_call 140;refine(zg9 b (w.heap.size+1+1) C (w.heap.size+1) law n hs rest x.1 x.2 _ bG.o.heir bG.o.mark bG.o.has Mcq Mcq Mcq dh.o.good (dh.o.share McN hs) cU).mono ?_;rintro e w6 ⟨rfl,g1,g2,g3⟩)
      go_meet
      have h1:=qX.o;rw[No]at h1;rw[h1];exact⟨rest,bG.o.two HN.o g3 g1 g2,(zfB (fl:=x.2) dh.o iD).up6 McN⟩
     ·have Lf:(((es.length:Nat):Int)==0)=false:=by simpa using he
      have ag:tr≠[]:=fun e=>he (by have:=vz.o;rw[e]at this;exact this)
      have g9:tr.isEmpty=false:=by cases tr with|nil=>exact absurd rfl ag|cons _ _=>rfl
      have iL:=zHi ag;clear ag he;cases df:noB hs
      ·have tj:hs.toList.isEmpty=false:=df;have Et:(!hs.toList.isEmpty)=true:=by rw[tj];rfl
       have gD:=qX.o;rw[g9,df]at gD;simp only[Bool.false_eq_true,if_false]at gD;have qY:=zHi gD;obtain⟨ow1,ow2,ow3⟩:=own_any cU fh;obtain⟨oo1,oo2,oo3,oo4⟩:=own_ok lP.o.isN iD bu fh;generalize Rat.divInt law.num law.den=la at*;generalize ac:rest*la=own at*;have eo:=zHi ow3;clear gD ow3 ac g9 df
       go_wp2_with (first
        |(go_at_call 133;refine(eo.o _).mono ?_;rintro e w5 ⟨rfl,z5,rfl⟩;simp only[zaD])
        |(go_at_call 140
          refine(zg9 b (w.heap.size+1+1) C (w.heap.size+1) law n hs own x.1 x.2 _ (bG.o.keep (k:=W3.heap.size) Bw).heir (bG.o.keep (k:=W3.heap.size) Bw).mark (bG.o.keep (k:=W3.heap.size) Bw).has Mcq Mcq Mcq dh.o.good (dh.o.share McN hs) oo3).mono ?_;rintro e w6 ⟨rfl,g1,g2,g3⟩;have iG:=(bG.o.keep (W':=(W3.ext z5).alloc (.cells #[.int .i64 own.num,.int .i64 own.den] 57)) (k:=W3.heap.size) Bw).two HN.o g3 g1 g2;have ox:=zHi iG;have hO:w6.heap[(W3.ext z5).heap.size]?=some (zbw own):=(g3.others _ Mcv McA McA).trans (zat _ _ _ rfl);have q0:w6.cell? ⟨w.heap.size+1+1+1,0,none⟩=some (.int .i64 rest.num):=by simp only[World.cell?,iG.restB,zbw];rfl
          have q1:w6.cell? ⟨w.heap.size+1+1+1,1,none⟩=some (.int .i64 rest.den):=by simp only[World.cell?,iG.restB,zbw];rfl
          have f0:w6.frozen? ⟨w.heap.size+1+1+1,0,none⟩=false:=by simp only[World.frozen?,iG.restB,zbw];rfl
          have f1:w6.frozen? ⟨w.heap.size+1+1+1,1,none⟩=false:=by simp only[World.frozen?,iG.restB,zbw];rfl
          have o0:w6.cell? ⟨W3.heap.size+z5.os.size,0,none⟩=some (.int .i64 own.num):=by simp only[<-zae,World.cell?,hO,zbw];rfl
          have o1:w6.cell? ⟨W3.heap.size+z5.os.size,1,none⟩=some (.int .i64 own.den):=by simp only[<-zae,World.cell?,hO,zbw];rfl
          have KB:=zab iG.restB;go_loud(have Gg:=(LK.below (a:=W3) (n:=W3.heap.size) (b:=(W3.ext z5).alloc (.cells #[.int .i64 own.num,.int .i64 own.den] 57)) Bw).trans (zk7 g3 (bG.o.keep (k:=W3.heap.size) Bw).mark (bG.o.keep (k:=W3.heap.size) Bw).has))
          go_loud(have lQ:=zHi (((Gg.trans (LK.put (q:=rest-own) iG.restB)))))
          clear iG hO g1 g2 g3 Gg)
        |(go_at_call 90;refine(zhE rest own _ cU oo3).mono ?_;rintro e w7 ⟨rfl,z7,rfl⟩;simp only[zaD])
        |(go_at_call 142
          refine(zhr b (w.heap.size+1+1) C (w.heap.size+1) law n Mcq Mcq Mcq (zaW s) es tr _ VA es.length vc (rest-own) (1-rest+own) (zcU hs own x).1 (zcU hs own x).2 _ ((lQ.o.trans (LK.below (zaq _ z7))).items ow.o) rK.o ((lQ.o.trans (LK.below (zaq _ z7))).ro Ce.o) iL.o vz.o ((ox.o.put HN.o (rest-own)).keep (zaq _ z7)).heir ((ox.o.put HN.o (rest-own)).keep (zaq _ z7)).mark ((ox.o.put HN.o (rest-own)).keep (zaq _ z7)).has McN McN oo4 (zfB (fl:=x.2) dh.o oo1) McN).mono ?_;rintro e w8 ⟨rfl,g1,g2,g3⟩;have nj:=((ox.o.put HN.o (rest-own)).keep (zaq _ z7)).two HN.o g3 g1 g2;have rC:=zHi nj
          clear nj g1 g2 g3))
       go_meet
       rw[qY.o];exact⟨rest-own,rC.o,(zgK (fl:=(zcU hs own x).2) (show 0<=rest-own by grind) (zfB (n:=hs) (fl:=x.2) dh.o oo1)).up6 McN⟩
      ·have tj:hs.toList.isEmpty=true:=df;have Et:(!hs.toList.isEmpty)=false:=by rw[tj];rfl
       have gD:=qX.o;rw[g9,df]at gD;simp only[Bool.false_eq_true,if_false,if_true]at gD;have qY:=zHi gD;clear gD g9 df
       go_wp2_with (go_at_call 142
                    refine(zhr b (w.heap.size+1+1) C (w.heap.size+1) law n Mcq Mcq Mcq (zaW s) es tr _ VA es.length vc rest (1-rest) x.1 x.2 _ ow.o rK.o Ce.o iL.o vz.o bG.o.heir bG.o.mark bG.o.has iD bu cU dh.o McN).mono ?_;rintro e w8 ⟨rfl,g1,g2,g3⟩;have nj:=bG.o.two HN.o g3 g1 g2;have rC:=zHi nj
                    clear nj g1 g2 g3)
       go_meet
       rw[qY.o];exact⟨rest,rC.o,(zgK (fl:=x.2) iD dh.o).up6 McN⟩
    case rest=>
     obtain⟨rest',ai,dp⟩:=hcut;have dh:=zHi dp;have Ag:=ai.heir;have Ai:=ai.mark;have CS:=ai.gr;have Gu:=ai.has;have hh8:=zab Ag;clear ai dp rU tQ vz Ce vG ow lV lP bG;obtain⟨W8,rfl⟩:∃x,x=wc:=⟨_,rfl⟩
     have AM:=Gu.lt;obtain⟨mm,dt,cR,iy⟩:=Gu;unfold HeirAt at Ag;obtain⟨-,-,-,-,-,-,-,e7⟩:=cF8 Ag;obtain⟨Nd,Gq⟩:=zol (P:=Tryz.prog) dt (t:=174) Tryz.underlying174;generalize dt.choose_spec.choose=cc at*;generalize dt.choose=ce at*;have K6:∀j cur,W8.heap[j]?=some (.cells cur 59 (0,0))->j≠C:=fun j cur hj e=>by
      subst e;unfold MarkAt at Ai;rw[Ai]at hj;simp at hj
     obtain⟨Jd,IW,re,kW⟩:=yH4 Ai CS iy cR;have hs8:=CS.size;have Jv:=zHi Gq;clear Ai CS iy cR Gq K6 dt Ag;go_upto_block 6 with fail
     generalize hI:W8.heap.size=I at*;generalize AO:w.heap.size+1=mb at*;obtain⟨C1,J3⟩:=yH2 AO hI;clear Nd;go_wp2_with fail
     go_loopg [16] (mm.length+1) (fun gg v wr=>∃done left,Hid ((done++left).Perm mm)/\RangeAt wr mb I ekS (fun v:Value=>v) mm left/\OwnS wr w.heap.size 59 3 zaa v (colP EF.1 done)/\MarkAt wr C EF.2/\w.grownBy wr (some C)/\left.length<gg/\I<wr.heap.size)
     case atStart=>
      refine⟨[],mm,List.Perm.refl _,Jv.o,OwnS.nil,?_,?_,by omega,by simp;omega⟩
      ·exact Jd.o.alloc _
      ·exact zcv IW.o _
     case round=>
      obtain⟨done,left,HP,AV,ac,hm,hg,bl,hIl⟩:=hrel;obtain⟨cl,bj⟩:=Qd (colP EF.1 done)
      rw[<-bj]at ac;have bZ:=zHi bj;clear bj;obtain⟨VC,vcc,rfl,_,Ns⟩:=ac.sl zai;have CK:∀j,za6 (.slice VC cl.length vcc)=some j->w.heap.size<=j/\j<wr.heap.size:=fun j hj=>ac.ge j hj
      rcases run_nextS (P:=Tryz.prog) AV 0 with⟨h0,hrun⟩|⟨i,p,w',hi,hrun,hra',hgr',hsz,hent⟩
      ·have CX:=HP.o;rw[h0,List.append_nil]at CX;have q8:cl.Perm EF.1:=by
        rw[bZ.o];exact(CX.filterMap (zl0 EF.1)).trans (znS dh.o.good kW.o re.o)
       have ci:cl.length<=1000000000:=by rw[q8.length_eq];exact dh.o.len Rat.le_refl
       obtain⟨cv,zv,HO,HM,ej,tO⟩:=yH6 ci q8 ac hm hg CK;clear CX q8 ac hm hg CK AV h0 ci;go_wp2_with (go_at_call 143;refine(sortP_any (.slice VC cl.length vcc) cl w.heap.size _ HO.o cv.o).mono ?_;rintro e wq ⟨rfl,L,s1,s2,s3,s4,s5⟩)
       go_ret
       have hL:L=EF.1:=zl1 dh.o.good (s1.trans zv.o) s2;rw[hL]at s3;exact⟨_,rfl,s3,zk9 HM.o s5 (fun j hj=>by have:=tO.o j hj;omega),row_gr ej.o s5 (fun j hj=>(tO.o j hj).1)⟩
      ·obtain⟨pn,pv⟩:=p;have gU:(pn,pv)∈mm:=HP.o.mem_iff.1 (List.mem_append_right _ (List.mem_of_getElem? hi));have N8:pv=zaD (zag EF.1 pn):=by
        have h1:=zhL kW.o gU;rcases re.o pn with⟨h2,_⟩|h2
        ·rw[h2]at h1;cases h1
        ·rw[h2]at h1;simpa using h1.symm
       subst N8;have Aw:zl0 EF.1 (pn,zaD (zag EF.1 pn))=if 0<zag EF.1 pn then some (pn,zag EF.1 pn)else none:=rfl;have fX:=done_perm HP.o hi;have aQ:=colP_snoc EF.1 done (pn,zaD (zag EF.1 pn));rw[<-bZ.o,Aw]at aQ;obtain⟨ki,iI⟩:=yH2 fX aQ;have cJ:cl.length<=1000000000:=by
        have h1:(colP EF.1 (done++left)).Perm EF.1:=(HP.o.filterMap (zl0 EF.1)).trans (znS dh.o.good kW.o re.o);have h2:=h1.length_eq;unfold colP at h2;rw[List.filterMap_append,List.length_append]at h2;have h3:=dh.o.len Rat.le_refl;have h4:=bZ.o;unfold colP at h4;rw[<-h4]at h2;omega
       have fY:(left.eraseIdx i).length+1=left.length:=by
        have:=(List.getElem?_eq_some_iff.1 hi).1;rw[List.length_eraseIdx_of_lt this];omega
       clear fX aQ Aw gU hi;generalize zag EF.1 pn=q at*;have Ig:(Instr.next (.pointer (some ⟨I,0,none⟩)) false 0).run Tryz.prog wr=.ok (.tuple #[.bool true,.string pn,.agg #[.int .i64 q.num,.int .i64 q.den]]) w':=hrun;have GW:(Instr.entry (.pointer (some ⟨I,0,none⟩))).run Tryz.prog w'=.ok (.tuple #[.string pn,.agg #[.int .i64 q.num,.int .i64 q.den]]) w':=hent;have yq:∀j,some I=some j->w.heap.size<=j:=fun j hj=>by have:=J3.o;simp at hj;omega
       have fj:=ac.grown hgr' (by
        cases hb:za6 (.slice VC cl.length vcc)with
        |none=>exact .inl rfl
        |some j=>
         right
         intro e;obtain⟨cur,mG⟩:=ziI ac hb
         exact(ziJ AV mG).2 MdP)
       have Hw:=zk9 hm hgr' (fun j hj=>by have:=yq j hj;omega);have iv:=row_gr hg hgr' yq;have xd:∀j,za6 (.slice VC cl.length vcc)=some j->w.heap.size<=j/\j≠mb/\j≠I:=fun j hj=>by
        obtain⟨cur,mG⟩:=ziI fj hj;exact⟨(fj.ge j hj).1,ziJ hra' mG⟩
       obtain⟨zt,zS,vN,HO,HM,ej⟩:=yH6 xd hsz hra' fj Hw iv;have Kh:I<w'.heap.size:=Mcq;have jJ:w.heap.size<=w'.heap.size:=iv.size;clear AV hra' ac fj hm Hw hg iv hrun hent hgr' CK hsz xd;by_cases hq:0<q.num
       ·have js:=iI.o;rw[if_pos (znZ.2 hq)]at js;have qR:=zHi js;clear js;go_wp2_with (at_builtin;go_loud(refine zas (v:=.slice VC cl.length vcc) (n:=cl.length) (m:=1) rfl _ _ rfl zdW zai zcb rfl (HO.o.keep (n:=w'.heap.size) Bw) rfl rfl rfl (sl_part (p:=(pn,q)) (zat _ _ _ Mcv)) McK Mcq Mcw ?_);intro v3 w3 h1 h2 h3)
        have R1:=(vN.o.below (n:=w'.heap.size) (W_two w' _ _)).grown h2 (fun e=>(zt.o mb e.symm).2.1 rfl) (fun e=>(zt.o I e.symm).2.2 rfl);have M1:=zk9 ((HM.o.alloc _).alloc _) h2 (fun j hj=>by have:=zt.o j hj;omega);have G1:=row_gr (zcv (zcv ej.o _) _) h2 (fun j hj=>(zt.o j hj).1);have S1:=h2.size;simp only[World.size_alloc]at S1;go_roundg (gk-1)
        case measure=>omega
        case rel=>exact⟨done++[(pn,zaD q)],left.eraseIdx i,ki.o,R1,by rw[qR.o];exact h1,M1,G1,by omega,by omega⟩
       ·have js:=iI.o;rw[if_neg (fun h=>hq (znZ.1 h))]at js;have qR:=zHi js;clear js;go_wp2_with fail
        go_roundg (gk-1)
        case measure=>omega
        case rel=>exact⟨done++[(pn,zaD q)],left.eraseIdx i,ki.o,vN.o.below (n:=w'.heap.size) Bw,by rw[qR.o];simpa using HO.o.keep (n:=w'.heap.size) Bw,HM.o.alloc _,zcv ej.o _,by omega,by simp;omega⟩

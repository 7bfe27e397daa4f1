/- Walk of chapter 5's estate, the will. -/
import Derived.Test.YtckkbkdcdkhglaaGreatDoorJV
import Derived.Test.YtckkbkdcdkhglaaGreatDoorO8
set_option linter.unusedSimpArgs false
set_option linter.unusedVariables false
set_option maxRecDepth 100000
set_option maxHeartbeats 4000000
namespace Go.Proofs.YtckkbkdcdkhglaaGreatDoor
open Go.RowKit Go.Shelf
attribute [local go_sem] World.cell?_alloc_mark zag za5 zaq za8 zaw zax zay zaz za0 za1 za2
attribute [local go_sem] zap zad
theorem look_will {base:Nat} {W:World} {B:List Nat} {d c p wl r:Nat} {mv:Value} {s:St} (h:PplAt base W B d c p wl r mv s) (n:ByteArray):
 ∃A cc,(∀W',Below W.heap.size W W'->(Instr.lookup 84 (.map (some wl)) (.string n) false).run Tryz.prog W'= .ok (.slice A (zbu s n).length cc) W')/\Ro W 63 zaa A (zbu s n):=by
 obtain⟨m,k1,k2⟩:=h.wills;have hl:=fun W' (hB:Below W.heap.size W W')=>zb0 mapSP (k1.below hB).at n
 rcases k2 n with⟨h1,h2⟩|⟨A,cc,h1,h2⟩
 ·rw[h1]at hl;refine⟨none,0,fun W' hB=> ?_,by rw[h2];exact Ro.nil⟩;rw[h2];exact hl W' hB
 ·rw[h1]at hl;exact⟨A,cc,hl,h2⟩
theorem noB_nil {s:ByteArray} (h:noB s=true):s=⟨#[]⟩:=by
 unfold noB at h;have h1:s.toList=(⟨#[]⟩:ByteArray).toList:=by rw[List.isEmpty_iff.1 h,ByteArray.toList_eq]
 have h2:zae s ⟨#[]⟩=true:=by unfold zae;rw[h1];simp
 exact zat.1 h2
theorem two_gr {w W W':World} {C m:Nat} (h:w.grownBy W (some C)) (hm:w.heap.size<=m) (t:Two2 W W' C m):w.grownBy W' (some C):=
 have b:=t.below 0 (Nat.zero_le _) (Nat.zero_le _) (Nat.zero_le _);⟨b.os.trans h.os,b.tape.trans h.tape,b.output.trans h.output,Nat.le_trans h.size t.size,fun k hk ai=>(t.others k (Nat.lt_of_lt_of_le hk h.size) (fun e=>ai (by rw[e])) Mcl).trans (h.block k hk ai)⟩
theorem zkE {w W W':World} {n:Nat} {row:Option Nat} (h:w.grownBy W row) (hb:Below n W W') (hn:w.heap.size<=n):w.grownBy W' row:=
 ⟨hb.os.trans h.os,hb.tape.trans h.tape,hb.output.trans h.output,Nat.le_trans h.size hb.size,fun k hk ai=>(hb.block k Mcl).trans (h.block k hk ai)⟩
structure EstN (w:World) (h C m L R:Nat):Prop where
 gc:C<w.heap.size
 gh:w.heap.size<=h
 gm:w.heap.size<=m
 gl:w.heap.size<=L
 gr:w.heap.size<=R
 hm:h≠m
 hl:h≠L
 hr:h≠R
 ml:m≠L
 mr:m≠R
 lr:L≠R
theorem own_any {rest:Rat} {law:Law} (hs:zaK rest) (du:za6 16 law.num law.den=true):
 IntKind.i64.wrap (rest.num*law.num)=rest.num*law.num/\IntKind.i64.wrap ((rest.den:Int)*law.den)=(rest.den:Int)*law.den/\
 ∀W:World,Calls Tryz.prog 73 #[.int .i64 (rest.num*law.num), .int .i64 ((rest.den:Int)*law.den)] W (Ret W (za9 (rest*Rat.divInt law.num law.den))):=by
 obtain⟨h1,h2,_,_⟩:=zbl du;have hd:=du;unfold za6 at hd;simp only[Bool.and_eq_true,decide_eq_true_eq]at hd;have ya:(rest.den:Int)<=1000000000:=by have:=hs.2;omega
 have fW:0<(rest.den:Int):=by have:=rest.den_pos;omega
 obtain⟨m1,n1⟩:=zaN hs.1 (show law.num.natAbs<=1000000000 by omega);obtain⟨m2,n2⟩:=zaN (show(rest.den:Int).natAbs<=1000000000 by omega) (show law.den.natAbs<=1000000000 by omega);have m4:0<(rest.den:Int)*law.den:=Int.mul_pos fW Mcl;refine⟨IntWalk.i64_in _ Mcl,IntWalk.i64_in _ Mcl,fun W=> ?_⟩;have e:rest*Rat.divInt law.num law.den=Rat.divInt (rest.num*law.num) ((rest.den:Int)*law.den):=by
  rw[zgM,h1,h2]
 rw[e];exact zdL _ _ W Mcl m4 Mcl
theorem own_ok {rest:Rat} {law:Law} (hN:IsN 720720 rest) (h0:0<=rest) (h1:rest<=1) (du:za6 16 law.num law.den=true):
 0<=rest*Rat.divInt law.num law.den/\rest*Rat.divInt law.num law.den<=rest/\zaK (rest*Rat.divInt law.num law.den)/\zaK (rest-rest*Rat.divInt law.num law.den):=by
 obtain⟨⟨ld,ld0,ld1,l1⟩,l2,l3⟩:=isN_law du;generalize Rat.divInt law.num law.den=la at*;have iV:0<=rest*la:=Rat.mul_nonneg h0 l2;have kY:rest*la<=rest:=by
  have:=Rat.mul_nonneg h0 (show 0<=1-la by grind);grind
 have hn:=zkl hN l1;refine⟨iV,kY,zcb iV McO (zev Mcl Mcl hn),zcb McO McO (zev (n:=720720*ld) Mcl Mcl (zgS (zle hN) hn))⟩
theorem zg7 {l:List Tree} {q t:Rat} {out:Parts} {fl:Bool} (h0:0<=q) (h:Bd out t):Bd (zcz l q (out,fl)).1 (t+q):=by
 rw[zcz];have h1:=zhN (zcv (zeB h0 l.length)) (l:=l) (fl:=fl||bigQ (q*(1/(l.length:Rat)))) h;exact h1.up6 (by have:=zk4 h0 l.length;grind)
theorem zhQ {W:World} {P o k:Nat} {v:Value} (h:k≠P):(W.setCell ⟨P,o,none⟩ v).heap[k]?=W.heap[k]?:=by
 have hb: ¬P=k:=fun e=>h e.symm
 simp[World.setCell,Array.getElem?_modify,hb]
theorem row_gr {w W W':World} {C:Nat} {row:Option Nat} (h:w.grownBy W (some C)) (k:W.grownBy W' row) (hr: ∀j,row=some j->w.heap.size<=j):w.grownBy W' (some C):=
 ⟨k.os.trans h.os,k.tape.trans h.tape,k.output.trans h.output,Nat.le_trans h.size k.size,fun i hi ai=>(k.block i (Nat.lt_of_lt_of_le hi h.size) (fun e=>by have:=hr i e.symm;omega)).trans (h.block i hi ai)⟩
theorem zkF {W W':World} {C:Nat} {f:Bool} {row:Option Nat} (h:MarkAt W C f) (k:W.grownBy W' row) (hr: ∀j,row=some j->j≠C):MarkAt W' C f:=(k.block C (zab h) (fun e=>hr C e.symm rfl)).trans h
theorem zlJ {α:Type} {W:World} {base:Nat} {e:TypeId} {size:Nat} {f:α->List Value} {v:Value} {xs:List α} (h:OwnS W base e size f v xs) {j:Nat} (hj:za7 v=some j): ∃cur,W.heap[j]?=some (.cells cur e (0,0)):=by
 rcases h with⟨rfl,_⟩|⟨g,o,c,cur,rfl,_,hg,_⟩
 ·cases hj
 ·simp only[za7,Option.some.injEq]at hj;subst hj;exact⟨cur,hg⟩
theorem ziK {W:World} {b r:Nat} {K V:Type} {ek:K->Value} {ev:V->Value} {m left:List (K×V)} (h:RangeAt W b r ek ev m left) {j:Nat} {cur:Array Value} {t:TypeId} {fr:Nat×Nat} (hj:W.heap[j]?=some (.cells cur t fr)):j≠b/\j≠r:=by
 obtain⟨es,clock,since,seen,c0,h1,_,_,_,h5,_⟩:=h;refine⟨fun e=> ?_,fun e=> ?_⟩
 ·subst e;rw[h1]at hj;simp at hj
 ·subst e;rw[h5]at hj;simp at hj
theorem znU {q:Rat}:0<q↔0<q.num:=by rw[Rat.lt_iff];simp
theorem W_two (w:World) (o1 o2:Obj):Below w.heap.size w ((w.alloc o1).alloc o2):=zac (zac (Below.refl _ _) _) _
def LK (W W':World):Prop:= ∀(k:Nat) (cur:Array Value) (fr:Nat×Nat),W.heap[k]?=some (.cells cur 160 fr)->W'.heap[k]?=W.heap[k]?
theorem LK.trans {a b c:World} (h:LK a b) (k:LK b c):LK a c:=fun i cur fr hi=>(k i cur fr ((h i cur fr hi).trans hi)).trans (h i cur fr hi)
theorem LK.below {n:Nat} {a b:World} (h:Below n a b) (hn:a.heap.size<=n:=by first|exact Nat.le_refl _|omega):LK a b:=fun i cur fr hi=>h.block i (Nat.lt_of_lt_of_le (Array.getElem?_eq_some_iff.1 hi).1 hn)
theorem LK.put {W:World} {R:Nat} {q0 q:Rat} (h:W.heap[R]?=some (zbt q0)):LK W ((W.setCell ⟨R,0,none⟩ (.int .i64 q.num)).setCell ⟨R,1,none⟩ (.int .i64 q.den)):=fun i cur fr hi=>by
 have ai:i≠R:=by
  intro e;subst e;rw[h]at hi;simp[zbt]at hi
 rw[zhQ ai,zhQ ai]
theorem LK.items {W W':World} {Q:Nat->Prop} {f:Nat} {es:List Ln} {l:List Tree} (h:LK W W') (k:ItemsN W Q f es l):ItemsN W' Q f es l:=k.same h
theorem LK.ro {W W':World} {A:Option Addr} {es:List Ln} (h:LK W W') (k:Ro W 160 lnC A es):Ro W' 160 lnC A es:=k.same (fun b cur fr hx _=>h b cur fr hx)
def zlK (law:Law):Obj:= .cells #[.int .i64 law.frm, .bool law.stems, .int .i64 law.num, .int .i64 law.den] 95
structure EstSt (w W:World) (b h C m L R:Nat) (law:Law) (n:ByteArray) (x:Parts×Bool) (rest:Rat):Prop where
 heir:HeirAt W h b law n C m
 lawB:W.heap[L]?=some (zlK law)
 restB:W.heap[R]?=some (zbt rest)
 has:HasAt W m x.1
 mark:MarkAt W C x.2
 gr:w.grownBy W (some C)
section
variable {w W W':World} {b h C m L R:Nat} {law:Law} {n:ByteArray} {x y:Parts×Bool} {rest q:Rat}
theorem EstSt.keep {k:Nat} (e:EstSt w W b h C m L R law n x rest) (hB:Below k W W') (hk:W.heap.size<=k:=by first|exact Nat.le_refl _|omega):EstSt w W' b h C m L R law n x rest:=
 ⟨e.heir.keep hB hk,(hB.block L (Nat.lt_of_lt_of_le (zab e.lawB) hk)).trans e.lawB,(hB.block R (Nat.lt_of_lt_of_le (zab e.restB) hk)).trans e.restB,e.has.keep hB hk,e.mark.keep hB (Nat.lt_of_lt_of_le (zab e.mark) hk),zkE e.gr hB (Nat.le_trans e.gr.size hk)⟩
theorem EstSt.two (hn:EstN w h C m L R) (e:EstSt w W b h C m L R law n x rest) (t:Two2 W W' C m) (h1:HasAt W' m y.1) (h2:MarkAt W' C y.2):EstSt w W' b h C m L R law n y rest:=by
 have c1:=hn.gc;have c2:=hn.gh;have c3:=hn.gm;have c4:=hn.gl;have c5:=hn.gr
 have d1:=hn.hm;have d2:=hn.ml;have d3:=hn.mr
 exact⟨(t.others h (zab e.heir) Mcl d1).trans e.heir,(t.others L (zab e.lawB) Mcl (fun z=>d2 z.symm)).trans e.lawB,(t.others R (zab e.restB) Mcl (fun z=>d3 z.symm)).trans e.restB,h1,h2,two_gr e.gr c3 t⟩
theorem EstSt.put (hn:EstN w h C m L R) (e:EstSt w W b h C m L R law n x rest) (q:Rat):EstSt w ((W.setCell ⟨R,0,none⟩ (.int .i64 q.num)).setCell ⟨R,1,none⟩ (.int .i64 q.den)) b h C m L R law n x q:=by
 have c1:=hn.gc;have c5:=hn.gr
 have d1:=hn.hr;have d2:=hn.lr;have d3:=hn.mr
 have hs: ∀k,k≠R->((W.setCell ⟨R,0,none⟩ (.int .i64 q.num)).setCell ⟨R,1,none⟩ (.int .i64 q.den)).heap[k]?=W.heap[k]?:=fun k hk=>(zhQ hk).trans (zhQ hk)
 refine⟨(hs h d1).trans e.heir,(hs L d2).trans e.lawB,zen e.restB,e.has.block (hs m d3),(hs C Mcl).trans e.mark,?_⟩;exact⟨e.gr.os,e.gr.tape,e.gr.output,by simpa using e.gr.size,fun k hk ai=>(hs k Mcl).trans (e.gr.block k hk ai)⟩
end
theorem zjQ (base b C:Nat) (s:St) (last:Int) (law:Law) (n:ByteArray) (w:World) (rg: ∀W,w.grownBy W (some C)->PeoAt base W b s) (hG:GoodSt s last) (hM:MarkAt w C false) (bV:s.children.length<=1000) (ft:s.marriages.length<=1000) (cx:(zbu s n).length<=1000) (du:za6 16 law.num law.den=true):
 Calls Tryz.prog 32 #[.pointer (some ⟨b,0,none⟩),law.v, .string n, .pointer (some ⟨C,0,none⟩)] w fun e w'=> ∃v,e= .returned v/\OwnS w' w.heap.size 63 3 zaa v (zcg s law n).1/\MarkAt w' C (zcg s law n).2/\w.grownBy w' (some C):=by
 have J6:=rg w (zdD _ _);have tC: ∀(W:World),w.grownBy W (some C)->PeoAt base W b s:=rg;obtain⟨B,d,c,p,wl,r,mv,tv,la,co,jD,yt⟩:=J6;have hb:=zab jD;unfold WldC at jD;obtain⟨-,-,-,-,c4⟩:=cF5 jD;obtain⟨WA,wcap,eB,F7⟩:=look_will yt n;have yu:=hG.wills n;have l9: ∀q∈zbu s n,noB q.1=false:=by
  intro q hq;unfold zbu at hq;cases hf:s.wills.reverse.find? (fun x=>zae x.1 n)with
  |none=>rw[hf]at hq;simp at hq
  |some x=>
   rw[hf]at hq;exact hG.willNames x (by simpa using List.mem_of_find?_eq_some hf) q (by simpa using hq)
 have vD:=zab hM;have HM:=zHi hM;have qz:=zHi F7;have HP:=zHi tC;have lV:=zHi yu;have Eh:=zHi l9;have HG:=zHi hG
 have kS:zcg s law n=(let y:=zdg s n (zbu s n) ([],false) 1
  let sp:=zcn s n
  let lines:=zb2 s law.stems n (zaW s) n
  if lines.isEmpty then zcP sp y.2 y.1 else
  if noB sp then zcz lines y.2 y.1 else
  zcz lines (y.2-y.2*Rat.divInt law.num law.den) (zcP sp (y.2*Rat.divInt law.num law.den) y.1)):=rfl
 have oY:=zHi kS;have dw: ∀W',Below w.heap.size w W'->(Instr.lookup 84 (.map (some wl)) (.string n) false).run Tryz.prog W'= .ok (.slice WA (zbu s n).length wcap) W':=eB;generalize zcg s law n=EF at*;generalize jE:zbu s n=ws at*;have Bq:=zHi jE;clear jE kS jD yt eB F7 yu l9 hG hM tC rg;unfold Law.v;go_enter Tryz.func32,Tryz.ntmps32
 have da:= @run_makeMap Tryz.prog;have pG:=dw ((((w.alloc (zlK law)).alloc (.map #[] 0)).alloc (.cells #[.pointer (some ⟨b,0,none⟩), .int .i64 law.frm, .bool law.stems, .int .i64 law.num, .int .i64 law.den, .string n, .pointer (some ⟨C,0,none⟩), .map (some (w.heap.size+1))] 127)).alloc (.cells #[.int .i64 1, .int .i64 1] 58)) Bw;unfold zlK at pG;go_upto_block 0 with fail
 have hN:EstN w (w.heap.size+1+1) C (w.heap.size+1) w.heap.size (w.heap.size+1+1+1):=⟨vD,by omega,by omega,by omega,by omega,by omega,by omega,by omega,by omega,by omega,by omega⟩
 have HN:=zHi hN;have hC0:C≠w.heap.size:=Mcl;clear hN dw pG da;go_cut [12,34]from 35 (fun _ _ wc=>EstSt w wc b (w.heap.size+1+1) C (w.heap.size+1) w.heap.size (w.heap.size+1+1+1) law n (zdg s n ws ([],false) 1).1 (zdg s n ws ([],false) 1).2)
 case first=>
  go_wp2_with fail
  go_loopw [34] (fun i wr=> ∃(k:Nat) (x:Parts×Bool) (rest:Rat),k<=ws.length/\i= .int .i64 k/\Hid ((x,rest)=zdg s n (ws.take k) ([],false) 1)/\EstSt w wr b (w.heap.size+1+1) C (w.heap.size+1) w.heap.size (w.heap.size+1+1+1) law n x rest) (fun i _=>ws.length-(intOf i).toNat)
  case atStart=>
   refine⟨0,([],false),1,Nat.zero_le _,rfl,rfl,?_,?_,?_,?_,?_,?_⟩
   ·exact zak (zar _ _ _ Mco)
   ·exact zak (zak (zak (zar _ _ _ rfl)))
   ·exact zar _ _ _ Mco
   ·refine⟨[],?_,by simp,fun nm=> .inl ⟨rfl,rfl⟩⟩;have h0:MapS ((w.alloc (.cells #[.int .i64 law.frm, .bool law.stems, .int .i64 law.num, .int .i64 law.den] 95)).alloc (.map #[] 0)) (w.alloc (.cells #[.int .i64 law.frm, .bool law.stems, .int .i64 law.num, .int .i64 law.den] 95)).heap.size ekS (fun v:Value=>v) ([]:List (ByteArray×Value)):=MapS.new _;rw[World.size_alloc]at h0;exact h0.below (n:=w.heap.size+1+1) (zac (zac (Below.refl _ _) _ Mco) _ Mco) Mco
   ·exact((((HM.o.alloc _).alloc _).alloc _).alloc _)
   ·exact zcs (zcs (zcs (zcs (zdD _ _) _) _) _) _
  case round=>
   obtain⟨k,x,rest,hk,rfl,HX,am⟩:=hrel;have xV:=am.restB;have dt:=am.gr;have aB:=zHi am;have r0:wr.cell? ⟨w.heap.size+1+1+1,0,none⟩=some (.int .i64 rest.num):=by simp only[World.cell?,xV,zbt];rfl
   have r1:wr.cell? ⟨w.heap.size+1+1+1,1,none⟩=some (.int .i64 rest.den):=by simp only[World.cell?,xV,zbt];rfl
   have nz:=zab xV;have C4:w.heap.size+1+1+1≠wr.heap.size:=Mcl;have ee:=qz.o.kept dt HM.o Mcn;clear am xV;by_cases aa:k<ws.length
   ·obtain⟨b',off,rfl,cK,hc⟩:=(Ro.sl zan ee).at aa;have bW:=will_snoc s n ws ([],false) 1 aa;have ju:=zkC (s:=s) (frm:=n) lV.o k;rw[<-HX.o]at bW ju;have bI:ws[k]∈ws:=List.getElem_mem aa;have cU:=lV.o.pos _ bI;have xe:=lV.o.isN _ bI;have fZ:=Eh.o _ bI;have G8:ws[k].2<=1:=Rat.le_trans (zgQ (l:=ws) (fun q hq=>by have:=lV.o.pos q hq;grind) _ bI) lV.o.le;generalize ws[k]=pt at*;obtain⟨pn,pq⟩:=pt;have i0:wr.cell? ⟨b',off+k*3,none⟩=some (.string pn):=hc 0 _ rfl;have i1:wr.cell? ⟨b',off+k*3+1,none⟩=some (.int .i64 pq.num):=hc 1 _ rfl;have i2:wr.cell? ⟨b',off+k*3+2,none⟩=some (.int .i64 pq.den):=hc 2 _ rfl;have xR:zaK pq:=zcb (by simp only at cU;grind) G8 (zev Mcn Mcn xe);have ar:(k:Int)<(ws.length:Int):=Mcl;have aT:(0:Int)<=(k:Int):=Mcl;have cI:zdU s pn n=ziF s pn n:=by rw[able_q,fZ];rfl
    simp only[cI]at bW;have eu:=zHi bW;have lI:=zHi ju;have lQ:=zHi (fun W hW=>HP.o W (zkE dt hW (n:=wr.heap.size) dt.size));clear hc bW ju bI cU xe fZ G8 cI ee;have fH:=zHi (fun W (hW:Below wr.heap.size wr W)=>zk6 base b (w.heap.size+1+1) C (w.heap.size+1) s law n pn W (lQ.o W hW) (aB.o.keep hW).heir);generalize ziF s pn n=ab at*;cases ab
    ·go_wp2_with (go_at_call 68;refine(fH.o _ Bw).mono ?_;rintro e wq ⟨rfl,z,rfl⟩)
     go_round
     case rel=>exact⟨k+1,x,rest,by omega,by go_num,by show _=_;simpa using eu.o.symm,aB.o.keep (k:=wr.heap.size) Bw⟩
     case measure=>simp[intOf];omega
    ·go_wp2_with (first
      |(go_at_call 68;refine(fH.o _ Bw).mono ?_;rintro e wq ⟨rfl,z,rfl⟩)
      |(go_at_call 69
        go_loud(refine(zg3 b (w.heap.size+1+1) C (w.heap.size+1) law n pn pq x.1 x.2 _ (aB.o.keep (k:=wr.heap.size) Bw).heir (aB.o.keep (k:=wr.heap.size) Bw).mark (aB.o.keep (k:=wr.heap.size) Bw).has Mcl Mcl Mcl lI.o.bd.good (lI.o.bd.share (by have:=lI.o.nn;grind) pn) xR).mono ?_)
        rintro e wq ⟨rfl,g1,g2,g3⟩;have cW:=(aB.o.keep (W':=(wr.alloc (.cells #[.string pn, .int .i64 pq.num, .int .i64 pq.den] 63)).ext z) (k:=wr.heap.size) Bw).two HN.o g3 g1 g2;have hp:wq.heap[wr.heap.size]?=some (.cells #[.string pn, .int .i64 pq.num, .int .i64 pq.den] 63):=(g3.others _ Mcu Mcl Mcl).trans (zb9 (zar _ _ _ rfl));have eW:=zHi cW;have q0:wq.cell? ⟨w.heap.size+1+1+1,0,none⟩=some (.int .i64 rest.num):=by simp only[World.cell?,cW.restB,zbt];rfl
        have q1:wq.cell? ⟨w.heap.size+1+1+1,1,none⟩=some (.int .i64 rest.den):=by simp only[World.cell?,cW.restB,zbt];rfl
        have f0:wq.frozen? ⟨w.heap.size+1+1+1,0,none⟩=false:=by simp only[World.frozen?,cW.restB,zbt];rfl
        have f1:wq.frozen? ⟨w.heap.size+1+1+1,1,none⟩=false:=by simp only[World.frozen?,cW.restB,zbt];rfl
        obtain⟨-,p1,p2⟩:=cF3 hp;have Ja:=zab cW.restB
        clear cW hp g1 g2 g3)
      |(go_at_call 70;refine(zhA rest pq _ lI.o.small xR).mono ?_;rintro e wq2 ⟨rfl,z2,rfl⟩;simp only[za9]))
     go_round
     case rel=>exact⟨k+1,zcP pn pq x,rest-pq,by omega,by go_num,by show _=_;simpa using eu.o.symm,(eW.o.put HN.o (rest-pq)).keep (zam _ z2)⟩
     case measure=>simp[intOf];omega
   ·have ar: ¬(k:Int)<(ws.length:Int):=Mcl;rw[List.take_of_length_le Mcl]at HX;go_wp2_with fail
    go_meet
    rw[<-HX.o];exact aB.o
 case rest=>
  have ju:=zkC (s:=s) (frm:=n) lV.o ws.length;rw[List.take_of_length_le (Nat.le_refl _)]at ju;generalize zdg s n ws ([],false) 1=y at*;obtain⟨x,rest⟩:=y;have lI:=zHi ju;have dt:=hcut.gr;have aB:=zHi hcut;have lQ:=zHi (fun W hW=>HP.o W (zkE dt hW (n:=wc.heap.size) dt.size));clear ju hcut qz lV Eh;have cY:=zHi (fun W (hW:Below wc.heap.size wc W)=>zlB base b (w.heap.size+1+1) C (w.heap.size+1) s law n (fun c hc=>(HG.o.kids c hc).2) bV (zaW s) n W (lQ.o W hW) (aB.o.keep hW).heir (zkD HG.o.acyc n));have fK:=zHi (fun W (hW:Below wc.heap.size wc W)=>zjH base b s n W (lQ.o W hW) Mcl);generalize ct:zaL s n=sp at*
  go_upto_region 11 with(first
   |(go_at_call 71;refine(cY.o _ Bw).mono ?_;rintro e wq ⟨v,es,rfl,o1,o2,o3,o4⟩;obtain⟨VA,vc,rfl,_,kC⟩:=o1.sl zjP;have fT:=zHi o1;have dl:=zHi o2;clear o1 o2)
   |(go_at_call 72;refine(fK.o _ Bw).mono ?_;rintro e wq2 ⟨rfl,z,rfl⟩))
  have cK:b<wc.heap.size:=Nat.lt_of_lt_of_le hb dt.size;have bs:=o3.size;have fH:=zHi (fun W (hW:Below wq.heap.size wq W)=>zk6 base b (w.heap.size+1+1) C (w.heap.size+1) s law n sp W (lQ.o W (o3.trans (hW.mono bs))) (aB.o.keep (o3.trans (hW.mono bs))).heir);have y9:zcn s n=if(!noB sp&&ziF s sp n)=true then sp else⟨#[]⟩:=by unfold zcn;rw[ct,able_q]
  generalize zcn s n=hs at*;generalize ziF s sp n=ab at*;go_cut [59,60,61,62,63,64,65,66]from 67 (fun _ _ _ _ _ _ _ v66 W=>v66= .bool (!noB sp&&!ab)/\ ∃z,W=wq.ext z)
  case first=>
   cases ab;all_goals(go_wp2_with (go_at_call 68;refine(fH.o _ Bw).mono ?_;rintro e wq2 ⟨rfl,z2,rfl⟩))
   all_goals go_meet
   all_goals exact⟨zaP (by first|(simp[noB, *];done)|(rw[Bool.eq_iff_iff];simp[noB];simp[*];done)),zbb Bw⟩
  case rest=>
   obtain⟨rfl,z2,rfl⟩:=hcut;go_upto_if 66 with fail
   go_cut [14,66]from 67 (fun v14 _ W=>v14= .string hs/\W=wq.ext z2)
   case first=>
    cases fZ:noB sp
    ·cases ab
     ·exact Mbr
     ·exact Mbr
    ·cases ab;all_goals go_wp2_with fail
     all_goals go_meet
     all_goals rw[fZ]at y9
     all_goals have bW:sp=⟨#[]⟩:=noB_nil fZ
     all_goals exact⟨by rw[y9,bW];rfl,rfl⟩
   case rest=>
    obtain⟨rfl,rfl⟩:=hcut;have eL:Below wq.heap.size wq (wq.ext z2):=zam _ _;have av:Below wc.heap.size wc (wq.ext z2):=o3.trans (eL.mono bs);have yk:=aB.o.keep av;have uR:=zHi (fT.o.keep (n:=wq.heap.size) eL);have o8:=zHi (dl.o.keep (n:=wq.heap.size) eL);generalize wq.ext z2=W3 at*;have C5:=uR.o.ro;obtain⟨VA2,vc2,Gj,_,nz⟩:=C5;simp only[Value.slice.injEq]at Gj;obtain⟨rfl,_,rfl⟩:=Gj;have Bb:=zHi nz;have bB:=zHi yk;clear yk nz eL av fT dl aB fH cY fK o3 bs y9 ct;have qU:=oY.o;have uL:=zHi o8.o.len;go_upto_block 2 with fail
    go_cut [15]from 67 (fun _ W=> ∃rest',EstSt w W b (w.heap.size+1+1) C (w.heap.size+1) w.heap.size (w.heap.size+1+1+1) law n EF rest'/\Bd EF.1 1)
    case first=>
     have r0:W3.cell? ⟨w.heap.size+1+1+1,0,none⟩=some (.int .i64 rest.num):=by simp only[World.cell?,bB.o.restB,zbt];rfl
     have r1:W3.cell? ⟨w.heap.size+1+1+1,1,none⟩=some (.int .i64 rest.den):=by simp only[World.cell?,bB.o.restB,zbt];rfl
     have l2:W3.cell? ⟨w.heap.size,2,none⟩=some (.int .i64 law.num):=by simp only[World.cell?,bB.o.lawB,zlK];rfl
     have l3:W3.cell? ⟨w.heap.size,3,none⟩=some (.int .i64 law.den):=by simp only[World.cell?,bB.o.lawB,zlK];rfl
     have nz:=zab bB.o.restB;have tx:=zab bB.o.lawB;have ia:=lI.o.nn;have bQ:=lI.o.le;have dD:=lI.o.small;have dh:=zHi lI.o.bd;have qg:=zHi qU;have vM:=zjK (s:=s) (stems:=law.stems) (frm:=n) bV (zaW s) n;generalize zb2 s law.stems n (zaW s) n=tr at*;have qK:=zHi vM;clear qU vM oY;by_cases he:es.length=0
     ·have JE:(((es.length:Nat):Int)==0)=true:=by rw[he];rfl
      have KG:tr=[]:=List.eq_nil_of_length_eq_zero (by have:=uL.o;omega);clear he;go_wp2_with (go_at_call 69;refine(zg3 b (w.heap.size+1+1) C (w.heap.size+1) law n hs rest x.1 x.2 _ bB.o.heir bB.o.mark bB.o.has Mcl Mcl Mcl dh.o.good (dh.o.share McO hs) dD).mono ?_;rintro e w6 ⟨rfl,g1,g2,g3⟩)
      go_meet
      have h1:=qg.o;rw[KG]at h1;rw[h1];exact⟨rest,bB.o.two HN.o g3 g1 g2,(zf5 (fl:=x.2) dh.o ia).up6 McO⟩
     ·have JE:(((es.length:Nat):Int)==0)=false:=by simpa using he
      have ai:tr≠[]:=fun e=>he (by have:=uL.o;rw[e]at this;exact this)
      have iY:tr.isEmpty=false:=by cases tr with|nil=>exact absurd rfl ai|cons _ _=>rfl
      have iN:=zHi ai;clear ai he;cases fZ:noB hs
      ·have sr:hs.toList.isEmpty=false:=fZ;have Da:(!hs.toList.isEmpty)=true:=by rw[sr];rfl
       have gB:=qg.o;rw[iY,fZ]at gB;simp only[Bool.false_eq_true,if_false]at gB;have qh:=zHi gB;obtain⟨ow1,ow2,ow3⟩:=own_any dD du;obtain⟨oo1,oo2,oo3,oo4⟩:=own_ok lI.o.isN ia bQ du;generalize Rat.divInt law.num law.den=la at*;generalize ae:rest*la=own at*;have eH:=zHi ow3;clear gB ow3 ae iY fZ
       go_wp2_with (first
        |(go_at_call 73;refine(eH.o _).mono ?_;rintro e w5 ⟨rfl,z5,rfl⟩;simp only[za9])
        |(go_at_call 69
          refine(zg3 b (w.heap.size+1+1) C (w.heap.size+1) law n hs own x.1 x.2 _ (bB.o.keep (k:=W3.heap.size) Bw).heir (bB.o.keep (k:=W3.heap.size) Bw).mark (bB.o.keep (k:=W3.heap.size) Bw).has Mcl Mcl Mcl dh.o.good (dh.o.share McO hs) oo3).mono ?_;rintro e w6 ⟨rfl,g1,g2,g3⟩;have iK:=(bB.o.keep (W':=(W3.ext z5).alloc (.cells #[.int .i64 own.num, .int .i64 own.den] 58)) (k:=W3.heap.size) Bw).two HN.o g3 g1 g2;have oa:=zHi iK;have hO:w6.heap[(W3.ext z5).heap.size]?=some (zbt own):=(g3.others _ Mco Mcu Mcu).trans (zar _ _ _ rfl);have q0:w6.cell? ⟨w.heap.size+1+1+1,0,none⟩=some (.int .i64 rest.num):=by simp only[World.cell?,iK.restB,zbt];rfl
          have q1:w6.cell? ⟨w.heap.size+1+1+1,1,none⟩=some (.int .i64 rest.den):=by simp only[World.cell?,iK.restB,zbt];rfl
          have f0:w6.frozen? ⟨w.heap.size+1+1+1,0,none⟩=false:=by simp only[World.frozen?,iK.restB,zbt];rfl
          have f1:w6.frozen? ⟨w.heap.size+1+1+1,1,none⟩=false:=by simp only[World.frozen?,iK.restB,zbt];rfl
          have o0:w6.cell? ⟨W3.heap.size+z5.os.size,0,none⟩=some (.int .i64 own.num):=by simp only[<-zag,World.cell?,hO,zbt];rfl
          have o1:w6.cell? ⟨W3.heap.size+z5.os.size,1,none⟩=some (.int .i64 own.den):=by simp only[<-zag,World.cell?,hO,zbt];rfl
          have Ja:=zab iK.restB;go_loud(have EV:=(LK.below (a:=W3) (n:=W3.heap.size) (b:=(W3.ext z5).alloc (.cells #[.int .i64 own.num, .int .i64 own.den] 58)) Bw).trans (zkB g3 (bB.o.keep (k:=W3.heap.size) Bw).mark (bB.o.keep (k:=W3.heap.size) Bw).has))
          go_loud(have ij:=zHi (((EV.trans (LK.put (q:=rest-own) iK.restB)))))
          clear iK hO g1 g2 g3 EV)
        |(go_at_call 70;refine(zhA rest own _ dD oo3).mono ?_;rintro e w7 ⟨rfl,z7,rfl⟩;simp only[za9])
        |(go_at_call 74
          refine(zhg b (w.heap.size+1+1) C (w.heap.size+1) law n Mcl Mcl Mcl (zaW s) es tr _ VA es.length vc (rest-own) (1-rest+own) (zcP hs own x).1 (zcP hs own x).2 _ ((ij.o.trans (LK.below (zam _ z7))).items o8.o) qK.o ((ij.o.trans (LK.below (zam _ z7))).ro Bb.o) iN.o uL.o ((oa.o.put HN.o (rest-own)).keep (zam _ z7)).heir ((oa.o.put HN.o (rest-own)).keep (zam _ z7)).mark ((oa.o.put HN.o (rest-own)).keep (zam _ z7)).has McO McO oo4 (zf5 (fl:=x.2) dh.o oo1) McO).mono ?_;rintro e w8 ⟨rfl,g1,g2,g3⟩;have mV:=((oa.o.put HN.o (rest-own)).keep (zam _ z7)).two HN.o g3 g1 g2;have qE:=zHi mV
          clear mV g1 g2 g3))
       go_meet
       rw[qh.o];exact⟨rest-own,qE.o,(zg7 (fl:=(zcP hs own x).2) (show 0<=rest-own by grind) (zf5 (n:=hs) (fl:=x.2) dh.o oo1)).up6 McO⟩
      ·have sr:hs.toList.isEmpty=true:=fZ;have Da:(!hs.toList.isEmpty)=false:=by rw[sr];rfl
       have gB:=qg.o;rw[iY,fZ]at gB;simp only[Bool.false_eq_true,if_false,if_true]at gB;have qh:=zHi gB;clear gB iY fZ
       go_wp2_with (go_at_call 74
                    refine(zhg b (w.heap.size+1+1) C (w.heap.size+1) law n Mcl Mcl Mcl (zaW s) es tr _ VA es.length vc rest (1-rest) x.1 x.2 _ o8.o qK.o Bb.o iN.o uL.o bB.o.heir bB.o.mark bB.o.has ia bQ dD dh.o McO).mono ?_;rintro e w8 ⟨rfl,g1,g2,g3⟩;have mV:=bB.o.two HN.o g3 g1 g2;have qE:=zHi mV
                    clear mV g1 g2 g3)
       go_meet
       rw[qh.o];exact⟨rest,qE.o,(zg7 (fl:=x.2) ia dh.o).up6 McO⟩
    case rest=>
     obtain⟨rest',am,dp⟩:=hcut;have dh:=zHi dp;have zu:=am.heir;have zv:=am.mark;have BO:=am.gr;have Fb:=am.has;have hh8:=zab zu;clear am dp qU oY uL Bb uR o8 lQ lI bB;obtain⟨W8,rfl⟩: ∃x,x=wc:=⟨_,rfl⟩
     have zZ:=Fb.lt;obtain⟨mm,dA,cM,iB⟩:=Fb;unfold HeirAt at zu;obtain⟨-,-,-,-,-,-,-,e7⟩:=cF8 zu;obtain⟨Dh,vX⟩:=zj1 (P:=Tryz.prog) dA (t:=125) Tryz.underlying125;generalize dA.choose_spec.choose=cc at*;generalize dA.choose=ce at*;have IJ: ∀j cur,W8.heap[j]?=some (.cells cur 63 (0,0))->j≠C:=fun j cur hj e=>by
      subst e;unfold MarkAt at zv;rw[zv]at hj;simp at hj
     have Hy:=zHi zv;have Hh:=zHi BO;have ql:=zHi iB;have kL:=zHi cM;have hs8:=BO.size;have Ba:=zHi vX;clear zv BO iB cM vX IJ dA zu;go_upto_block 6 with fail
     generalize hI:W8.heap.size=I at*;generalize A8:w.heap.size+1=mb at*;have AR:=zHi A8;have Ho:=zHi hI;clear Dh;go_wp2_with fail
     go_loopg [16] (mm.length+1) (fun gg v wr=> ∃done left,Hid ((done++left).Perm mm)/\RangeAt wr mb I ekS (fun v:Value=>v) mm left/\OwnS wr w.heap.size 63 3 zaa v (colP EF.1 done)/\MarkAt wr C EF.2/\w.grownBy wr (some C)/\left.length<gg/\I<wr.heap.size)
     case atStart=>
      refine⟨[],mm,List.Perm.refl _,Ba.o,OwnS.nil,?_,?_,by omega,by simp;omega⟩
      ·exact Hy.o.alloc _
      ·exact zcs Hh.o _
     case round=>
      obtain⟨done,left,HP,sy,ae,hm,hg,b9,hIl⟩:=hrel;obtain⟨cl,bo⟩: ∃cl,cl=colP EF.1 done:=⟨_,rfl⟩
      rw[<-bo]at ae;have bU:=zHi bo;clear bo;obtain⟨VC,vcc,rfl,_,KM⟩:=ae.sl zan;have BJ: ∀j,za7 (.slice VC cl.length vcc)=some j->w.heap.size<=j/\j<wr.heap.size:=fun j hj=>ae.ge j hj
      rcases zla (P:=Tryz.prog) sy 0 with⟨h0,hrun⟩|⟨i,p,w',hi,hrun,hra',hgr',hsz,hent⟩
      ·have BT:=HP.o;rw[h0,List.append_nil]at BT;have pw:cl.Perm EF.1:=by
        rw[bU.o];exact(BT.filterMap (zl5 EF.1)).trans (znR dh.o.good kL.o ql.o)
       have eO:cl.length<=1000000000:=by rw[pw.length_eq];exact dh.o.len Rat.le_refl
       have eG:=zHi eO;have GR:=zHi pw;have HO:=zHi ae;have HM:=zHi hm;have ej:=zHi hg;have sM:=zHi BJ;clear BT pw ae hm hg BJ sy h0 eO;go_wp2_with (go_at_call 75;refine(sortP_any (.slice VC cl.length vcc) cl w.heap.size _ HO.o eG.o).mono ?_;rintro e wq ⟨rfl,L,s1,s2,s3,s4,s5⟩)
       go_ret
       have hL:L=EF.1:=zl6 dh.o.good (s1.trans GR.o) s2;rw[hL]at s3;exact⟨_,rfl,s3,zkF HM.o s5 (fun j hj=>by have:=sM.o j hj;omega),row_gr ej.o s5 (fun j hj=>(sM.o j hj).1)⟩
      ·obtain⟨pn,pv⟩:=p;have gK:(pn,pv)∈mm:=HP.o.mem_iff.1 (List.mem_append_right _ (List.mem_of_getElem? hi));have Kw:pv=za9 (zaf EF.1 pn):=by
        have h1:=zhM kL.o gK;rcases ql.o pn with⟨h2,_⟩|h2
        ·rw[h2]at h1;cases h1
        ·rw[h2]at h1;simpa using h1.symm
       subst Kw;have Fo:zl5 EF.1 (pn,za9 (zaf EF.1 pn))=if 0<zaf EF.1 pn then some (pn,zaf EF.1 pn)else none:=rfl;have fW:=done_perm HP.o hi;have bm:=colP_snoc EF.1 done (pn,za9 (zaf EF.1 pn));rw[<-bU.o,Fo]at bm;have jU:=zHi fW;have dK:=zHi bm;have dH:cl.length<=1000000000:=by
        have h1:(colP EF.1 (done++left)).Perm EF.1:=(HP.o.filterMap (zl5 EF.1)).trans (znR dh.o.good kL.o ql.o);have h2:=h1.length_eq;unfold colP at h2;rw[List.filterMap_append,List.length_append]at h2;have h3:=dh.o.len Rat.le_refl;have h4:=bU.o;unfold colP at h4;rw[<-h4]at h2;omega
       have hel:(left.eraseIdx i).length+1=left.length:=by
        have:=(List.getElem?_eq_some_iff.1 hi).1;rw[List.length_eraseIdx_of_lt this];omega
       clear fW bm Fo gK hi;generalize zaf EF.1 pn=q at*;have Gd:(Instr.next (.pointer (some ⟨I,0,none⟩)) false 0).run Tryz.prog wr= .ok (.tuple #[.bool true, .string pn, .agg #[.int .i64 q.num, .int .i64 q.den]]) w':=hrun;have Fx:(Instr.entry (.pointer (some ⟨I,0,none⟩))).run Tryz.prog w'= .ok (.tuple #[.string pn, .agg #[.int .i64 q.num, .int .i64 q.den]]) w':=hent;have xG: ∀j,some I=some j->w.heap.size<=j:=fun j hj=>by have:=Ho.o;simp at hj;omega
       have fu:=ae.grown hgr' (by
        cases hb:za7 (.slice VC cl.length vcc)with
        |none=>exact .inl rfl
        |some j=>
         right
         intro e;obtain⟨cur,rP⟩:=zlJ ae hb
         exact(ziK sy rP).2 MdH)
       have FO:=zkF hm hgr' (fun j hj=>by have:=xG j hj;omega);have eA:=row_gr hg hgr' xG;have ww: ∀j,za7 (.slice VC cl.length vcc)=some j->w.heap.size<=j/\j≠mb/\j≠I:=fun j hj=>by
        obtain⟨cur,rP⟩:=zlJ fu hj;exact⟨(fu.ge j hj).1,ziK hra' rP⟩
       have oV:=zHi ww;have Bn:=zHi hsz;have uX:=zHi hra';have HO:=zHi fu;have HM:=zHi FO;have ej:=zHi eA;have IU:I<w'.heap.size:=Mcl;have jE:w.heap.size<=w'.heap.size:=eA.size;clear sy hra' ae fu hm FO hg eA hrun hent hgr' BJ hsz ww;by_cases hq:0<q.num
       ·have jq:=dK.o;rw[if_pos (znU.2 hq)]at jq;have qb:=zHi jq;clear jq;go_wp2_with (at_builtin;go_loud(refine zav (v:= .slice VC cl.length vcc) (n:=cl.length) (m:=1) rfl _ _ rfl zdO zan zce rfl (HO.o.keep (n:=w'.heap.size) Bw) rfl rfl rfl (sl_part (p:=(pn,q)) (zar _ _ _ Mco)) McJ Mcl Mcq ?_);intro v3 w3 h1 h2 h3)
        have R1:=(uX.o.below (n:=w'.heap.size) (W_two w' _ _)).grown h2 (fun e=>(oV.o mb e.symm).2.1 rfl) (fun e=>(oV.o I e.symm).2.2 rfl);have M1:=zkF ((HM.o.alloc _).alloc _) h2 (fun j hj=>by have:=oV.o j hj;omega);have G1:=row_gr (zcs (zcs ej.o _) _) h2 (fun j hj=>(oV.o j hj).1);have S1:=h2.size;simp only[World.size_alloc]at S1;go_roundg (gk-1)
        case measure=>omega
        case rel=>exact⟨done++[(pn,za9 q)],left.eraseIdx i,jU.o,R1,by rw[qb.o];exact h1,M1,G1,by omega,by omega⟩
       ·have jq:=dK.o;rw[if_neg (fun h=>hq (znU.1 h))]at jq;have qb:=zHi jq;clear jq;go_wp2_with fail
        go_roundg (gk-1)
        case measure=>omega
        case rel=>exact⟨done++[(pn,za9 q)],left.eraseIdx i,jU.o,uX.o.below (n:=w'.heap.size) Bw,by rw[qb.o];simpa using HO.o.keep (n:=w'.heap.size) Bw,HM.o.alloc _,zcs ej.o _,by omega,by simp;omega⟩
end Go.Proofs.YtckkbkdcdkhglaaGreatDoor

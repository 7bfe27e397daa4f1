/- Walk of chapter 5's estate, the will. -/
import Derived.Test.YtjhbofabmpfniaaGreatDoorJV
import Derived.Test.YtjhbofabmpfniaaGreatDoorO8
set_option linter.unusedSimpArgs false
set_option linter.unusedVariables false
set_option maxRecDepth 100000
set_option maxHeartbeats 4000000
namespace Go.Proofs.YtjhbofabmpfniaaGreatDoor
open Go.RowKit Go.Shelf
attribute [local go_sem] World.cell?_alloc_mark zae za3 zam za6 zas zat zau zav zaw zax zay
attribute [local go_sem] zaj zac
theorem look_will {base:Nat} {W:World} {B:List Nat} {d c p wl r:Nat} {mv:Value} {s:St} (h:PplAt base W B d c p wl r mv s) (n:ByteArray):
 ∃A cc,(∀W',Below W.heap.size W W'->(Instr.lookup 135 (.map (some wl)) (.string n) false).run Tryz.prog W'= .ok (.slice A (zbs s n).length cc) W')/\Ro W 75 zaa A (zbs s n):=by
 obtain⟨m,k1,k2⟩:=h.wills;have hl:=fun W' (hB:Below W.heap.size W W')=>zb3 mapSP (k1.below hB).at n
 rcases k2 n with⟨h1,h2⟩|⟨A,cc,h1,h2⟩
 ·rw[h1]at hl;refine⟨none,0,fun W' hB=> ?_,by rw[h2];exact Ro.nil⟩;rw[h2];exact hl W' hB
 ·rw[h1]at hl;exact⟨A,cc,hl,h2⟩
theorem noB_nil {s:ByteArray} (h:noB s=true):s=⟨#[]⟩:=by
 unfold noB at h;have h1:s.toList=(⟨#[]⟩:ByteArray).toList:=by rw[List.isEmpty_iff.1 h,ByteArray.toList_eq]
 have h2:zaf s ⟨#[]⟩=true:=by unfold zaf;rw[h1];simp
 exact za2.1 h2
theorem two_gr {w W W':World} {C m:Nat} (h:w.grownBy W (some C)) (hm:w.heap.size<=m) (t:Two2 W W' C m):w.grownBy W' (some C):=
 have b:=t.below 0 (Nat.zero_le _) (Nat.zero_le _) (Nat.zero_le _);⟨b.os.trans h.os,b.tape.trans h.tape,b.output.trans h.output,Nat.le_trans h.size t.size,fun k hk ai=>(t.others k (Nat.lt_of_lt_of_le hk h.size) (fun e=>ai (by rw[e])) Mcn).trans (h.block k hk ai)⟩
theorem zkD {w W W':World} {n:Nat} {row:Option Nat} (h:w.grownBy W row) (hb:Below n W W') (hn:w.heap.size<=n):w.grownBy W' row:=
 ⟨hb.os.trans h.os,hb.tape.trans h.tape,hb.output.trans h.output,Nat.le_trans h.size hb.size,fun k hk ai=>(hb.block k Mcn).trans (h.block k hk ai)⟩
structure EstN (w:World) (h C m L R:Nat):Prop where
 gc:C<w.heap.size
 gh:w.heap.size<=h
 gm:w.heap.size<=m
 gl:w.heap.size<=L
 gr:w.heap.size<=R
 hm:h≠m
 hl:h≠L
 hr:h≠R
 ml:m≠L
 mr:m≠R
 lr:L≠R
theorem own_any {rest:Rat} {law:Law} (hs:zaI rest) (dm:za9 16 law.num law.den=true):
 IntKind.i64.wrap (rest.num*law.num)=rest.num*law.num/\IntKind.i64.wrap ((rest.den:Int)*law.den)=(rest.den:Int)*law.den/\
 ∀W:World,Calls Tryz.prog 150 #[.int .i64 (rest.num*law.num), .int .i64 ((rest.den:Int)*law.den)] W (Ret W (zaB (rest*Rat.divInt law.num law.den))):=by
 obtain⟨h1,h2,_,_⟩:=zbj dm;have hd:=dm;unfold za9 at hd;simp only[Bool.and_eq_true,decide_eq_true_eq]at hd;have y9:(rest.den:Int)<=1000000000:=by have:=hs.2;omega
 have fR:0<(rest.den:Int):=by have:=rest.den_pos;omega
 obtain⟨m1,n1⟩:=zaP hs.1 (show law.num.natAbs<=1000000000 by omega);obtain⟨m2,n2⟩:=zaP (show(rest.den:Int).natAbs<=1000000000 by omega) (show law.den.natAbs<=1000000000 by omega);have m4:0<(rest.den:Int)*law.den:=Int.mul_pos fR Mcn;refine⟨IntWalk.i64_in _ Mcn,IntWalk.i64_in _ Mcn,fun W=> ?_⟩;have e:rest*Rat.divInt law.num law.den=Rat.divInt (rest.num*law.num) ((rest.den:Int)*law.den):=by
  rw[zgR,h1,h2]
 rw[e];exact zdN _ _ W Mcn m4 Mcn
theorem own_ok {rest:Rat} {law:Law} (hN:IsN 720720 rest) (h0:0<=rest) (h1:rest<=1) (dm:za9 16 law.num law.den=true):
 0<=rest*Rat.divInt law.num law.den/\rest*Rat.divInt law.num law.den<=rest/\zaI (rest*Rat.divInt law.num law.den)/\zaI (rest-rest*Rat.divInt law.num law.den):=by
 obtain⟨⟨ld,ld0,ld1,l1⟩,l2,l3⟩:=isN_law dm;generalize Rat.divInt law.num law.den=la at*;have iU:0<=rest*la:=Rat.mul_nonneg h0 l2;have kZ:rest*la<=rest:=by
  have:=Rat.mul_nonneg h0 (show 0<=1-la by grind);grind
 have hn:=zkl hN l1;refine⟨iU,kZ,zcc iU McP (zev Mcn Mcn hn),zcc McP McP (zev (n:=720720*ld) Mcn Mcn (zgX (zle hN) hn))⟩
theorem zgD {l:List Tree} {q t:Rat} {out:Parts} {fl:Bool} (h0:0<=q) (h:Bd out t):Bd (zcx l q (out,fl)).1 (t+q):=by
 rw[zcx];have h1:=zhO (zcv (ze9 h0 l.length)) (l:=l) (fl:=fl||bigQ (q*(1/(l.length:Rat)))) h;exact h1.up6 (by have:=zk4 h0 l.length;grind)
theorem zhW {W:World} {P o k:Nat} {v:Value} (h:k≠P):(W.setCell ⟨P,o,none⟩ v).heap[k]?=W.heap[k]?:=by
 have hb: ¬P=k:=fun e=>h e.symm
 simp[World.setCell,Array.getElem?_modify,hb]
theorem row_gr {w W W':World} {C:Nat} {row:Option Nat} (h:w.grownBy W (some C)) (k:W.grownBy W' row) (hr: ∀j,row=some j->w.heap.size<=j):w.grownBy W' (some C):=
 ⟨k.os.trans h.os,k.tape.trans h.tape,k.output.trans h.output,Nat.le_trans h.size k.size,fun i hi ai=>(k.block i (Nat.lt_of_lt_of_le hi h.size) (fun e=>by have:=hr i e.symm;omega)).trans (h.block i hi ai)⟩
theorem zkE {W W':World} {C:Nat} {f:Bool} {row:Option Nat} (h:MarkAt W C f) (k:W.grownBy W' row) (hr: ∀j,row=some j->j≠C):MarkAt W' C f:=(k.block C (zab h) (fun e=>hr C e.symm rfl)).trans h
theorem zlP {α:Type} {W:World} {base:Nat} {e:TypeId} {size:Nat} {f:α->List Value} {v:Value} {xs:List α} (h:OwnS W base e size f v xs) {j:Nat} (hj:zaA v=some j): ∃cur,W.heap[j]?=some (.cells cur e (0,0)):=by
 rcases h with⟨rfl,_⟩|⟨g,o,c,cur,rfl,_,hg,_⟩
 ·cases hj
 ·simp only[zaA,Option.some.injEq]at hj;subst hj;exact⟨cur,hg⟩
theorem ziM {W:World} {b r:Nat} {K V:Type} {ek:K->Value} {ev:V->Value} {m left:List (K×V)} (h:RangeAt W b r ek ev m left) {j:Nat} {cur:Array Value} {t:TypeId} {fr:Nat×Nat} (hj:W.heap[j]?=some (.cells cur t fr)):j≠b/\j≠r:=by
 obtain⟨es,clock,since,seen,c0,h1,_,_,_,h5,_⟩:=h;refine⟨fun e=> ?_,fun e=> ?_⟩
 ·subst e;rw[h1]at hj;simp at hj
 ·subst e;rw[h5]at hj;simp at hj
theorem zoa {q:Rat}:0<q↔0<q.num:=by rw[Rat.lt_iff];simp
theorem W_two (w:World) (o1 o2:Obj):Below w.heap.size w ((w.alloc o1).alloc o2):=zad (zad (Below.refl _ _) _) _
def LK (W W':World):Prop:= ∀(k:Nat) (cur:Array Value) (fr:Nat×Nat),W.heap[k]?=some (.cells cur 243 fr)->W'.heap[k]?=W.heap[k]?
theorem LK.trans {a b c:World} (h:LK a b) (k:LK b c):LK a c:=fun i cur fr hi=>(k i cur fr ((h i cur fr hi).trans hi)).trans (h i cur fr hi)
theorem LK.below {n:Nat} {a b:World} (h:Below n a b) (hn:a.heap.size<=n:=by first|exact Nat.le_refl _|omega):LK a b:=fun i cur fr hi=>h.block i (Nat.lt_of_lt_of_le (Array.getElem?_eq_some_iff.1 hi).1 hn)
theorem LK.put {W:World} {R:Nat} {q0 q:Rat} (h:W.heap[R]?=some (zbr q0)):LK W ((W.setCell ⟨R,0,none⟩ (.int .i64 q.num)).setCell ⟨R,1,none⟩ (.int .i64 q.den)):=fun i cur fr hi=>by
 have ai:i≠R:=by
  intro e;subst e;rw[h]at hi;simp[zbr]at hi
 rw[zhW ai,zhW ai]
theorem LK.items {W W':World} {Q:Nat->Prop} {f:Nat} {es:List Ln} {l:List Tree} (h:LK W W') (k:ItemsN W Q f es l):ItemsN W' Q f es l:=k.same h
theorem LK.ro {W W':World} {A:Option Addr} {es:List Ln} (h:LK W W') (k:Ro W 243 lnC A es):Ro W' 243 lnC A es:=k.same (fun b cur fr hx _=>h b cur fr hx)
def zlQ (law:Law):Obj:= .cells #[.int .i64 law.frm, .bool law.stems, .int .i64 law.num, .int .i64 law.den] 130
structure EstSt (w W:World) (b h C m L R:Nat) (law:Law) (n:ByteArray) (x:Parts×Bool) (rest:Rat):Prop where
 heir:HeirAt W h b law n C m
 lawB:W.heap[L]?=some (zlQ law)
 restB:W.heap[R]?=some (zbr rest)
 has:HasAt W m x.1
 mark:MarkAt W C x.2
 gr:w.grownBy W (some C)
section
variable {w W W':World} {b h C m L R:Nat} {law:Law} {n:ByteArray} {x y:Parts×Bool} {rest q:Rat}
theorem EstSt.keep {k:Nat} (e:EstSt w W b h C m L R law n x rest) (hB:Below k W W') (hk:W.heap.size<=k:=by first|exact Nat.le_refl _|omega):EstSt w W' b h C m L R law n x rest:=
 ⟨e.heir.keep hB hk,(hB.block L (Nat.lt_of_lt_of_le (zab e.lawB) hk)).trans e.lawB,(hB.block R (Nat.lt_of_lt_of_le (zab e.restB) hk)).trans e.restB,e.has.keep hB hk,e.mark.keep hB (Nat.lt_of_lt_of_le (zab e.mark) hk),zkD e.gr hB (Nat.le_trans e.gr.size hk)⟩
theorem EstSt.two (hn:EstN w h C m L R) (e:EstSt w W b h C m L R law n x rest) (t:Two2 W W' C m) (h1:HasAt W' m y.1) (h2:MarkAt W' C y.2):EstSt w W' b h C m L R law n y rest:=by
 have c1:=hn.gc;have c2:=hn.gh;have c3:=hn.gm;have c4:=hn.gl;have c5:=hn.gr
 have d1:=hn.hm;have d2:=hn.ml;have d3:=hn.mr
 exact⟨(t.others h (zab e.heir) Mcn d1).trans e.heir,(t.others L (zab e.lawB) Mcn (fun z=>d2 z.symm)).trans e.lawB,(t.others R (zab e.restB) Mcn (fun z=>d3 z.symm)).trans e.restB,h1,h2,two_gr e.gr c3 t⟩
theorem EstSt.put (hn:EstN w h C m L R) (e:EstSt w W b h C m L R law n x rest) (q:Rat):EstSt w ((W.setCell ⟨R,0,none⟩ (.int .i64 q.num)).setCell ⟨R,1,none⟩ (.int .i64 q.den)) b h C m L R law n x q:=by
 have c1:=hn.gc;have c5:=hn.gr
 have d1:=hn.hr;have d2:=hn.lr;have d3:=hn.mr
 have hs: ∀k,k≠R->((W.setCell ⟨R,0,none⟩ (.int .i64 q.num)).setCell ⟨R,1,none⟩ (.int .i64 q.den)).heap[k]?=W.heap[k]?:=fun k hk=>(zhW hk).trans (zhW hk)
 refine⟨(hs h d1).trans e.heir,(hs L d2).trans e.lawB,zer e.restB,e.has.block (hs m d3),(hs C Mcn).trans e.mark,?_⟩;exact⟨e.gr.os,e.gr.tape,e.gr.output,by simpa using e.gr.size,fun k hk ai=>(hs k Mcn).trans (e.gr.block k hk ai)⟩
end
theorem zjQ (base b C:Nat) (s:St) (last:Int) (law:Law) (n:ByteArray) (w:World) (rj: ∀W,w.grownBy W (some C)->PeoAt base W b s) (hG:GoodSt s last) (hM:MarkAt w C false) (bR:s.children.length<=1000) (fh:s.marriages.length<=1000) (bS:(zbs s n).length<=1000) (dm:za9 16 law.num law.den=true):
 Calls Tryz.prog 81 #[.pointer (some ⟨b,0,none⟩),law.v, .string n, .pointer (some ⟨C,0,none⟩)] w fun e w'=> ∃v,e= .returned v/\OwnS w' w.heap.size 75 3 zaa v (zcf s law n).1/\MarkAt w' C (zcf s law n).2/\w.grownBy w' (some C):=by
 have Jm:=rj w (zdE _ _);have tB: ∀(W:World),w.grownBy W (some C)->PeoAt base W b s:=rj;obtain⟨B,d,c,p,wl,r,mv,tv,la,co,jK,yu⟩:=Jm;have hb:=zab jK;unfold WldC at jK;obtain⟨-,-,-,-,c4⟩:=cF5 jK;obtain⟨WA,wcap,ew,Fl⟩:=look_will yu n;have yv:=hG.wills n;have kE: ∀q∈zbs s n,noB q.1=false:=by
  intro q hq;unfold zbs at hq;cases hf:s.wills.reverse.find? (fun x=>zaf x.1 n)with
  |none=>rw[hf]at hq;simp at hq
  |some x=>
   rw[hf]at hq;exact hG.willNames x (by simpa using List.mem_of_find?_eq_some hf) q (by simpa using hq)
 have vt:=zab hM;have HM:=zHi hM;have nW:=zHi Fl;have HP:=zHi tB;have iM:=zHi yv;have EC:=zHi kE;have HG:=zHi hG
 have kS:zcf s law n=(let y:=zdh s n (zbs s n) ([],false) 1
  let sp:=zcm s n
  let lines:=zb5 s law.stems n (zaW s) n
  if lines.isEmpty then zcQ sp y.2 y.1 else
  if noB sp then zcx lines y.2 y.1 else
  zcx lines (y.2-y.2*Rat.divInt law.num law.den) (zcQ sp (y.2*Rat.divInt law.num law.den) y.1)):=rfl
 have oZ:=zHi kS;have dp: ∀W',Below w.heap.size w W'->(Instr.lookup 135 (.map (some wl)) (.string n) false).run Tryz.prog W'= .ok (.slice WA (zbs s n).length wcap) W':=ew;generalize zcf s law n=EF at*;generalize jL:zbs s n=ws at*;have BI:=zHi jL;clear jL kS jK yu ew Fl yv kE hG hM tB rj;unfold Law.v;go_enter Tryz.func81,Tryz.ntmps81
 have cY:= @run_makeMap Tryz.prog;have pI:=dp ((((w.alloc (zlQ law)).alloc (.map #[] 0)).alloc (.cells #[.pointer (some ⟨b,0,none⟩), .int .i64 law.frm, .bool law.stems, .int .i64 law.num, .int .i64 law.den, .string n, .pointer (some ⟨C,0,none⟩), .map (some (w.heap.size+1))] 195)).alloc (.cells #[.int .i64 1, .int .i64 1] 71)) Bw;unfold zlQ at pI;go_upto_block 0 with fail
 have hN:EstN w (w.heap.size+1+1) C (w.heap.size+1) w.heap.size (w.heap.size+1+1+1):=⟨vt,by omega,by omega,by omega,by omega,by omega,by omega,by omega,by omega,by omega,by omega⟩
 have HN:=zHi hN;have hC0:C≠w.heap.size:=Mcn;clear hN dp pI cY;go_cut [12,34]from 35 (fun _ _ wc=>EstSt w wc b (w.heap.size+1+1) C (w.heap.size+1) w.heap.size (w.heap.size+1+1+1) law n (zdh s n ws ([],false) 1).1 (zdh s n ws ([],false) 1).2)
 case first=>
  go_wp2_with fail
  go_loopw [34] (fun i wr=> ∃(k:Nat) (x:Parts×Bool) (rest:Rat),k<=ws.length/\i= .int .i64 k/\Hid ((x,rest)=zdh s n (ws.take k) ([],false) 1)/\EstSt w wr b (w.heap.size+1+1) C (w.heap.size+1) w.heap.size (w.heap.size+1+1+1) law n x rest) (fun i _=>ws.length-(intOf i).toNat)
  case atStart=>
   refine⟨0,([],false),1,Nat.zero_le _,rfl,rfl,?_,?_,?_,?_,?_,?_⟩
   ·exact zal (zar _ _ _ Mcq)
   ·exact zal (zal (zal (zar _ _ _ rfl)))
   ·exact zar _ _ _ Mcq
   ·refine⟨[],?_,by simp,fun nm=> .inl ⟨rfl,rfl⟩⟩;have h0:MapS ((w.alloc (.cells #[.int .i64 law.frm, .bool law.stems, .int .i64 law.num, .int .i64 law.den] 130)).alloc (.map #[] 0)) (w.alloc (.cells #[.int .i64 law.frm, .bool law.stems, .int .i64 law.num, .int .i64 law.den] 130)).heap.size ekS (fun v:Value=>v) ([]:List (ByteArray×Value)):=MapS.new _;rw[World.size_alloc]at h0;exact h0.below (n:=w.heap.size+1+1) (zad (zad (Below.refl _ _) _ Mcq) _ Mcq) Mcq
   ·exact((((HM.o.alloc _).alloc _).alloc _).alloc _)
   ·exact zcr (zcr (zcr (zcr (zdE _ _) _) _) _) _
  case round=>
   obtain⟨k,x,rest,hk,rfl,HX,aj⟩:=hrel;have xT:=aj.restB;have dl:=aj.gr;have aD:=zHi aj;have r0:wr.cell? ⟨w.heap.size+1+1+1,0,none⟩=some (.int .i64 rest.num):=by simp only[World.cell?,xT,zbr];rfl
   have r1:wr.cell? ⟨w.heap.size+1+1+1,1,none⟩=some (.int .i64 rest.den):=by simp only[World.cell?,xT,zbr];rfl
   have nv:=zab xT;have Ci:w.heap.size+1+1+1≠wr.heap.size:=Mcn;have eb:=nW.o.kept dl HM.o Mcp;clear aj xT;by_cases aa:k<ws.length
   ·obtain⟨b',off,rfl,cJ,hc⟩:=(Ro.sl zao eb).at aa;have bU:=will_snoc s n ws ([],false) 1 aa;have jA:=zk8 (s:=s) (frm:=n) iM.o k;rw[<-HX.o]at bU jA;have bH:ws[k]∈ws:=List.getElem_mem aa;have cS:=iM.o.pos _ bH;have xa:=iM.o.isN _ bH;have fU:=EC.o _ bH;have Gn:ws[k].2<=1:=Rat.le_trans (zgV (l:=ws) (fun q hq=>by have:=iM.o.pos q hq;grind) _ bH) iM.o.le;generalize ws[k]=pt at*;obtain⟨pn,pq⟩:=pt;have i0:wr.cell? ⟨b',off+k*3,none⟩=some (.string pn):=hc 0 _ rfl;have i1:wr.cell? ⟨b',off+k*3+1,none⟩=some (.int .i64 pq.num):=hc 1 _ rfl;have i2:wr.cell? ⟨b',off+k*3+2,none⟩=some (.int .i64 pq.den):=hc 2 _ rfl;have xP:zaI pq:=zcc (by simp only at cS;grind) Gn (zev Mcp Mcp xa);have ar:(k:Int)<(ws.length:Int):=Mcn;have aT:(0:Int)<=(k:Int):=Mcn;have cG:zdZ s pn n=ziF s pn n:=by rw[able_q,fU];rfl
    simp only[cG]at bU;have ej:=zHi bU;have lG:=zHi jA;have lO:=zHi (fun W hW=>HP.o W (zkD dl hW (n:=wr.heap.size) dl.size));clear hc bU jA bH cS xa fU Gn cG eb;have fD:=zHi (fun W (hW:Below wr.heap.size wr W)=>zk3 base b (w.heap.size+1+1) C (w.heap.size+1) s law n pn W (lO.o W hW) (aD.o.keep hW).heir);generalize ziF s pn n=ab at*;cases ab
    ·go_wp2_with (go_at_call 146;refine(fD.o _ Bw).mono ?_;rintro e wq ⟨rfl,z,rfl⟩)
     go_round
     case rel=>exact⟨k+1,x,rest,by omega,by go_num,by show _=_;simpa using ej.o.symm,aD.o.keep (k:=wr.heap.size) Bw⟩
     case measure=>simp[intOf];omega
    ·go_wp2_with (first
      |(go_at_call 146;refine(fD.o _ Bw).mono ?_;rintro e wq ⟨rfl,z,rfl⟩)
      |(go_at_call 147
        go_loud(refine(zg4 b (w.heap.size+1+1) C (w.heap.size+1) law n pn pq x.1 x.2 _ (aD.o.keep (k:=wr.heap.size) Bw).heir (aD.o.keep (k:=wr.heap.size) Bw).mark (aD.o.keep (k:=wr.heap.size) Bw).has Mcn Mcn Mcn lG.o.bd.good (lG.o.bd.share (by have:=lG.o.nn;grind) pn) xP).mono ?_)
        rintro e wq ⟨rfl,g1,g2,g3⟩;have cq:=(aD.o.keep (W':=(wr.alloc (.cells #[.string pn, .int .i64 pq.num, .int .i64 pq.den] 75)).ext z) (k:=wr.heap.size) Bw).two HN.o g3 g1 g2;have hp:wq.heap[wr.heap.size]?=some (.cells #[.string pn, .int .i64 pq.num, .int .i64 pq.den] 75):=(g3.others _ Mcw Mcn Mcn).trans (zb2 (zar _ _ _ rfl));have cN:=zHi cq;have q0:wq.cell? ⟨w.heap.size+1+1+1,0,none⟩=some (.int .i64 rest.num):=by simp only[World.cell?,cq.restB,zbr];rfl
        have q1:wq.cell? ⟨w.heap.size+1+1+1,1,none⟩=some (.int .i64 rest.den):=by simp only[World.cell?,cq.restB,zbr];rfl
        have f0:wq.frozen? ⟨w.heap.size+1+1+1,0,none⟩=false:=by simp only[World.frozen?,cq.restB,zbr];rfl
        have f1:wq.frozen? ⟨w.heap.size+1+1+1,1,none⟩=false:=by simp only[World.frozen?,cq.restB,zbr];rfl
        obtain⟨-,p1,p2⟩:=cF3 hp;have Jq:=zab cq.restB
        clear cq hp g1 g2 g3)
      |(go_at_call 148;refine(zhC rest pq _ lG.o.small xP).mono ?_;rintro e wq2 ⟨rfl,z2,rfl⟩;simp only[zaB]))
     go_round
     case rel=>exact⟨k+1,zcQ pn pq x,rest-pq,by omega,by go_num,by show _=_;simpa using ej.o.symm,(cN.o.put HN.o (rest-pq)).keep (zaq _ z2)⟩
     case measure=>simp[intOf];omega
   ·have ar: ¬(k:Int)<(ws.length:Int):=Mcn;rw[List.take_of_length_le Mcn]at HX;go_wp2_with fail
    go_meet
    rw[<-HX.o];exact aD.o
 case rest=>
  have jA:=zk8 (s:=s) (frm:=n) iM.o ws.length;rw[List.take_of_length_le (Nat.le_refl _)]at jA;generalize zdh s n ws ([],false) 1=y at*;obtain⟨x,rest⟩:=y;have lG:=zHi jA;have dl:=hcut.gr;have aD:=zHi hcut;have lO:=zHi (fun W hW=>HP.o W (zkD dl hW (n:=wc.heap.size) dl.size));clear jA hcut nW iM EC;have cU:=zHi (fun W (hW:Below wc.heap.size wc W)=>zl5 base b (w.heap.size+1+1) C (w.heap.size+1) s law n (fun c hc=>(HG.o.kids c hc).2) bR (zaW s) n W (lO.o W hW) (aD.o.keep hW).heir (zk9 HG.o.acyc n));have jh:=zHi (fun W (hW:Below wc.heap.size wc W)=>zjH base b s n W (lO.o W hW) Mcn);generalize cn:zaJ s n=sp at*
  go_upto_region 11 with(first
   |(go_at_call 149;refine(cU.o _ Bw).mono ?_;rintro e wq ⟨v,es,rfl,o1,o2,o3,o4⟩;obtain⟨VA,vc,rfl,_,ka⟩:=o1.sl zjK;have fO:=zHi o1;have df:=zHi o2;clear o1 o2)
   |(go_at_call 99;refine(jh.o _ Bw).mono ?_;rintro e wq2 ⟨rfl,z,rfl⟩))
  have cJ:b<wc.heap.size:=Nat.lt_of_lt_of_le hb dl.size;have bf:=o3.size;have fD:=zHi (fun W (hW:Below wq.heap.size wq W)=>zk3 base b (w.heap.size+1+1) C (w.heap.size+1) s law n sp W (lO.o W (o3.trans (hW.mono bf))) (aD.o.keep (o3.trans (hW.mono bf))).heir);have y8:zcm s n=if(!noB sp&&ziF s sp n)=true then sp else⟨#[]⟩:=by unfold zcm;rw[cn,able_q]
  generalize zcm s n=hs at*;generalize ziF s sp n=ab at*;go_cut [59,60,61,62,63,64,65,66]from 67 (fun _ _ _ _ _ _ _ v66 W=>v66= .bool (!noB sp&&!ab)/\ ∃z,W=wq.ext z)
  case first=>
   cases ab;all_goals(go_wp2_with (go_at_call 146;refine(fD.o _ Bw).mono ?_;rintro e wq2 ⟨rfl,z2,rfl⟩))
   all_goals go_meet
   all_goals exact⟨zaQ (by first|(simp[noB, *];done)|(rw[Bool.eq_iff_iff];simp[noB];simp[*];done)),zba Bw⟩
  case rest=>
   obtain⟨rfl,z2,rfl⟩:=hcut;go_upto_if 66 with fail
   go_cut [14,66]from 67 (fun v14 _ W=>v14= .string hs/\W=wq.ext z2)
   case first=>
    cases fU:noB sp
    ·cases ab
     ·exact Mbs
     ·exact Mbs
    ·cases ab;all_goals go_wp2_with fail
     all_goals go_meet
     all_goals rw[fU]at y8
     all_goals have bU:sp=⟨#[]⟩:=noB_nil fU
     all_goals exact⟨by rw[y8,bU];rfl,rfl⟩
   case rest=>
    obtain⟨rfl,rfl⟩:=hcut;have fG:Below wq.heap.size wq (wq.ext z2):=zaq _ _;have ay:Below wc.heap.size wc (wq.ext z2):=o3.trans (fG.mono bf);have mS:=aD.o.keep ay;have uN:=zHi (fO.o.keep (n:=wq.heap.size) fG);have nV:=zHi (df.o.keep (n:=wq.heap.size) fG);generalize wq.ext z2=W3 at*;have Cj:=uN.o.ro;obtain⟨VA2,vc2,Gw,_,nv⟩:=Cj;simp only[Value.slice.injEq]at Gw;obtain⟨rfl,_,rfl⟩:=Gw;have Bt:=zHi nv;have bA:=zHi mS;clear mS nv fG ay fO df aD fD cU jh o3 bf y8 cn;have qY:=oZ.o;have uH:=zHi nV.o.len;go_upto_block 2 with fail
    go_cut [15]from 67 (fun _ W=> ∃rest',EstSt w W b (w.heap.size+1+1) C (w.heap.size+1) w.heap.size (w.heap.size+1+1+1) law n EF rest'/\Bd EF.1 1)
    case first=>
     have r0:W3.cell? ⟨w.heap.size+1+1+1,0,none⟩=some (.int .i64 rest.num):=by simp only[World.cell?,bA.o.restB,zbr];rfl
     have r1:W3.cell? ⟨w.heap.size+1+1+1,1,none⟩=some (.int .i64 rest.den):=by simp only[World.cell?,bA.o.restB,zbr];rfl
     have l2:W3.cell? ⟨w.heap.size,2,none⟩=some (.int .i64 law.num):=by simp only[World.cell?,bA.o.lawB,zlQ];rfl
     have l3:W3.cell? ⟨w.heap.size,3,none⟩=some (.int .i64 law.den):=by simp only[World.cell?,bA.o.lawB,zlQ];rfl
     have nv:=zab bA.o.restB;have tw:=zab bA.o.lawB;have i8:=lG.o.nn;have bN:=lG.o.le;have dw:=lG.o.small;have da:=zHi lG.o.bd;have qm:=zHi qY;have vG:=zjL (s:=s) (stems:=law.stems) (frm:=n) bR (zaW s) n;generalize zb5 s law.stems n (zaW s) n=tr at*;have qO:=zHi vG;clear qY vG oZ;by_cases he:es.length=0
     ·have JX:(((es.length:Nat):Int)==0)=true:=by rw[he];rfl
      have KZ:tr=[]:=List.eq_nil_of_length_eq_zero (by have:=uH.o;omega);clear he;go_wp2_with (go_at_call 147;refine(zg4 b (w.heap.size+1+1) C (w.heap.size+1) law n hs rest x.1 x.2 _ bA.o.heir bA.o.mark bA.o.has Mcn Mcn Mcn da.o.good (da.o.share McP hs) dw).mono ?_;rintro e w6 ⟨rfl,g1,g2,g3⟩)
      go_meet
      have h1:=qm.o;rw[KZ]at h1;rw[h1];exact⟨rest,bA.o.two HN.o g3 g1 g2,(zfE (fl:=x.2) da.o i8).up6 McP⟩
     ·have JX:(((es.length:Nat):Int)==0)=false:=by simpa using he
      have ai:tr≠[]:=fun e=>he (by have:=uH.o;rw[e]at this;exact this)
      have iZ:tr.isEmpty=false:=by cases tr with|nil=>exact absurd rfl ai|cons _ _=>rfl
      have iK:=zHi ai;clear ai he;cases fU:noB hs
      ·have sw:hs.toList.isEmpty=false:=fU;have Dt:(!hs.toList.isEmpty)=true:=by rw[sw];rfl
       have gz:=qm.o;rw[iZ,fU]at gz;simp only[Bool.false_eq_true,if_false]at gz;have qo:=zHi gz;obtain⟨ow1,ow2,ow3⟩:=own_any dw dm;obtain⟨oo1,oo2,oo3,oo4⟩:=own_ok lG.o.isN i8 bN dm;generalize Rat.divInt law.num law.den=la at*;generalize ae:rest*la=own at*;have dJ:=zHi ow3;clear gz ow3 ae iZ fU
       go_wp2_with (first
        |(go_at_call 150;refine(dJ.o _).mono ?_;rintro e w5 ⟨rfl,z5,rfl⟩;simp only[zaB])
        |(go_at_call 147
          refine(zg4 b (w.heap.size+1+1) C (w.heap.size+1) law n hs own x.1 x.2 _ (bA.o.keep (k:=W3.heap.size) Bw).heir (bA.o.keep (k:=W3.heap.size) Bw).mark (bA.o.keep (k:=W3.heap.size) Bw).has Mcn Mcn Mcn da.o.good (da.o.share McP hs) oo3).mono ?_;rintro e w6 ⟨rfl,g1,g2,g3⟩;have iF:=(bA.o.keep (W':=(W3.ext z5).alloc (.cells #[.int .i64 own.num, .int .i64 own.den] 71)) (k:=W3.heap.size) Bw).two HN.o g3 g1 g2;have nX:=zHi iF;have hO:w6.heap[(W3.ext z5).heap.size]?=some (zbr own):=(g3.others _ Mcq Mcw Mcw).trans (zar _ _ _ rfl);have q0:w6.cell? ⟨w.heap.size+1+1+1,0,none⟩=some (.int .i64 rest.num):=by simp only[World.cell?,iF.restB,zbr];rfl
          have q1:w6.cell? ⟨w.heap.size+1+1+1,1,none⟩=some (.int .i64 rest.den):=by simp only[World.cell?,iF.restB,zbr];rfl
          have f0:w6.frozen? ⟨w.heap.size+1+1+1,0,none⟩=false:=by simp only[World.frozen?,iF.restB,zbr];rfl
          have f1:w6.frozen? ⟨w.heap.size+1+1+1,1,none⟩=false:=by simp only[World.frozen?,iF.restB,zbr];rfl
          have o0:w6.cell? ⟨W3.heap.size+z5.os.size,0,none⟩=some (.int .i64 own.num):=by simp only[<-zae,World.cell?,hO,zbr];rfl
          have o1:w6.cell? ⟨W3.heap.size+z5.os.size,1,none⟩=some (.int .i64 own.den):=by simp only[<-zae,World.cell?,hO,zbr];rfl
          have Jq:=zab iF.restB;go_loud(have F9:=(LK.below (a:=W3) (n:=W3.heap.size) (b:=(W3.ext z5).alloc (.cells #[.int .i64 own.num, .int .i64 own.den] 71)) Bw).trans (zkC g3 (bA.o.keep (k:=W3.heap.size) Bw).mark (bA.o.keep (k:=W3.heap.size) Bw).has))
          go_loud(have ie:=zHi (((F9.trans (LK.put (q:=rest-own) iF.restB)))))
          clear iF hO g1 g2 g3 F9)
        |(go_at_call 148;refine(zhC rest own _ dw oo3).mono ?_;rintro e w7 ⟨rfl,z7,rfl⟩;simp only[zaB])
        |(go_at_call 151
          refine(zhj b (w.heap.size+1+1) C (w.heap.size+1) law n Mcn Mcn Mcn (zaW s) es tr _ VA es.length vc (rest-own) (1-rest+own) (zcQ hs own x).1 (zcQ hs own x).2 _ ((ie.o.trans (LK.below (zaq _ z7))).items nV.o) qO.o ((ie.o.trans (LK.below (zaq _ z7))).ro Bt.o) iK.o uH.o ((nX.o.put HN.o (rest-own)).keep (zaq _ z7)).heir ((nX.o.put HN.o (rest-own)).keep (zaq _ z7)).mark ((nX.o.put HN.o (rest-own)).keep (zaq _ z7)).has McP McP oo4 (zfE (fl:=x.2) da.o oo1) McP).mono ?_;rintro e w8 ⟨rfl,g1,g2,g3⟩;have mT:=((nX.o.put HN.o (rest-own)).keep (zaq _ z7)).two HN.o g3 g1 g2;have qI:=zHi mT
          clear mT g1 g2 g3))
       go_meet
       rw[qo.o];exact⟨rest-own,qI.o,(zgD (fl:=(zcQ hs own x).2) (show 0<=rest-own by grind) (zfE (n:=hs) (fl:=x.2) da.o oo1)).up6 McP⟩
      ·have sw:hs.toList.isEmpty=true:=fU;have Dt:(!hs.toList.isEmpty)=false:=by rw[sw];rfl
       have gz:=qm.o;rw[iZ,fU]at gz;simp only[Bool.false_eq_true,if_false,if_true]at gz;have qo:=zHi gz;clear gz iZ fU
       go_wp2_with (go_at_call 151
                    refine(zhj b (w.heap.size+1+1) C (w.heap.size+1) law n Mcn Mcn Mcn (zaW s) es tr _ VA es.length vc rest (1-rest) x.1 x.2 _ nV.o qO.o Bt.o iK.o uH.o bA.o.heir bA.o.mark bA.o.has i8 bN dw da.o McP).mono ?_;rintro e w8 ⟨rfl,g1,g2,g3⟩;have mT:=bA.o.two HN.o g3 g1 g2;have qI:=zHi mT
                    clear mT g1 g2 g3)
       go_meet
       rw[qo.o];exact⟨rest,qI.o,(zgD (fl:=x.2) i8 da.o).up6 McP⟩
    case rest=>
     obtain⟨rest',aj,dg⟩:=hcut;have da:=zHi dg;have zB:=aj.heir;have zD:=aj.mark;have C2:=aj.gr;have Fp:=aj.has;have hh8:=zab zB;clear aj dg qY oZ uH Bt uN nV lO lG bA;obtain⟨W8,rfl⟩: ∃x,x=wc:=⟨_,rfl⟩
     have Ag:=Fp.lt;obtain⟨mm,dq,cQ,iy⟩:=Fp;unfold HeirAt at zB;obtain⟨-,-,-,-,-,-,-,e7⟩:=cF8 zB;obtain⟨Dz,vS⟩:=zjz (P:=Tryz.prog) dq (t:=193) Tryz.underlying193;generalize dq.choose_spec.choose=cc at*;generalize dq.choose=ce at*;have IZ: ∀j cur,W8.heap[j]?=some (.cells cur 75 (0,0))->j≠C:=fun j cur hj e=>by
      subst e;unfold MarkAt at zD;rw[zD]at hj;simp at hj
     have Ic:=zHi zD;have Hw:=zHi C2;have qu:=zHi iy;have kL:=zHi cQ;have hs8:=C2.size;have Br:=zHi vS;clear zD C2 iy cQ vS IZ dq zB;go_upto_block 6 with fail
     generalize hI:W8.heap.size=I at*;generalize Ah:w.heap.size+1=mb at*;have Ba:=zHi Ah;have I3:=zHi hI;clear Dz;go_wp2_with fail
     go_loopg [16] (mm.length+1) (fun gg v wr=> ∃done left,Hid ((done++left).Perm mm)/\RangeAt wr mb I ekS (fun v:Value=>v) mm left/\OwnS wr w.heap.size 75 3 zaa v (colP EF.1 done)/\MarkAt wr C EF.2/\w.grownBy wr (some C)/\left.length<gg/\I<wr.heap.size)
     case atStart=>
      refine⟨[],mm,List.Perm.refl _,Br.o,OwnS.nil,?_,?_,by omega,by simp;omega⟩
      ·exact Ic.o.alloc _
      ·exact zcr Hw.o _
     case round=>
      obtain⟨done,left,HP,sA,ae,hm,hg,ba,hIl⟩:=hrel;obtain⟨cl,bm⟩: ∃cl,cl=colP EF.1 done:=⟨_,rfl⟩
      rw[<-bm]at ae;have cd:=zHi bm;clear bm;obtain⟨VC,vcc,rfl,_,L5⟩:=ae.sl zao;have BX: ∀j,zaA (.slice VC cl.length vcc)=some j->w.heap.size<=j/\j<wr.heap.size:=fun j hj=>ae.ge j hj
      rcases zla (P:=Tryz.prog) sA 0 with⟨h0,hrun⟩|⟨i,p,w',hi,hrun,hra',hgr',hsz,hent⟩
      ·have C7:=HP.o;rw[h0,List.append_nil]at C7;have pA:cl.Perm EF.1:=by
        rw[cd.o];exact(C7.filterMap (zl7 EF.1)).trans (znX da.o.good kL.o qu.o)
       have eJ:cl.length<=1000000000:=by rw[pA.length_eq];exact da.o.len Rat.le_refl
       have eE:=zHi eJ;have Hi:=zHi pA;have HO:=zHi ae;have HM:=zHi hm;have ei:=zHi hg;have sP:=zHi BX;clear C7 pA ae hm hg BX sA h0 eJ;go_wp2_with (go_at_call 152;refine(sortP_any (.slice VC cl.length vcc) cl w.heap.size _ HO.o eE.o).mono ?_;rintro e wq ⟨rfl,L,s1,s2,s3,s4,s5⟩)
       go_ret
       have hL:L=EF.1:=zl8 da.o.good (s1.trans Hi.o) s2;rw[hL]at s3;exact⟨_,rfl,s3,zkE HM.o s5 (fun j hj=>by have:=sP.o j hj;omega),row_gr ei.o s5 (fun j hj=>(sP.o j hj).1)⟩
      ·obtain⟨pn,pv⟩:=p;have gJ:(pn,pv)∈mm:=HP.o.mem_iff.1 (List.mem_append_right _ (List.mem_of_getElem? hi));have KQ:pv=zaB (zag EF.1 pn):=by
        have h1:=zhI kL.o gJ;rcases qu.o pn with⟨h2,_⟩|h2
        ·rw[h2]at h1;cases h1
        ·rw[h2]at h1;simpa using h1.symm
       subst KQ;have zS:zl7 EF.1 (pn,zaB (zag EF.1 pn))=if 0<zag EF.1 pn then some (pn,zag EF.1 pn)else none:=rfl;have fR:=done_perm HP.o hi;have bl:=colP_snoc EF.1 done (pn,zaB (zag EF.1 pn));rw[<-cd.o,zS]at bl;have ki:=zHi fR;have eh:=zHi bl;have cW:cl.length<=1000000000:=by
        have h1:(colP EF.1 (done++left)).Perm EF.1:=(HP.o.filterMap (zl7 EF.1)).trans (znX da.o.good kL.o qu.o);have h2:=h1.length_eq;unfold colP at h2;rw[List.filterMap_append,List.length_append]at h2;have h3:=da.o.len Rat.le_refl;have h4:=cd.o;unfold colP at h4;rw[<-h4]at h2;omega
       have hel:(left.eraseIdx i).length+1=left.length:=by
        have:=(List.getElem?_eq_some_iff.1 hi).1;rw[List.length_eraseIdx_of_lt this];omega
       clear fR bl zS gJ hi;generalize zag EF.1 pn=q at*;have Gs:(Instr.next (.pointer (some ⟨I,0,none⟩)) false 0).run Tryz.prog wr= .ok (.tuple #[.bool true, .string pn, .agg #[.int .i64 q.num, .int .i64 q.den]]) w':=hrun;have FL:(Instr.entry (.pointer (some ⟨I,0,none⟩))).run Tryz.prog w'= .ok (.tuple #[.string pn, .agg #[.int .i64 q.num, .int .i64 q.den]]) w':=hent;have xE: ∀j,some I=some j->w.heap.size<=j:=fun j hj=>by have:=I3.o;simp at hj;omega
       have fj:=ae.grown hgr' (by
        cases hb:zaA (.slice VC cl.length vcc)with
        |none=>exact .inl rfl
        |some j=>
         right
         intro e;obtain⟨cur,rT⟩:=zlP ae hb
         exact(ziM sA rT).2 MdM)
       have Gb:=zkE hm hgr' (fun j hj=>by have:=xE j hj;omega);have eu:=row_gr hg hgr' xE;have wu: ∀j,zaA (.slice VC cl.length vcc)=some j->w.heap.size<=j/\j≠mb/\j≠I:=fun j hj=>by
        obtain⟨cur,rT⟩:=zlP fj hj;exact⟨(fj.ge j hj).1,ziM hra' rT⟩
       have oX:=zHi wu;have qJ:=zHi hsz;have uT:=zHi hra';have HO:=zHi fj;have HM:=zHi Gb;have ei:=zHi eu;have J9:I<w'.heap.size:=Mcn;have jL:w.heap.size<=w'.heap.size:=eu.size;clear sA hra' ae fj hm Gb hg eu hrun hent hgr' BX hsz wu;by_cases hq:0<q.num
       ·have jv:=eh.o;rw[if_pos (zoa.2 hq)]at jv;have qi:=zHi jv;clear jv;go_wp2_with (at_builtin;go_loud(refine za1 (v:= .slice VC cl.length vcc) (n:=cl.length) (m:=1) rfl _ _ rfl zdU zao zce rfl (HO.o.keep (n:=w'.heap.size) Bw) rfl rfl rfl (sl_part (p:=(pn,q)) (zar _ _ _ Mcq)) McL Mcn Mcr ?_);intro v3 w3 h1 h2 h3)
        have R1:=(uT.o.below (n:=w'.heap.size) (W_two w' _ _)).grown h2 (fun e=>(oX.o mb e.symm).2.1 rfl) (fun e=>(oX.o I e.symm).2.2 rfl);have M1:=zkE ((HM.o.alloc _).alloc _) h2 (fun j hj=>by have:=oX.o j hj;omega);have G1:=row_gr (zcr (zcr ei.o _) _) h2 (fun j hj=>(oX.o j hj).1);have S1:=h2.size;simp only[World.size_alloc]at S1;go_roundg (gk-1)
        case measure=>omega
        case rel=>exact⟨done++[(pn,zaB q)],left.eraseIdx i,ki.o,R1,by rw[qi.o];exact h1,M1,G1,by omega,by omega⟩
       ·have jv:=eh.o;rw[if_neg (fun h=>hq (zoa.1 h))]at jv;have qi:=zHi jv;clear jv;go_wp2_with fail
        go_roundg (gk-1)
        case measure=>omega
        case rel=>exact⟨done++[(pn,zaB q)],left.eraseIdx i,ki.o,uT.o.below (n:=w'.heap.size) Bw,by rw[qi.o];simpa using HO.o.keep (n:=w'.heap.size) Bw,HM.o.alloc _,zcr ei.o _,by omega,by simp;omega⟩
end Go.Proofs.YtjhbofabmpfniaaGreatDoor

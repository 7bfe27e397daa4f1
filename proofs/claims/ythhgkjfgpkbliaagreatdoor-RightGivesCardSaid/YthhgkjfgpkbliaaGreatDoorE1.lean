import Derived.Test.YthhgkjfgpkbliaaGreatDoorJV
import Derived.Test.YthhgkjfgpkbliaaGreatDoorO8
set_option linter.all false
set_option maxRecDepth 100000
set_option maxHeartbeats 4000000
namespace Go.Proofs.YthhgkjfgpkbliaaGreatDoor
open Go.RowKit Go.Shelf
attribute [local go_sem] World.cell?_alloc_mark zae zav zai zaw zam zan zao zap zaq zar zas
attribute [local go_sem] zah zac
theorem look_will{base:Nat}{W:World}{B:List Nat}{d c p wl r:Nat}{mv:Value}{s:St}(h:PplAt base W B d c p wl r mv s)(n:ByteArray):
 ∃A cc,(∀W',Below W.heap.size W W'->(Instr.lookup 105 (.map (some wl)) (.string n) false).run Tryz.prog W'=.ok (.slice A (zbp s n).length cc) W')/\Ro W 59 zaa A (zbp s n):=by
 obtain⟨m,k1,k2⟩:=h.wills;have hl:=fun W' (hB:Below W.heap.size W W')=>zbh mapSP (k1.below hB).at n
 rcases k2 n with⟨h1,h2⟩|⟨A,cc,h1,h2⟩
 ·rw[h1]at hl;refine⟨none,0,fun W' hB=>?_,by rw[h2];exact Ro.nil⟩;rw[h2];exact hl W' hB
 ·rw[h1]at hl;exact⟨A,cc,hl,h2⟩
theorem noB_nil{s:ByteArray}(h:noB s=true):s=⟨#[]⟩:=by
 unfold noB at h;have h1:s.toList=(⟨#[]⟩:ByteArray).toList:=by rw[List.isEmpty_iff.1 h,ByteArray.toList_eq]
 have h2:zag s ⟨#[]⟩=true:=by unfold zag;rw[h1];simp
 exact zak.1 h2
theorem two_gr{w W W':World}{C m:Nat}(h:w.grownBy W (some C))(hm:w.heap.size<=m)(t:Two2 W W' C m):w.grownBy W' (some C):=
 have b:=t.below 0 (Nat.zero_le _) (Nat.zero_le _) (Nat.zero_le _);⟨b.os.trans h.os,b.tape.trans h.tape,b.output.trans h.output,Nat.le_trans h.size t.size,fun k hk ag=>(t.others k (Nat.lt_of_lt_of_le hk h.size) (fun e=>ag (by rw[e])) MbC).trans (h.block k hk ag)⟩
theorem ziR{w W W':World}{n:Nat}{row:Option Nat}(h:w.grownBy W row)(hb:Below n W W')(hn:w.heap.size<=n):w.grownBy W' row:=
 ⟨hb.os.trans h.os,hb.tape.trans h.tape,hb.output.trans h.output,Nat.le_trans h.size hb.size,fun k hk ag=>(hb.block k MbC).trans (h.block k hk ag)⟩
structure EstN (w:World) (h C m L R:Nat):Prop where
 gc:C<w.heap.size
 gh:w.heap.size<=h
 gm:w.heap.size<=m
 gl:w.heap.size<=L
 gr:w.heap.size<=R
 hm:h≠m
 hl:h≠L
 hr:h≠R
 ml:m≠L
 mr:m≠R
 lr:L≠R
theorem own_any{rest:Rat}{law:Law}(hs:zaD rest)(cI:za2 16 law.num law.den=true):
 IntKind.i64.wrap (rest.num*law.num)=rest.num*law.num/\IntKind.i64.wrap ((rest.den:Int)*law.den)=(rest.den:Int)*law.den/\
 ∀W:World,Calls Tryz.prog 178 #[.int .i64 (rest.num*law.num),.int .i64 ((rest.den:Int)*law.den)] W (Ret W (za9 (rest*Rat.divInt law.num law.den))):=by
 obtain⟨h1,h2,_,_⟩:=zbo cI;have hd:=cI;unfold za2 at hd;simp only[Bool.and_eq_true,decide_eq_true_eq]at hd;have rv:(rest.den:Int)<=1000000000:=by have:=hs.2;omega
 have nN:0<(rest.den:Int):=by have:=rest.den_pos;omega
 obtain⟨m1,n1⟩:=zaP hs.1 (show law.num.natAbs<=1000000000 by omega);obtain⟨m2,n2⟩:=zaP (show(rest.den:Int).natAbs<=1000000000 by omega) (show law.den.natAbs<=1000000000 by omega);have m4:0<(rest.den:Int)*law.den:=Int.mul_pos nN MbC;refine⟨IntWalk.i64_in _ MbC,IntWalk.i64_in _ MbC,fun W=>?_⟩;have e:rest*Rat.divInt law.num law.den=Rat.divInt (rest.num*law.num) ((rest.den:Int)*law.den):=by
  rw[zf9,h1,h2]
 rw[e];exact zdc _ _ W MbC m4 MbC
theorem own_ok{rest:Rat}{law:Law}(hN:IsN 720720 rest)(h0:0<=rest)(h1:rest<=1)(cI:za2 16 law.num law.den=true):
 0<=rest*Rat.divInt law.num law.den/\rest*Rat.divInt law.num law.den<=rest/\zaD (rest*Rat.divInt law.num law.den)/\zaD (rest-rest*Rat.divInt law.num law.den):=by
 obtain⟨⟨ld,ld0,ld1,l1⟩,l2,l3⟩:=isN_law cI;generalize Rat.divInt law.num law.den=la at*;have eX:0<=rest*la:=Rat.mul_nonneg h0 l2;have gQ:rest*la<=rest:=by
  have:=Rat.mul_nonneg h0 (show 0<=1-la by grind);grind
 have hn:=zkx hN l1;refine⟨eX,gQ,zcl eX MbV (zdA MbC MbC hn),zcl MbV MbV (zdA (n:=720720*ld) MbC MbC (zkw (isN_up hN) hn))⟩
theorem zf3{l:List Tree}{q t:Rat}{out:Parts}{fl:Bool}(h0:0<=q)(h:Bd out t):Bd (zce l q (out,fl)).1 (t+q):=by
 rw[zce];have h1:=zg4 (zcc (zdK h0 l.length)) (l:=l) (fl:=fl||bigQ (q*(1/(l.length:Rat)))) h;exact h1.up6 (by have:=ziI h0 l.length;grind)
theorem zg8{W:World}{P o k:Nat}{v:Value}(h:k≠P):(W.setCell ⟨P,o,none⟩ v).heap[k]?=W.heap[k]?:=by
 have hb:¬P=k:=fun e=>h e.symm
 simp[World.setCell,Array.getElem?_modify,hb]
theorem row_gr{w W W':World}{C:Nat}{row:Option Nat}(h:w.grownBy W (some C))(k:W.grownBy W' row)(hr:∀j,row=some j->w.heap.size<=j):w.grownBy W' (some C):=
 ⟨k.os.trans h.os,k.tape.trans h.tape,k.output.trans h.output,Nat.le_trans h.size k.size,fun i hi ag=>(k.block i (Nat.lt_of_lt_of_le hi h.size) (fun e=>by have:=hr i e.symm;omega)).trans (h.block i hi ag)⟩
theorem ziS{W W':World}{C:Nat}{f:Bool}{row:Option Nat}(h:MarkAt W C f)(k:W.grownBy W' row)(hr:∀j,row=some j->j≠C):MarkAt W' C f:=(k.block C (zad h) (fun e=>hr C e.symm rfl)).trans h
theorem zjM{α:Type}{W:World}{base:Nat}{e:TypeId}{size:Nat}{f:α->List Value}{v:Value}{xs:List α}(h:OwnS W base e size f v xs){j:Nat}(hj:za1 v=some j):∃cur,W.heap[j]?=some (.cells cur e (0,0)):=by
 rcases h with⟨rfl,_⟩|⟨g,o,c,cur,rfl,_,hg,_⟩
 ·cases hj
 ·simp only[za1,Option.some.injEq]at hj;subst hj;exact⟨cur,hg⟩
theorem zh1{W:World}{b r:Nat}{K V:Type}{ek:K->Value}{ev:V->Value}{m left:List (K×V)}(h:RangeAt W b r ek ev m left){j:Nat}{cur:Array Value}{t:TypeId}{fr:Nat×Nat}(hj:W.heap[j]?=some (.cells cur t fr)):j≠b/\j≠r:=by
 obtain⟨es,clock,since,seen,c0,h1,_,_,_,h5,_⟩:=h;refine⟨fun e=>?_,fun e=>?_⟩
 ·subst e;rw[h1]at hj;simp at hj
 ·subst e;rw[h5]at hj;simp at hj
theorem zlL{q:Rat}:0<q↔0<q.num:=by rw[Rat.lt_iff];simp
theorem W_two(w:World)(o1 o2:Obj):Below w.heap.size w ((w.alloc o1).alloc o2):=zau (zau (Below.refl _ _) _) _
def LK(W W':World):Prop:= ∀(k:Nat) (cur:Array Value) (fr:Nat×Nat),W.heap[k]?=some (.cells cur 260 fr)->W'.heap[k]?=W.heap[k]?
theorem LK.trans{a b c:World}(h:LK a b)(k:LK b c):LK a c:=fun i cur fr hi=>(k i cur fr ((h i cur fr hi).trans hi)).trans (h i cur fr hi)
theorem LK.below{n:Nat}{a b:World}(h:Below n a b)(hn:a.heap.size<=n:=by first|exact Nat.le_refl _|omega):LK a b:=fun i cur fr hi=>h.block i (Nat.lt_of_lt_of_le (Array.getElem?_eq_some_iff.1 hi).1 hn)
theorem LK.put{W:World}{R:Nat}{q0 q:Rat}(h:W.heap[R]?=some (zba q0)):LK W ((W.setCell ⟨R,0,none⟩ (.int .i64 q.num)).setCell ⟨R,1,none⟩ (.int .i64 q.den)):=fun i cur fr hi=>by
 have ag:i≠R:=by
  intro e;subst e;rw[h]at hi;simp[zba]at hi
 rw[zg8 ag,zg8 ag]
theorem LK.items{W W':World}{Q:Nat->Prop}{f:Nat}{es:List Ln}{l:List Tree}(h:LK W W')(k:ItemsN W Q f es l):ItemsN W' Q f es l:=k.same h
theorem LK.ro{W W':World}{A:Option Addr}{es:List Ln}(h:LK W W')(k:Ro W 260 lnC A es):Ro W' 260 lnC A es:=k.same (fun b cur fr hx _=>h b cur fr hx)
def zjN(law:Law):Obj:=.cells #[.int .i64 law.frm,.bool law.stems,.int .i64 law.num,.int .i64 law.den] 96
structure EstSt (w W:World) (b h C m L R:Nat) (law:Law) (n:ByteArray) (x:Parts×Bool) (rest:Rat):Prop where
 heir:HeirAt W h b law n C m
 lawB:W.heap[L]?=some (zjN law)
 restB:W.heap[R]?=some (zba rest)
 has:HasAt W m x.1
 mark:MarkAt W C x.2
 gr:w.grownBy W (some C)
section
variable {w W W':World} {b h C m L R:Nat} {law:Law} {n:ByteArray} {x y:Parts×Bool} {rest q:Rat}
theorem EstSt.keep{k:Nat}(e:EstSt w W b h C m L R law n x rest)(hB:Below k W W')(hk:W.heap.size<=k:=by first|exact Nat.le_refl _|omega):EstSt w W' b h C m L R law n x rest:=
 ⟨e.heir.keep hB hk,(hB.block L (Nat.lt_of_lt_of_le (zad e.lawB) hk)).trans e.lawB,(hB.block R (Nat.lt_of_lt_of_le (zad e.restB) hk)).trans e.restB,e.has.keep hB hk,e.mark.keep hB (Nat.lt_of_lt_of_le (zad e.mark) hk),ziR e.gr hB (Nat.le_trans e.gr.size hk)⟩
theorem EstSt.two(hn:EstN w h C m L R)(e:EstSt w W b h C m L R law n x rest)(t:Two2 W W' C m)(h1:HasAt W' m y.1)(h2:MarkAt W' C y.2):EstSt w W' b h C m L R law n y rest:=by
 have c1:=hn.gc;have c2:=hn.gh;have c3:=hn.gm;have c4:=hn.gl;have c5:=hn.gr
 have d1:=hn.hm;have d2:=hn.ml;have d3:=hn.mr
 exact⟨(t.others h (zad e.heir) MbC d1).trans e.heir,(t.others L (zad e.lawB) MbC (fun z=>d2 z.symm)).trans e.lawB,(t.others R (zad e.restB) MbC (fun z=>d3 z.symm)).trans e.restB,h1,h2,two_gr e.gr c3 t⟩
theorem EstSt.put(hn:EstN w h C m L R)(e:EstSt w W b h C m L R law n x rest)(q:Rat):EstSt w ((W.setCell ⟨R,0,none⟩ (.int .i64 q.num)).setCell ⟨R,1,none⟩ (.int .i64 q.den)) b h C m L R law n x q:=by
 have c1:=hn.gc;have c5:=hn.gr
 have d1:=hn.hr;have d2:=hn.lr;have d3:=hn.mr
 have hs:∀k,k≠R->((W.setCell ⟨R,0,none⟩ (.int .i64 q.num)).setCell ⟨R,1,none⟩ (.int .i64 q.den)).heap[k]?=W.heap[k]?:=fun k hk=>(zg8 hk).trans (zg8 hk)
 refine⟨(hs h d1).trans e.heir,(hs L d2).trans e.lawB,zga e.restB,e.has.block (hs m d3),(hs C MbC).trans e.mark,?_⟩;exact⟨e.gr.os,e.gr.tape,e.gr.output,by simpa using e.gr.size,fun k hk ag=>(hs k MbC).trans (e.gr.block k hk ag)⟩
end
theorem zm9(base b C:Nat)(s:St)(last:Int)(law:Law)(n:ByteArray)(w:World)(m8:∀W,w.grownBy W (some C)->PeoAt base W b s)(hG:GoodSt s last)(hM:MarkAt w C false)(bR:s.children.length<=1000)(fE:s.marriages.length<=1000)(cP:(zbp s n).length<=1000)(cI:za2 16 law.num law.den=true):
 Calls Tryz.prog 150 #[.pointer (some ⟨b,0,none⟩),law.v,.string n,.pointer (some ⟨C,0,none⟩)] w fun e w'=>∃v,e=.returned v/\OwnS w' w.heap.size 59 3 zaa v (zbL s law n).1/\MarkAt w' C (zbL s law n).2/\w.grownBy w' (some C):=by
 have Bz:=m8 w (zcW _ _);have nH:∀(W:World),w.grownBy W (some C)->PeoAt base W b s:=m8;obtain⟨B,d,c,p,wl,r,mv,tv,la,co,eZ,tw⟩:=Bz;have hb:=zad eZ;unfold WldC at eZ;obtain⟨-,-,-,-,c4⟩:=cF5 eZ;obtain⟨WA,wcap,cn,xU⟩:=look_will tw n;have rI:=hG.wills n;have jd:∀q∈zbp s n,noB q.1=false:=by
  intro q hq;unfold zbp at hq;cases hf:s.wills.reverse.find? (fun x=>zag x.1 n)with
  |none=>rw[hf]at hq;simp at hq
  |some x=>
   rw[hf]at hq;exact hG.willNames x (by simpa using List.mem_of_find?_eq_some hf) q (by simpa using hq)
 have pm:=zad hM;obtain⟨HM,jq,HP,gJ,xt,HG⟩:=yH6 hM xU nH rI jd hG
 have ko:zbL s law n=(let y:=zc8 s n (zbp s n) ([],false) 1
  let sp:=zbR s n
  let lines:=zbF s law.stems n (zaX s) n
  if lines.isEmpty then zcx sp y.2 y.1 else
  if noB sp then zce lines y.2 y.1 else
  zce lines (y.2-y.2*Rat.divInt law.num law.den) (zcx sp (y.2*Rat.divInt law.num law.den) y.1)):=rfl
 have nk:=zHi ko;have bK:∀W',Below w.heap.size w W'->(Instr.lookup 105 (.map (some wl)) (.string n) false).run Tryz.prog W'=.ok (.slice WA (zbp s n).length wcap) W':=cn;generalize zbL s law n=EF at*;generalize jU:zbp s n=ws at*;have HWS:=zHi jU;clear jU ko eZ tw cn xU rI jd hG hM nH m8;unfold Law.v;go_enter Tryz.func150,Tryz.ntmps150
 have cq:= @run_makeMap Tryz.prog;have qD:=bK ((((w.alloc (zjN law)).alloc (.map #[] 0)).alloc (.cells #[.pointer (some ⟨b,0,none⟩),.int .i64 law.frm,.bool law.stems,.int .i64 law.num,.int .i64 law.den,.string n,.pointer (some ⟨C,0,none⟩),.map (some (w.heap.size+1))] 233)).alloc (.cells #[.int .i64 1,.int .i64 1] 54)) Bw;unfold zjN at qD;go_upto_block 0 with fail
 have hN:EstN w (w.heap.size+1+1) C (w.heap.size+1) w.heap.size (w.heap.size+1+1+1):=⟨pm,by omega,by omega,by omega,by omega,by omega,by omega,by omega,by omega,by omega,by omega⟩
 have HN:=zHi hN;have hC0:C≠w.heap.size:=MbC;clear hN bK qD cq;go_cut [12,34]from 35 (fun _ _ wc=>EstSt w wc b (w.heap.size+1+1) C (w.heap.size+1) w.heap.size (w.heap.size+1+1+1) law n (zc8 s n ws ([],false) 1).1 (zc8 s n ws ([],false) 1).2)
 case first=>
  go_wp2_with fail
  go_loopw [34] (fun i wr=>∃(k:Nat) (x:Parts×Bool) (rest:Rat),k<=ws.length/\i=.int .i64 k/\Hid ((x,rest)=zc8 s n (ws.take k) ([],false) 1)/\EstSt w wr b (w.heap.size+1+1) C (w.heap.size+1) w.heap.size (w.heap.size+1+1+1) law n x rest) (fun i _=>ws.length-(intOf i).toNat)
  case atStart=>
   refine⟨0,([],false),1,Nat.zero_le _,rfl,rfl,?_,?_,?_,?_,?_,?_⟩
   ·exact zal (za3 _ _ _ MbF)
   ·exact zal (zal (zal (za3 _ _ _ rfl)))
   ·exact za3 _ _ _ MbF
   ·refine⟨[],?_,by simp,fun nm=> .inl ⟨rfl,rfl⟩⟩;have h0:MapS ((w.alloc (.cells #[.int .i64 law.frm,.bool law.stems,.int .i64 law.num,.int .i64 law.den] 96)).alloc (.map #[] 0)) (w.alloc (.cells #[.int .i64 law.frm,.bool law.stems,.int .i64 law.num,.int .i64 law.den] 96)).heap.size ekS (fun v:Value=>v) ([]:List (ByteArray×Value)):=MapS.new _;rw[World.size_alloc]at h0;exact h0.below (n:=w.heap.size+1+1) (zau (zau (Below.refl _ _) _ MbF) _ MbF) MbF
   ·exact((((HM.o.alloc _).alloc _).alloc _).alloc _)
   ·exact zbW (zbW (zbW (zbW (zcW _ _) _) _) _) _
  case round=>
   obtain⟨k,x,rest,hk,rfl,HX,am⟩:=hrel;have rh:=am.restB;have dH:=am.gr;have bO:=zHi am;have r0:wr.cell? ⟨w.heap.size+1+1+1,0,none⟩=some (.int .i64 rest.num):=by simp only[World.cell?,rh,zba];rfl
   have r1:wr.cell? ⟨w.heap.size+1+1+1,1,none⟩=some (.int .i64 rest.den):=by simp only[World.cell?,rh,zba];rfl
   have iU:=zad rh;have uP:w.heap.size+1+1+1≠wr.heap.size:=MbC;have gB:=jq.o.kept dH HM.o MbD;clear am rh;by_cases aa:k<ws.length
   ·obtain⟨b',off,rfl,bE,hc⟩:=(Ro.sl za0 gB).at aa;have bA:=will_snoc s n ws ([],false) 1 aa;have fB:=ziN (s:=s) (frm:=n) gJ.o k;rw[<-HX.o]at bA fB;have b8:ws[k]∈ws:=List.getElem_mem aa;have bz:=gJ.o.pos _ b8;have qx:=gJ.o.isN _ b8;have dp:=xt.o _ b8;have yZ:ws[k].2<=1:=Rat.le_trans (zex (l:=ws) (fun q hq=>by have:=gJ.o.pos q hq;grind) _ b8) gJ.o.le;generalize ws[k]=pt at*;obtain⟨pn,pq⟩:=pt;have i0:wr.cell? ⟨b',off+k*3,none⟩=some (.string pn):=hc 0 _ rfl;have i1:wr.cell? ⟨b',off+k*3+1,none⟩=some (.int .i64 pq.num):=hc 1 _ rfl;have i2:wr.cell? ⟨b',off+k*3+2,none⟩=some (.int .i64 pq.den):=hc 2 _ rfl;have yV:zaD pq:=zcl (by simp only at bz;grind) yZ (zdA MbD MbD qx);have ao:(k:Int)<(ws.length:Int):=MbC;have bf:(0:Int)<=(k:Int):=MbC;have dj:zgl s pn n=zhu s pn n:=by rw[able_q,dp];rfl
    simp only[dj]at bA;obtain⟨ef,gX,nt⟩:=yH3 bA fB (fun W hW=>HP.o W (ziR dH hW (n:=wr.heap.size) dH.size));clear hc bA fB b8 bz qx dp yZ dj gB;have fX:=zHi (fun W (hW:Below wr.heap.size wr W)=>ziJ base b (w.heap.size+1+1) C (w.heap.size+1) s law n pn W (nt.o W hW) (bO.o.keep hW).heir);generalize zhu s pn n=ab at*;cases ab
    ·go_wp2_with (go_at_call 203;refine(fX.o _ Bw).mono ?_;rintro e wq ⟨rfl,z,rfl⟩)
     go_round
     case rel=>exact⟨k+1,x,rest,by omega,by go_num,by show _=_;simpa using ef.o.symm,bO.o.keep (k:=wr.heap.size) Bw⟩
     case measure=>simp[intOf];omega
    ·go_wp2_with (first
      |(go_at_call 203;refine(fX.o _ Bw).mono ?_;rintro e wq ⟨rfl,z,rfl⟩)
      |(go_at_call 204
        go_loud(refine(zfv b (w.heap.size+1+1) C (w.heap.size+1) law n pn pq x.1 x.2 _ (bO.o.keep (k:=wr.heap.size) Bw).heir (bO.o.keep (k:=wr.heap.size) Bw).mark (bO.o.keep (k:=wr.heap.size) Bw).has MbC MbC MbC gX.o.bd.good (gX.o.bd.share (by have:=gX.o.nn;grind) pn) yV).mono ?_)
        rintro e wq ⟨rfl,g1,g2,g3⟩;have bC:=(bO.o.keep (W':=(wr.alloc (.cells #[.string pn,.int .i64 pq.num,.int .i64 pq.den] 59)).ext z) (k:=wr.heap.size) Bw).two HN.o g3 g1 g2;have hp:wq.heap[wr.heap.size]?=some (.cells #[.string pn,.int .i64 pq.num,.int .i64 pq.den] 59):=(g3.others _ MbM MbC MbC).trans (zbZ (za3 _ _ _ rfl));have dA:=zHi bC;have q0:wq.cell? ⟨w.heap.size+1+1+1,0,none⟩=some (.int .i64 rest.num):=by simp only[World.cell?,bC.restB,zba];rfl
        have q1:wq.cell? ⟨w.heap.size+1+1+1,1,none⟩=some (.int .i64 rest.den):=by simp only[World.cell?,bC.restB,zba];rfl
        have f0:wq.frozen? ⟨w.heap.size+1+1+1,0,none⟩=false:=by simp only[World.frozen?,bC.restB,zba];rfl
        have f1:wq.frozen? ⟨w.heap.size+1+1+1,1,none⟩=false:=by simp only[World.frozen?,bC.restB,zba];rfl
        obtain⟨-,p1,p2⟩:=cF3 hp;have BE:=zad bC.restB
        clear bC hp g1 g2 g3)
      |(go_at_call 147;refine(zgq rest pq _ gX.o.small yV).mono ?_;rintro e wq2 ⟨rfl,z2,rfl⟩;simp only[za9]))
     go_round
     case rel=>exact⟨k+1,zcx pn pq x,rest-pq,by omega,by go_num,by show _=_;simpa using ef.o.symm,(dA.o.put HN.o (rest-pq)).keep (za5 _ z2)⟩
     case measure=>simp[intOf];omega
   ·have ao:¬(k:Int)<(ws.length:Int):=MbC;rw[List.take_of_length_le MbC]at HX;go_wp2_with fail
    go_meet
    rw[<-HX.o];exact bO.o
 case rest=>
  have fB:=ziN (s:=s) (frm:=n) gJ.o ws.length;rw[List.take_of_length_le (Nat.le_refl _)]at fB;generalize zc8 s n ws ([],false) 1=y at*;obtain⟨x,rest⟩:=y;have gX:=zHi fB;have dH:=hcut.gr;obtain⟨bO,nt⟩:=yH2 hcut (fun W hW=>HP.o W (ziR dH hW (n:=wc.heap.size) dH.size));clear fB hcut jq gJ xt;obtain⟨fP,lH⟩:=yH2 (fun W (hW:Below wc.heap.size wc W)=>zj8 base b (w.heap.size+1+1) C (w.heap.size+1) s law n (fun c hc=>(HG.o.kids c hc).2) bR (zaX s) n W (nt.o W hW) (bO.o.keep hW).heir (deep_all HG.o.acyc n)) (fun W (hW:Below wc.heap.size wc W)=>zig base b s n W (nt.o W hW) MbC);generalize cf:zbi s n=sp at*
  go_upto_region 11 with(first
   |(go_at_call 205;refine(fP.o _ Bw).mono ?_;rintro e wq ⟨v,es,rfl,o1,o2,o3,o4⟩;obtain⟨VA,vc,rfl,_,mX⟩:=o1.sl zil;obtain⟨dN,cK⟩:=yH2 o1 o2;clear o1 o2)
   |(go_at_call 153;refine(lH.o _ Bw).mono ?_;rintro e wq2 ⟨rfl,z,rfl⟩))
  have bE:b<wc.heap.size:=Nat.lt_of_lt_of_le hb dH.size;have gL:=o3.size;have fX:=zHi (fun W (hW:Below wq.heap.size wq W)=>ziJ base b (w.heap.size+1+1) C (w.heap.size+1) s law n sp W (nt.o W (o3.trans (hW.mono gL))) (bO.o.keep (o3.trans (hW.mono gL))).heir);have ru:zbR s n=if(!noB sp&&zhu s sp n)=true then sp else⟨#[]⟩:=by unfold zbR;rw[cf,able_q]
  generalize zbR s n=hs at*;generalize zhu s sp n=ab at*;go_cut [59,60,61,62,63,64,65,66]from 67 (fun _ _ _ _ _ _ _ v66 W=>v66=.bool (!noB sp&&!ab)/\∃z,W=wq.ext z)
  case first=>
   cases ab;all_goals(go_wp2_with (go_at_call 203;refine(fX.o _ Bw).mono ?_;rintro e wq2 ⟨rfl,z2,rfl⟩))
   all_goals go_meet
   all_goals exact⟨zaW (by first|(simp[noB, *];done)|(rw[Bool.eq_iff_iff];simp[noB];simp[*];done)),zaM Bw⟩
  case rest=>
   obtain⟨rfl,z2,rfl⟩:=hcut;go_upto_if 66 with fail
   go_cut [14,66]from 67 (fun v14 _ W=>v14=.string hs/\W=wq.ext z2)
   case first=>
    cases dp:noB sp
    ·cases ab
     ·exact MaU
     ·exact MaU
    ·cases ab;all_goals go_wp2_with fail
     all_goals go_meet
     all_goals rw[dp]at ru
     all_goals have bA:sp=⟨#[]⟩:=noB_nil dp
     all_goals exact⟨by rw[ru,bA];rfl,rfl⟩
   case rest=>
    obtain⟨rfl,rfl⟩:=hcut;have cT:Below wq.heap.size wq (wq.ext z2):=za5 _ _;have bW:Below wc.heap.size wc (wq.ext z2):=o3.trans (cT.mono gL);have rB:=bO.o.keep bW;obtain⟨oT,jo⟩:=yH2 (dN.o.keep (n:=wq.heap.size) cT) (cK.o.keep (n:=wq.heap.size) cT);generalize wq.ext z2=W3 at*;have uQ:=oT.o.ro;obtain⟨VA2,vc2,zf,_,iU⟩:=uQ;simp only[Value.slice.injEq]at zf;obtain⟨rfl,_,rfl⟩:=zf;obtain⟨ug,aO⟩:=yH2 iU rB;clear rB iU cT bW dN cK bO fX fP lH o3 gL ru cf;have lV:=nk.o;have oP:=zHi jo.o.len;go_upto_block 2 with fail
    go_cut [15]from 67 (fun _ W=>∃rest',EstSt w W b (w.heap.size+1+1) C (w.heap.size+1) w.heap.size (w.heap.size+1+1+1) law n EF rest'/\Bd EF.1 1)
    case first=>
     have r0:W3.cell? ⟨w.heap.size+1+1+1,0,none⟩=some (.int .i64 rest.num):=by simp only[World.cell?,aO.o.restB,zba];rfl
     have r1:W3.cell? ⟨w.heap.size+1+1+1,1,none⟩=some (.int .i64 rest.den):=by simp only[World.cell?,aO.o.restB,zba];rfl
     have l2:W3.cell? ⟨w.heap.size,2,none⟩=some (.int .i64 law.num):=by simp only[World.cell?,aO.o.lawB,zjN];rfl
     have l3:W3.cell? ⟨w.heap.size,3,none⟩=some (.int .i64 law.den):=by simp only[World.cell?,aO.o.lawB,zjN];rfl
     have iU:=zad aO.o.restB;have hLl:=zad aO.o.lawB;have fF:=gX.o.nn;have bF:=gX.o.le;have fV:=gX.o.small;obtain⟨cB,l9⟩:=yH2 gX.o.bd lV;have xM:=zij (s:=s) (stems:=law.stems) (frm:=n) bR (zaX s) n;generalize zbF s law.stems n (zaX s) n=tr at*;have xr:=zHi xM;clear lV xM nk;by_cases he:es.length=0
     ·have C7:(((es.length:Nat):Int)==0)=true:=by rw[he];rfl
      have D8:tr=[]:=List.eq_nil_of_length_eq_zero (by have:=oP.o;omega);clear he;go_wp2_with (go_at_call 204;refine(zfv b (w.heap.size+1+1) C (w.heap.size+1) law n hs rest x.1 x.2 _ aO.o.heir aO.o.mark aO.o.has MbC MbC MbC cB.o.good (cB.o.share MbV hs) fV).mono ?_;rintro e w6 ⟨rfl,g1,g2,g3⟩)
      go_meet
      have h1:=l9.o;rw[D8]at h1;rw[h1];exact⟨rest,aO.o.two HN.o g3 g1 g2,(ze1 (fl:=x.2) cB.o fF).up6 MbV⟩
     ·have C7:(((es.length:Nat):Int)==0)=false:=by simpa using he
      have ag:tr≠[]:=fun e=>he (by have:=oP.o;rw[e]at this;exact this)
      have eY:tr.isEmpty=false:=by cases tr with|nil=>exact absurd rfl ag|cons _ _=>rfl
      have lz:=zHi ag;clear ag he;cases dp:noB hs
      ·have mK:hs.toList.isEmpty=false:=dp;have vR:(!hs.toList.isEmpty)=true:=by rw[mK];rfl
       have dE:=l9.o;rw[eY,dp]at dE;simp only[Bool.false_eq_true,if_false]at dE;have lh:=zHi dE;obtain⟨ow1,ow2,ow3⟩:=own_any fV cI;obtain⟨oo1,oo2,oo3,oo4⟩:=own_ok gX.o.isN fF bF cI;generalize Rat.divInt law.num law.den=la at*;generalize ae:rest*la=own at*;have eO:=zHi ow3;clear dE ow3 ae eY dp
       go_wp2_with (first
        |(go_at_call 178;refine(eO.o _).mono ?_;rintro e w5 ⟨rfl,z5,rfl⟩;simp only[za9])
        |(go_at_call 204
          refine(zfv b (w.heap.size+1+1) C (w.heap.size+1) law n hs own x.1 x.2 _ (aO.o.keep (k:=W3.heap.size) Bw).heir (aO.o.keep (k:=W3.heap.size) Bw).mark (aO.o.keep (k:=W3.heap.size) Bw).has MbC MbC MbC cB.o.good (cB.o.share MbV hs) oo3).mono ?_;rintro e w6 ⟨rfl,g1,g2,g3⟩;have eI:=(aO.o.keep (W':=(W3.ext z5).alloc (.cells #[.int .i64 own.num,.int .i64 own.den] 54)) (k:=W3.heap.size) Bw).two HN.o g3 g1 g2;have js:=zHi eI;have hO:w6.heap[(W3.ext z5).heap.size]?=some (zba own):=(g3.others _ MbF MbM MbM).trans (za3 _ _ _ rfl);have q0:w6.cell? ⟨w.heap.size+1+1+1,0,none⟩=some (.int .i64 rest.num):=by simp only[World.cell?,eI.restB,zba];rfl
          have q1:w6.cell? ⟨w.heap.size+1+1+1,1,none⟩=some (.int .i64 rest.den):=by simp only[World.cell?,eI.restB,zba];rfl
          have f0:w6.frozen? ⟨w.heap.size+1+1+1,0,none⟩=false:=by simp only[World.frozen?,eI.restB,zba];rfl
          have f1:w6.frozen? ⟨w.heap.size+1+1+1,1,none⟩=false:=by simp only[World.frozen?,eI.restB,zba];rfl
          have o0:w6.cell? ⟨W3.heap.size+z5.os.size,0,none⟩=some (.int .i64 own.num):=by simp only[<-zae,World.cell?,hO,zba];rfl
          have o1:w6.cell? ⟨W3.heap.size+z5.os.size,1,none⟩=some (.int .i64 own.den):=by simp only[<-zae,World.cell?,hO,zba];rfl
          have BE:=zad eI.restB;go_loud(have xL:=(LK.below (a:=W3) (n:=W3.heap.size) (b:=(W3.ext z5).alloc (.cells #[.int .i64 own.num,.int .i64 own.den] 54)) Bw).trans (ziQ g3 (aO.o.keep (k:=W3.heap.size) Bw).mark (aO.o.keep (k:=W3.heap.size) Bw).has))
          go_loud(have dZ:=zHi (((xL.trans (LK.put (q:=rest-own) eI.restB)))))
          clear eI hO g1 g2 g3 xL)
        |(go_at_call 147;refine(zgq rest own _ fV oo3).mono ?_;rintro e w7 ⟨rfl,z7,rfl⟩;simp only[za9])
        |(go_at_call 206
          refine(zfP b (w.heap.size+1+1) C (w.heap.size+1) law n MbC MbC MbC (zaX s) es tr _ VA es.length vc (rest-own) (1-rest+own) (zcx hs own x).1 (zcx hs own x).2 _ ((dZ.o.trans (LK.below (za5 _ z7))).items jo.o) xr.o ((dZ.o.trans (LK.below (za5 _ z7))).ro ug.o) lz.o oP.o ((js.o.put HN.o (rest-own)).keep (za5 _ z7)).heir ((js.o.put HN.o (rest-own)).keep (za5 _ z7)).mark ((js.o.put HN.o (rest-own)).keep (za5 _ z7)).has MbV MbV oo4 (ze1 (fl:=x.2) cB.o oo1) MbV).mono ?_;rintro e w8 ⟨rfl,g1,g2,g3⟩;have iJ:=((js.o.put HN.o (rest-own)).keep (za5 _ z7)).two HN.o g3 g1 g2;have lI:=zHi iJ
          clear iJ g1 g2 g3))
       go_meet
       rw[lh.o];exact⟨rest-own,lI.o,(zf3 (fl:=(zcx hs own x).2) (show 0<=rest-own by grind) (ze1 (n:=hs) (fl:=x.2) cB.o oo1)).up6 MbV⟩
      ·have mK:hs.toList.isEmpty=true:=dp;have vR:(!hs.toList.isEmpty)=false:=by rw[mK];rfl
       have dE:=l9.o;rw[eY,dp]at dE;simp only[Bool.false_eq_true,if_false,if_true]at dE;have lh:=zHi dE;clear dE eY dp
       go_wp2_with (go_at_call 206
                    refine(zfP b (w.heap.size+1+1) C (w.heap.size+1) law n MbC MbC MbC (zaX s) es tr _ VA es.length vc rest (1-rest) x.1 x.2 _ jo.o xr.o ug.o lz.o oP.o aO.o.heir aO.o.mark aO.o.has fF bF fV cB.o MbV).mono ?_;rintro e w8 ⟨rfl,g1,g2,g3⟩;have iJ:=aO.o.two HN.o g3 g1 g2;have lI:=zHi iJ
                    clear iJ g1 g2 g3)
       go_meet
       rw[lh.o];exact⟨rest,lI.o,(zf3 (fl:=x.2) fF cB.o).up6 MbV⟩
    case rest=>
     obtain⟨rest',am,dl⟩:=hcut;have cB:=zHi dl;have sB:=am.heir;have sD:=am.mark;have uF:=am.gr;have xY:=am.has;have hh8:=zad sB;clear am dl lV nk oP ug oT jo nt gX aO;obtain⟨W8,rfl⟩:∃x,x=wc:=⟨_,rfl⟩
     have td:=xY.lt;obtain⟨mm,dI,ca,ew⟩:=xY;unfold HeirAt at sB;obtain⟨-,-,-,-,-,-,-,e7⟩:=cF8 sB;obtain⟨vW,pN⟩:=zhX (P:=Tryz.prog) dI (t:=231) Tryz.underlying231;generalize dI.choose_spec.choose=cc at*;generalize dI.choose=ce at*;have B2:∀j cur,W8.heap[j]?=some (.cells cur 59 (0,0))->j≠C:=fun j cur hj e=>by
      subst e;unfold MarkAt at sD;rw[sD]at hj;simp at hj
     obtain⟨Ad,zK,lm,oR⟩:=yH4 sD uF ew ca;have wa:=uF.size;have uf:=zHi pN;clear sD uF ew ca pN B2 dI sB;go_upto_block 6 with fail
     generalize hI:W8.heap.size=I at*;generalize te:w.heap.size+1=mb at*;obtain⟨tV,zU⟩:=yH2 te hI;clear vW;go_wp2_with fail
     go_loopg [16] (mm.length+1) (fun gg v wr=>∃done left,Hid ((done++left).Perm mm)/\RangeAt wr mb I ekS (fun v:Value=>v) mm left/\OwnS wr w.heap.size 59 3 zaa v (colP EF.1 done)/\MarkAt wr C EF.2/\w.grownBy wr (some C)/\left.length<gg/\I<wr.heap.size)
     case atStart=>
      refine⟨[],mm,List.Perm.refl _,uf.o,OwnS.nil,?_,?_,by omega,by simp;omega⟩
      ·exact Ad.o.alloc _
      ·exact zbW zK.o _
     case round=>
      obtain⟨done,left,HP,mP,ae,hm,hg,be,hIl⟩:=hrel;obtain⟨cl,aA⟩:∃cl,cl=colP EF.1 done:=⟨_,rfl⟩
      rw[<-aA]at ae;have bj:=zHi aA;clear aA;obtain⟨VC,vcc,rfl,_,Dc⟩:=ae.sl za0;have ux:∀j,za1 (.slice VC cl.length vcc)=some j->w.heap.size<=j/\j<wr.heap.size:=fun j hj=>ae.ge j hj
      rcases zji (P:=Tryz.prog) mP 0 with⟨h0,ai⟩|⟨i,p,w',hi,ai,hra',hgr',hsz,hent⟩
      ·have uH:=HP.o;rw[h0,List.append_nil]at uH;have kv:cl.Perm EF.1:=by
        rw[bj.o];exact(uH.filterMap (zj5 EF.1)).trans (zlE cB.o.good oR.o lm.o)
       have gy:cl.length<=1000000000:=by rw[kv.length_eq];exact cB.o.len Rat.le_refl
       obtain⟨eb,zC,HO,HM,gF,wH⟩:=yH6 gy kv ae hm hg ux;clear uH kv ae hm hg ux mP h0 gy;go_wp2_with (go_at_call 207;refine(sortP_any (.slice VC cl.length vcc) cl w.heap.size _ HO.o eb.o).mono ?_;rintro e wq ⟨rfl,L,s1,s2,s3,s4,s5⟩)
       go_ret
       have hL:L=EF.1:=zj6 cB.o.good (s1.trans zC.o) s2;rw[hL]at s3;exact⟨_,rfl,s3,ziS HM.o s5 (fun j hj=>by have:=wH.o j hj;omega),row_gr gF.o s5 (fun j hj=>(wH.o j hj).1)⟩
      ·obtain⟨pn,pv⟩:=p;have fU:(pn,pv)∈mm:=HP.o.mem_iff.1 (List.mem_append_right _ (List.mem_of_getElem? hi));have CU:pv=za9 (zab EF.1 pn):=by
        have h1:=zg1 oR.o fU;rcases lm.o pn with⟨h2,_⟩|h2
        ·rw[h2]at h1;cases h1
        ·rw[h2]at h1;simpa using h1.symm
       subst CU;have sL:zj5 EF.1 (pn,za9 (zab EF.1 pn))=if 0<zab EF.1 pn then some (pn,zab EF.1 pn)else none:=rfl;have nN:=done_perm HP.o hi;have aL:=colP_snoc EF.1 done (pn,za9 (zab EF.1 pn));rw[<-bj.o,sL]at aL;obtain⟨wJ,fM⟩:=yH2 nN aL;have bu:cl.length<=1000000000:=by
        have h1:(colP EF.1 (done++left)).Perm EF.1:=(HP.o.filterMap (zj5 EF.1)).trans (zlE cB.o.good oR.o lm.o);have h2:=h1.length_eq;unfold colP at h2;rw[List.filterMap_append,List.length_append]at h2;have h3:=cB.o.len Rat.le_refl;have h4:=bj.o;unfold colP at h4;rw[<-h4]at h2;omega
       have hel:(left.eraseIdx i).length+1=left.length:=by
        have:=(List.getElem?_eq_some_iff.1 hi).1;rw[List.length_eraseIdx_of_lt this];omega
       clear nN aL sL fU hi;generalize zab EF.1 pn=q at*;have zc:(Instr.next (.pointer (some ⟨I,0,none⟩)) false 0).run Tryz.prog wr=.ok (.tuple #[.bool true,.string pn,.agg #[.int .i64 q.num,.int .i64 q.den]]) w':=ai;have yo:(Instr.entry (.pointer (some ⟨I,0,none⟩))).run Tryz.prog w'=.ok (.tuple #[.string pn,.agg #[.int .i64 q.num,.int .i64 q.den]]) w':=hent;have qS:∀j,some I=some j->w.heap.size<=j:=fun j hj=>by have:=zU.o;simp at hj;omega
       have cJ:=ae.grown hgr' (by
        cases hb:za1 (.slice VC cl.length vcc)with
        |none=>exact .inl rfl
        |some j=>
         right
         intro e;obtain⟨cur,mw⟩:=zjM ae hb
         exact(zh1 mP mw).2 Mcn)
       have yI:=ziS hm hgr' (fun j hj=>by have:=qS j hj;omega);have cx:=row_gr hg hgr' qS;have pX:∀j,za1 (.slice VC cl.length vcc)=some j->w.heap.size<=j/\j≠mb/\j≠I:=fun j hj=>by
        obtain⟨cur,mw⟩:=zjM cJ hj;exact⟨(cJ.ge j hj).1,zh1 hra' mw⟩
       obtain⟨jX,lK,oY,HO,HM,gF⟩:=yH6 pX hsz hra' cJ yI cx;have Bh:I<w'.heap.size:=MbC;have jU:w.heap.size<=w'.heap.size:=cx.size;clear mP hra' ae cJ hm yI hg cx ai hent hgr' ux hsz pX;by_cases hq:0<q.num
       ·have fw:=fM.o;rw[if_pos (zlL.2 hq)]at fw;have kY:=zHi fw;clear fw;go_wp2_with (at_builtin;go_loud(refine zaG (v:=.slice VC cl.length vcc) (n:=cl.length) (m:=1) rfl _ _ rfl zgZ za0 zdn rfl (HO.o.keep (n:=w'.heap.size) Bw) rfl rfl rfl (sl_part (p:=(pn,q)) (za3 _ _ _ MbF)) MbO MbC MbH ?_);intro v3 w3 h1 h2 h3)
        have R1:=(oY.o.below (n:=w'.heap.size) (W_two w' _ _)).grown h2 (fun e=>(jX.o mb e.symm).2.1 rfl) (fun e=>(jX.o I e.symm).2.2 rfl);have M1:=ziS ((HM.o.alloc _).alloc _) h2 (fun j hj=>by have:=jX.o j hj;omega);have G1:=row_gr (zbW (zbW gF.o _) _) h2 (fun j hj=>(jX.o j hj).1);have S1:=h2.size;simp only[World.size_alloc]at S1;go_roundg (gk-1)
        case measure=>omega
        case rel=>exact⟨done++[(pn,za9 q)],left.eraseIdx i,wJ.o,R1,by rw[kY.o];exact h1,M1,G1,by omega,by omega⟩
       ·have fw:=fM.o;rw[if_neg (fun h=>hq (zlL.1 h))]at fw;have kY:=zHi fw;clear fw;go_wp2_with fail
        go_roundg (gk-1)
        case measure=>omega
        case rel=>exact⟨done++[(pn,za9 q)],left.eraseIdx i,wJ.o,oY.o.below (n:=w'.heap.size) Bw,by rw[kY.o];simpa using HO.o.keep (n:=w'.heap.size) Bw,HM.o.alloc _,zbW gF.o _,by omega,by simp;omega⟩

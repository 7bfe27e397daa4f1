/- Walks of chapter 5's heirs: able, gives. -/
import Derived.Test.YtckkbkdcdkhglaaGreatDoorJO
import Derived.Test.YtckkbkdcdkhglaaGreatDoorO7
set_option linter.unusedSimpArgs false
set_option linter.unusedVariables false
set_option maxRecDepth 100000
set_option maxHeartbeats 4000000
namespace Go.Proofs.YtckkbkdcdkhglaaGreatDoor
open Go.RowKit Go.Shelf
attribute [local go_sem] World.cell?_alloc_mark zag za5 zaq za8 zaw zax zay zaz za0 za1 za2
attribute [local go_sem] zap zad
def HeirAt (W:World) (h b:Nat) (law:Law) (who:ByteArray) (C m:Nat):Prop:=
 W.heap[h]?=some (.cells #[.pointer (some ⟨b,0,none⟩), .int .i64 law.frm, .bool law.stems, .int .i64 law.num, .int .i64 law.den, .string who, .pointer (some ⟨C,0,none⟩), .map (some m)] 127)
def ziF (s:St) (n frm:ByteArray):Bool:=!zae n frm&&!zaH s n&&!s.renounce.any (fun r=>zae r.1 n&&zae r.2 frm)
theorem able_q (s:St) (n frm:ByteArray):zdU s n frm=(!noB n&&ziF s n frm):=by
 unfold zdU ziF;simp only[Bool.and_assoc]
theorem zk6 (base b h C m:Nat) (s:St) (law:Law) (who n:ByteArray) (w:World) (hW:PeoAt base w b s) (hH:HeirAt w h b law who C m):
 Calls Tryz.prog 68 #[.pointer (some ⟨h,0,none⟩), .string n] w (Ret w (.bool (ziF s n who))):=by
 obtain⟨B,d,c,p,wl,r,mv,tv,la,co,h1,h2⟩:=hW;have hb:=zab h1;have hh:=zab hH;unfold WldC at h1;unfold HeirAt at hH;obtain⟨c0,-,-,-,-,c5⟩:=cF6 h1;obtain⟨e0,-,-,-,-,e5⟩:=cF6 hH;have dM: ∀q',(Instr.lookup 82 (.map (some d)) (.string n) false).run Tryz.prog (w.drewN q')= .ok (.bool (zaH s n)) (w.drewN q'):=fun q'=>zcZ (h2.drewN q') _
 have dw: ∀q',(Instr.lookup 85 (.map (some r)) (.agg #[.string n, .string who]) false).run Tryz.prog (w.drewN q')= .ok (.bool (s.renounce.any fun x=>zae x.1 n&&zae x.2 who)) (w.drewN q'):=fun q'=>znH (h2.drewN q') _ _
 have hU:ziF s n who=(!zae n who&&!zaH s n&&!(s.renounce.any fun x=>zae x.1 n&&zae x.2 who)):=rfl;have HU:=zHi hU;clear hU;generalize ziF s n who=R at*;generalize zaH s n=dd at*;generalize(s.renounce.any fun x=>zae x.1 n&&zae x.2 who)=rr at*;have dD:zae n who=(n.toList==who.toList):=rfl;rw[dD]at HU;clear h1 h2 hH dD;go_enter Tryz.func68,Tryz.ntmps68
 cases hn:(n.toList==who.toList)
 ·have ed:(n.toList != who.toList)=true:=by rw[bne,hn];rfl
  rw[hn]at HU;cases dd
  ·exact Maz
  ·exact Maz
 ·have ed:(n.toList != who.toList)=false:=by rw[bne,hn];rfl
  rw[hn]at HU;exact Maz
def HasAt (W:World) (m:Nat) (out:Parts):Prop:=
 ∃mm:List (ByteArray×Value),MapS W m ekS (fun v:Value=>v) mm/\(mm.map (·.1)).Nodup/\ ∀n,(mget eqS n mm=none/\zaf out n=0)\/mget eqS n mm=some (za9 (zaf out n))
theorem HasAt.keep {n m:Nat} {W W':World} {out:Parts} (h:HasAt W m out) (hB:Below n W W') (hn:W.heap.size<=n:=by first|exact Nat.le_refl _|omega):HasAt W' m out:=by
 obtain⟨mm,h1,h2,h3⟩:=h;exact⟨mm,h1.below hB hn,h2,h3⟩
theorem HasAt.block {m:Nat} {W W':World} {out:Parts} (h:HasAt W m out) (hb:W'.heap[m]?=W.heap[m]?):HasAt W' m out:=by
 obtain⟨mm,h1,h2,h3⟩:=h;exact⟨mm,h1.keep hb,h2,h3⟩
theorem HasAt.lt {m:Nat} {W:World} {out:Parts} (h:HasAt W m out):m<W.heap.size:=by
 obtain⟨mm,h1,h2,h3⟩:=h;exact h1.at.lt
structure Two2 (w w':World) (C m:Nat):Prop where
 below: ∀n,n<=C->n<=m->n<=w.heap.size->Below n w w'
 others: ∀k,k<w.heap.size->k≠C->k≠m->w'.heap[k]?=w.heap[k]?
 size:w.heap.size<=w'.heap.size
theorem Two2.of_below {w w':World} {C m:Nat} (h:Below w.heap.size w w'):Two2 w w' C m:=⟨fun n _ _ hn=>h.mono hn,fun k hk _ _=>h.block k hk,h.size⟩
theorem Two2.trans {a b c:World} {C m:Nat} (h:Two2 a b C m) (k:Two2 b c C m):Two2 a c C m:=
 ⟨fun n h1 h2 h3=>(h.below n h1 h2 h3).trans (k.below n h1 h2 (Nat.le_trans h3 h.size)),fun i hi h1 h2=>(k.others i (Nat.lt_of_lt_of_le hi h.size) h1 h2).trans (h.others i hi h1 h2),Nat.le_trans h.size k.size⟩
theorem Two2.grownC {w w':World} {C m:Nat} (h:w.grownBy w' (some C)):Two2 w w' C m:=
 ⟨fun n h1 _ hn=>zaS (Below.refl _ _) h h1 hn,fun k hk h1 _=>h.block k hk (fun e=>h1 MdH),h.size⟩
theorem Two2.grownM {w w':World} {C m:Nat} (h:w.grownBy w' (some m)):Two2 w w' C m:=
 ⟨fun n _ h1 hn=>zaS (Below.refl _ _) h h1 hn,fun k hk _ h1=>h.block k hk (fun e=>h1 MdH),h.size⟩
def zl7 (w:World) (C m:Nat) (x:Parts×Bool) (e:Ending) (w':World):Prop:=e= .returned (.tuple #[])/\HasAt w' m x.1/\MarkAt w' C x.2/\Two2 w w' C m
theorem zdb {P:Program} {ops:Array Oper} {o:Oper} {a:Act} {w:World} {K:Act->World->Prop} {Q:Exit->Act->World->Prop} {E:Prop} {T:TypeId} (bT:o.guard=none) (x i u:Operand) (ho:o.op= .mapUpdate T x i u) (vx vi vu:Value) (hx:a.eval x=vx) (hi:a.eval i=vi) (hu:a.eval u=vu) (w':World)
 (hrun:(Instr.mapUpdate T vx vi vu).run P w= .ok () w') (h:K (a.put o.dst undef) w'):if Region.wanted o (yielded ops a.tmps)=true then Oper.wp P o a w K Q else E:=by
 exact Maf
theorem zg3 (b h C m:Nat) (law:Law) (who n:ByteArray) (f:Rat) (out:Parts) (fl:Bool) (w:World) (hH:HeirAt w h b law who C m) (hM:MarkAt w C fl) (hS:HasAt w m out) (nG:h≠C) (pE:h≠m) (tq:C≠m) (hg:GoodParts out) (hs:zaK (zaf out n)) (hf:zaK f):
 Calls Tryz.prog 69 #[.pointer (some ⟨h,0,none⟩), .string n, .agg #[.int .i64 f.num, .int .i64 f.den]] w (zl7 w C m (zcP n f (out,fl))):=by
 have hh:=zab hH;have vD:=zab hM;have ft:=hS.lt;obtain⟨mm,da,cM,iB⟩:=hS;unfold HeirAt at hH;obtain⟨-,-,-,-,-,-,e6,e7⟩:=cF8 hH;have HG:=zHi hg;have uG:=zHi iB;have kL:=zHi cM;have HM:=zHi hM;have yV:=zHi da;have zV:h≠w.heap.size:=Mcl;have JS:h≠w.heap.size+1:=Mcl;generalize nK:zaf out n=sv at*;have gz:=zHi nK;have eB: ∀o,(Instr.lookup 125 (.map (some m)) (.string n) true).run Tryz.prog (w.alloc o)= .ok (.tuple #[(mget eqS n mm).getD (.agg #[.int .i64 0, .int .i64 0]), .bool (mget eqS n mm).isSome]) (w.alloc o):=fun o=>zkg mapSF (da.below (n:=w.heap.size) (zac (Below.refl _ _) o)).at n
 have fh:=iB n;rw[nK]at fh;have h0:(sv=0/\mget eqS n mm=none)\/mget eqS n mm=some (za9 sv):=by
  rcases fh with⟨a,b⟩|a
  ·exact .inl ⟨b,a⟩
  ·exact .inr a
 clear hH hM da cM iB hg nK fh;go_enter Tryz.func69,Tryz.ntmps69
 rcases h0 with⟨rfl,h0⟩|h0
 ·rw[h0]at eB;simp only[Option.getD_none,Option.isSome_none]at eB;clear h0;go_upto_region 4 with fail
  refine wp_region_held_drew (S:=(fun w'=>w'.cell? ⟨h,6,none⟩=some (.pointer (some ⟨C,0,none⟩))/\w'.cell? ⟨h,7,none⟩=some (.map (some m))/\w'.cell? ⟨w.heap.size,0,none⟩=some (.int .i64 f.num)/\w'.cell? ⟨w.heap.size,1,none⟩=some (.int .i64 f.den)/\w'.cell? ⟨w.heap.size+1,0,none⟩=some (.int .i64 (0))/\w'.cell? ⟨w.heap.size+1,1,none⟩=some (.int .i64 (1)))) Mcm ?hS ?hrest
  case hS=>((try dsimp only);refine⟨?_,?_,?_,?_,?_,?_⟩<;>(simp[go_sem,e6,e7,hh];done))
  case hrest=>
   intro hHeld;refine TkH 0 ?_;refine TkH 1 ?_;refine TkH 2 ?_;refine TkH 3 ?_;refine TkH 4 ?_;refine TkH 5 ?_;refine TkH 6 ?_;refine TkH 7 ?_;refine TkH 8 ?_;refine TkH 9 ?_;refine TkH 10 ?_;refine OnH 11 fun K hK=> ?_
   go_simp
   refine(zhK C fl _ ?q1 (0) f hs hf).mono ?_
   case q1=>(repeat(first|exact HM.o|refine MarkAt.drew ?_|refine MarkAt.alloc ?_ _))
   rintro e w5 ⟨rfl,n1,n2⟩;have ed:=n2.size;have p6:w5.cell? ⟨h,6,none⟩=some (.pointer (some ⟨C,0,none⟩)):=(zbd n2 Mcq nG).trans Mep;have p7:w5.cell? ⟨h,7,none⟩=some (.map (some m)):=(zbd n2 Mcq nG).trans (by simp[go_sem,e7,hh]);have p0:w5.cell? ⟨w.heap.size,0,none⟩=some (.int .i64 f.num):=(zbd n2 Mcq Mcl).trans McN;have p1:w5.cell? ⟨w.heap.size,1,none⟩=some (.int .i64 f.den):=(zbd n2 Mcq Mcl).trans McN;have p2:w5.cell? ⟨w.heap.size+1,0,none⟩=some (.int .i64 (0)):=(zbd n2 Mco Mcl).trans McN;have p3:w5.cell? ⟨w.heap.size+1,1,none⟩=some (.int .i64 (1)):=(zbd n2 Mco Mcl).trans McN;have xx:MapS w5 m ekS (fun v:Value=>v) mm:=(yV.o.below (n:=w.heap.size) Bw).grown n2 (by simpa using fun e=>tq e.symm);have nX:=zHi xx;have N1:=zHi n1;have N2:=zHi n2;clear n1 n2 xx;simp only[za9];refine hK.out _ _ ?_ (fun hHeld=> ?_);focus((try dsimp only);refine⟨?_,?_,?_,?_,?_,?_⟩<;>assumption)
   clear hK K;try simp only[Act.put,List.setIfInBounds_toArray,List.set_cons_zero,List.set_cons_succ]
   refine OnH 12 fun K hK=> ?_
   obtain⟨w6,hrun,iU,bH,kv⟩:=zcu mapSF nX.o n (za9 (zbi (0+f)));refine zdb rfl _ _ _ rfl _ _ _ rfl rfl rfl w6 hrun ?_;have sg:w.heap.size+1<w5.heap.size:=MdP;have q6:w6.cell? ⟨h,6,none⟩=some (.pointer (some ⟨C,0,none⟩)):=(zbd bH Mcl pE).trans p6;have q7:w6.cell? ⟨h,7,none⟩=some (.map (some m)):=(zbd bH Mcl pE).trans p7;have q0:w6.cell? ⟨w.heap.size,0,none⟩=some (.int .i64 f.num):=(zbd bH Mcl Mcl).trans p0;have q1:w6.cell? ⟨w.heap.size,1,none⟩=some (.int .i64 f.den):=(zbd bH Mcl Mcl).trans p1;have q2:w6.cell? ⟨w.heap.size+1,0,none⟩=some (.int .i64 (0)):=(zbd bH Mcl Mcl).trans p2;have q3:w6.cell? ⟨w.heap.size+1,1,none⟩=some (.int .i64 (1)):=(zbd bH Mcl Mcl).trans p3;exact MD
 ·rw[h0]at eB;simp only[Option.getD_some,Option.isSome_some,za9]at eB;clear h0;go_upto_region 4 with fail
  refine wp_region_held_drew (S:=(fun w'=>w'.cell? ⟨h,6,none⟩=some (.pointer (some ⟨C,0,none⟩))/\w'.cell? ⟨h,7,none⟩=some (.map (some m))/\w'.cell? ⟨w.heap.size,0,none⟩=some (.int .i64 f.num)/\w'.cell? ⟨w.heap.size,1,none⟩=some (.int .i64 f.den)/\w'.cell? ⟨w.heap.size+1,0,none⟩=some (.int .i64 (sv.num))/\w'.cell? ⟨w.heap.size+1,1,none⟩=some (.int .i64 (sv.den)))) Mcm ?hS ?hrest
  case hS=>((try dsimp only);refine⟨?_,?_,?_,?_,?_,?_⟩<;>(simp[go_sem,e6,e7,hh];done))
  case hrest=>
   intro hHeld;refine TkH 0 ?_;refine TkH 1 ?_;refine TkH 2 ?_;refine TkH 3 ?_;refine TkH 4 ?_;refine TkH 5 ?_;refine TkH 6 ?_;refine TkH 7 ?_;refine TkH 8 ?_;refine TkH 9 ?_;refine TkH 10 ?_;refine OnH 11 fun K hK=> ?_
   go_simp
   refine(zhK C fl _ ?q1 (sv) f hs hf).mono ?_
   case q1=>(repeat(first|exact HM.o|refine MarkAt.drew ?_|refine MarkAt.alloc ?_ _))
   rintro e w5 ⟨rfl,n1,n2⟩;have ed:=n2.size;have p6:w5.cell? ⟨h,6,none⟩=some (.pointer (some ⟨C,0,none⟩)):=(zbd n2 Mcq nG).trans Mep;have p7:w5.cell? ⟨h,7,none⟩=some (.map (some m)):=(zbd n2 Mcq nG).trans (by simp[go_sem,e7,hh]);have p0:w5.cell? ⟨w.heap.size,0,none⟩=some (.int .i64 f.num):=(zbd n2 Mcq Mcl).trans McN;have p1:w5.cell? ⟨w.heap.size,1,none⟩=some (.int .i64 f.den):=(zbd n2 Mcq Mcl).trans McN;have p2:w5.cell? ⟨w.heap.size+1,0,none⟩=some (.int .i64 (sv.num)):=(zbd n2 Mco Mcl).trans McN;have p3:w5.cell? ⟨w.heap.size+1,1,none⟩=some (.int .i64 (sv.den)):=(zbd n2 Mco Mcl).trans McN;have xx:MapS w5 m ekS (fun v:Value=>v) mm:=(yV.o.below (n:=w.heap.size) Bw).grown n2 (by simpa using fun e=>tq e.symm);have nX:=zHi xx;have N1:=zHi n1;have N2:=zHi n2;clear n1 n2 xx;simp only[za9];refine hK.out _ _ ?_ (fun hHeld=> ?_);focus((try dsimp only);refine⟨?_,?_,?_,?_,?_,?_⟩<;>assumption)
   clear hK K;try simp only[Act.put,List.setIfInBounds_toArray,List.set_cons_zero,List.set_cons_succ]
   refine OnH 12 fun K hK=> ?_
   obtain⟨w6,hrun,iU,bH,kv⟩:=zcu mapSF nX.o n (za9 (zbi (sv+f)));refine zdb rfl _ _ _ rfl _ _ _ rfl rfl rfl w6 hrun ?_;have sg:w.heap.size+1<w5.heap.size:=MdP;have q6:w6.cell? ⟨h,6,none⟩=some (.pointer (some ⟨C,0,none⟩)):=(zbd bH Mcl pE).trans p6;have q7:w6.cell? ⟨h,7,none⟩=some (.map (some m)):=(zbd bH Mcl pE).trans p7;have q0:w6.cell? ⟨w.heap.size,0,none⟩=some (.int .i64 f.num):=(zbd bH Mcl Mcl).trans p0;have q1:w6.cell? ⟨w.heap.size,1,none⟩=some (.int .i64 f.den):=(zbd bH Mcl Mcl).trans p1;have q2:w6.cell? ⟨w.heap.size+1,0,none⟩=some (.int .i64 (sv.num)):=(zbd bH Mcl Mcl).trans p2;have q3:w6.cell? ⟨w.heap.size+1,1,none⟩=some (.int .i64 (sv.den)):=(zbd bH Mcl Mcl).trans p3;exact MD
end Go.Proofs.YtckkbkdcdkhglaaGreatDoor

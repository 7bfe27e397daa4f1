/- Walk of chapter 5's people.take: wills, renunciations, marriages. -/
import Derived.Test.YtjhbofabmpfniaaGreatDoorE2
set_option linter.unusedSimpArgs false
set_option linter.unusedVariables false
set_option maxRecDepth 100000
set_option maxHeartbeats 4000000
namespace Go.Proofs.YtjhbofabmpfniaaGreatDoor
open Go.RowKit Go.Shelf
attribute [local go_sem] World.cell?_alloc_mark zae za3 zam za6 zas zat zau zav zaw zax zay
attribute [local go_sem] zaj zac
theorem will_any (base b:Nat) (s:St) (la co:Int) (d:Deed) (B:Option Addr) (c:Nat) (w:World) (hW:WldAt base w b s la co) (hd:OkD d) (hk:d.kind=4) (hS:Sl w 3 RPart.cells B d.to):
 Calls Tryz.prog 143 #[.pointer (some ⟨b,0,none⟩),d.v B c] w (zbF base b (zgT s d) la co w):=by
 obtain⟨bO,_,_,_⟩:=zea (hd.parts (.inr (.inr hk))).2;have bu:=hd.len;have Fs:=rat_cells (fun p hp=>(bO p hp).2.2) hS;clear hd bO;have ao:=hW;obtain⟨Bk,dd,cc,pp,wl,rr,mv,tv,ps,aY,hC,hP,hT⟩:=hW;have cW:=zab hC;obtain⟨kd,dy,pl,fr,ts,cl,yr⟩:=d;simp only at*;subst hk;have ji:Hid (zgT s ⟨4,dy,pl,fr,ts,cl,yr⟩=if zaK s fr then(s,28)else({s with wills:=s.wills++[(fr,zap ts)]},0)):=rfl;generalize zgT s ⟨4,dy,pl,fr,ts,cl,yr⟩=X at*;have ag:(zap ts).length=ts.length:=by unfold zap;rw[List.length_map]
 have Iu:=zHi Fs;have HC:=zHi hC;have HP:=zHi hP;have HT:=zHi hT;have HW:=zHi ao;unfold WldC at hC;obtain⟨c0,-,-,-,c4⟩:=cF5 hC;have dN: ∀W:World,Below w.heap.size w W->(Instr.lookup 133 (.map (some dd)) (.string fr) false).run Tryz.prog W= .ok (.bool (zaK s fr)) W:=fun W hB=>zdb (HP.o.keep hB) _
 have ie:=zHi dN;generalize zaK s fr=dx at*;have eE:=zHi ag;clear dN hC hP hT ao Fs hS ag;unfold Deed.v;simp only;have ew:=ie.o (w.alloc (.cells #[.int .i64 4, .int .i64 dy, .string pl, .string fr, .slice B ts.length c, .int .i64 cl, .int .i64 yr] 52)) Bw;go_enter Tryz.func143,Tryz.ntmps143
 cases dx
 ·go_upto_region 5 with fail
  refine wp_region_held_drew (S:=(fun w'=>w'.cell? ⟨b,4,none⟩=some (.map (some wl))/\w'.cell? ⟨w.heap.size,4,none⟩=some (.slice B ts.length c))) Mco ?hS ?hrest
  case hS=>((try dsimp only);refine⟨?_,?_⟩<;>(simp[go_sem,c4,cW];done))
  case hrest=>
   intro hHeld;refine TkH 0 ?_;refine TkH 1 ?_;refine TkH 2 ?_;refine TkH 3 ?_;refine TkH 4 ?_;refine TkH 5 ?_;refine TkH 6 ?_;refine OnH 7 fun K hK=> ?_
   go_simp
   refine(zeF (zap ts) B ts.length c _ eE.o.symm (by rw[eE.o];omega) (Iu.o.keep (n:=w.heap.size) Bw)).mono ?_;rintro e w5 ⟨v,rfl,n1,n2⟩;have ik:Below w.heap.size w w5:=(Bw:Below w.heap.size w _).trans (n2.mono Mcq);have p4:w5.cell? ⟨b,4,none⟩=some (.map (some wl)):=(zah ik cW).trans c4;have q4:w5.cell? ⟨w.heap.size,4,none⟩=some (.slice B ts.length c):=(zah n2 Mcq).trans McQ;have iY:=n2.size;simp only[World.size_drew,World.size_alloc]at iY;obtain⟨VA,vc,rfl,ka,eb⟩:=n1.ro;obtain⟨m,k7,k8⟩:=(HP.o.keep ik).wills;obtain⟨es,ec,hx⟩:=zbw k7;have fA:=HP.o.ge;have bS:=k7.at.lt;have Ld:wl<w.heap.size:=by
    obtain⟨m0,k70,_⟩:=HP.o.wills;exact k70.at.lt
   have aZ:b≠wl:=fun e=>by
    subst e;have h1:=HC.o.keep ik;unfold WldC at h1;rw[h1]at hx;simp at hx
   have nW:=zHi eb;have K7:=zHi k7;have K8:=zHi k8;have HX:=zHi hx;have bi:=zHi ik;clear n1 n2 eb k7 k8 hx ik;refine hK.out _ _ ?_ (fun hHeld=> ?_);focus((try dsimp only);refine⟨?_,?_⟩<;>assumption)
   clear hK K;try simp only[Act.put,List.setIfInBounds_toArray,List.set_cons_zero,List.set_cons_succ]
   refine OnH 8 fun K hK=> ?_
   obtain⟨w6,hrun,iT,bG,kA⟩:=zcu mapSP K7.o fr (.slice VA (zap ts).length vc);refine zdc rfl _ _ _ rfl _ _ _ rfl rfl rfl w6 hrun ?_;have p6:w6.cell? ⟨b,4,none⟩=some (.map (some wl)):=(zbb bG Mcn aZ).trans p4;have q6:w6.cell? ⟨w.heap.size,4,none⟩=some (.slice B ts.length c):=(zbb bG Mcn Mcn).trans q4;have uJ:=zHi iT;have jP:=zHi bG;clear iT bG hrun;refine hK.out _ _ ?_ (fun hHeld=> ?_);focus((try dsimp only);refine⟨?_,?_⟩<;>assumption)
   clear hK K;try simp only[Act.put,List.setIfInBounds_toArray,List.set_cons_zero,List.set_cons_succ]
   refine wpAnyH_done Mco ?_ _;go_wp2_with fail
   go_ret
   have hX:=ji.o;simp only[Bool.false_eq_true,if_false]at hX;rw[hX];refine⟨rfl,zmX aY (HC.o.keep bi.o) (HT.o.keep bi.o) jP.o HX.o rfl (ppl_will (HP.o.keep bi.o) jP.o uJ.o fun n=> ?_),zaS (bi.o.mono Mcn) jP.o fA.2.2.2.1 Mcn,(KeepD.below bi.o).trans (KeepD.map jP.o HX.o)⟩;rw[zfV];unfold WillIs;rw[zfl];have KV:zaf n fr=zaf fr n:=by rw[Bool.eq_iff_iff,za2,za2];exact⟨Eq.symm,Eq.symm⟩
   rw[KV];cases hn:zaf fr n
   ·exact(K8.o n).keptM jP.o HX.o
   ·exact .inr ⟨VA,vc,rfl,nW.o.keptM jP.o HX.o⟩
 ·exact Mam
theorem zlK (base b:Nat) (s:St) (la co:Int) (d:Deed) (B:Option Addr) (c:Nat) (w:World) (hW:WldAt base w b s la co) (hd:OkD d) (hk:d.kind=5) (au:d.to.length<=c) (hS:Sl w 3 RPart.cells B d.to):
 Calls Tryz.prog 143 #[.pointer (some ⟨b,0,none⟩),d.v B c] w (zbF base b (zb9 s d) la co w):=by
 obtain⟨aR,_⟩:=hd.one (.inl hk);obtain⟨q,hq⟩: ∃q,d.to=[q]:=List.length_eq_one_iff.1 aR;have fM:zbf d=q.name:=by unfold zbf;rw[hq];rfl
 obtain⟨b',off,rfl,cJ,aV⟩:=hS.at (show 0<d.to.length by rw[hq];exact Nat.zero_lt_one);have i0:w.cell? ⟨b',off,none⟩=some (.string q.name):=by
  exact Mbb
 have py:1<=c:=by rw[hq]at au;exact au
 clear hd aR aV hS au;have ao:=hW;obtain⟨Bk,dd,cc,pp,wl,rr,mv,tv,ps,aY,hC,hP,hT⟩:=hW;have cW:=zab hC;obtain⟨kd,dy,pl,fr,ts,cl,yr⟩:=d;simp only at*;subst hq hk;have ji:Hid (zb9 s ⟨5,dy,pl,fr,[q],cl,yr⟩=if zaK s fr||zaK s q.name then(s,28)else if s.renounce.any (fun r=>zaf r.1 fr&&zaf r.2 q.name)then(s,5)else({s with renounce:=s.renounce++[(fr,q.name)]},0)):=by
  show _=_;unfold zb9;rw[fM]
 generalize zb9 s ⟨5,dy,pl,fr,[q],cl,yr⟩=X at*;have HC:=zHi hC;have HP:=zHi hP;have HT:=zHi hT;have HW:=zHi ao;unfold WldC at hC;obtain⟨c0,-,-,-,-,c5⟩:=cF6 hC;have dN: ∀W:World,Below w.heap.size w W-> ∀n,(Instr.lookup 133 (.map (some dd)) (.string n) false).run Tryz.prog W= .ok (.bool (zaK s n)) W:=fun W hB n=>zdb (HP.o.keep hB) _
 have dp: ∀W:World,Below w.heap.size w W->(Instr.lookup 136 (.map (some rr)) (.agg #[.string fr, .string q.name]) false).run Tryz.prog W= .ok (.bool (s.renounce.any fun r=>zaf r.1 fr&&zaf r.2 q.name)) W:=fun W hB=>znP (HP.o.keep hB) _ _
 have tR:=ziJ (eq:=eqP) (k:=(fr,q.name)) (l:=s.renounce);rw[zmF]at tR;have ie:=zHi dN;have fZ:=zHi dp;have If:=zHi tR;clear dN dp tR hC hP hT ao fM;unfold Deed.v;simp only;obtain⟨W1,aM⟩: ∃W1,W1=w.alloc (.cells #[.int .i64 5, .int .i64 dy, .string pl, .string fr, .slice (some ⟨b',off,none⟩) 1 c, .int .i64 cl, .int .i64 yr] 52):=⟨_,rfl⟩
 have bY:Below w.heap.size w W1:=Md3;have k1:=ie.o W1 bY fr;have k2:=ie.o W1 bY q.name;have k3:=fZ.o W1 bY;have xU:=(HP.o.keep bY).ren;have aA:=zHi bY;rw[aM]at k1 k2 k3;have uU:=zHi xU;have te:=zHi aM;clear xU bY aM;generalize zaK s fr=d1 at*;generalize zaK s q.name=d2 at*;generalize(s.renounce.any fun r=>zaf r.1 fr&&zaf r.2 q.name)=rx at*;have aq:(0:Int)<(1:Int):=Mcp;go_enter Tryz.func143,Tryz.ntmps143
 cases d1
 ·cases d2
  ·cases rx
   ·obtain⟨es,ec,hx⟩:=zbw uU.o;have HX:=zHi hx;clear hx;go_wp2_with (at_mapUpdate;obtain⟨w6,hrun,iT,bG,kA⟩:=zcu mapPB uU.o (fr,q.name) true;rw[te.o]at hrun;go_loud(refine zdk rfl _ _ _ rfl _ _ _ rfl rfl rfl w6 hrun ?_))
    go_ret
    have hX:=ji.o;simp only[Bool.or_self,Bool.false_eq_true,if_false]at hX;rw[hX];have fA:=HP.o.ge;have sr:MapS w6 rr ekP evB ((s.renounce++[(fr,q.name)]).map fun x=>(x,true)):=by
     rw[zkA (If.o (by first|rfl|trivial))]at iT;simpa using iT
    have aE:=HW.o.lt;exact⟨rfl,zmX aY (HC.o.keep aA.o) (HT.o.keep aA.o) bG HX.o rfl (ppl_ren (HP.o.keep aA.o) bG sr),zaS (aA.o.mono Mcn) bG fA.2.2.2.2 Mcn,(KeepD.below aA.o).trans (KeepD.map bG HX.o)⟩
   ·exact Mam
  ·exact Mam
 ·exact Mam
theorem zmY {w:World} {b:Nat} {p:ByteArray×ByteArray} {t:TypeId} {fr:Nat×Nat} (h:w.heap[b]?=some (.cells #[.string p.1, .string p.2] t fr)):Sl w 2 zaT (some ⟨b,0,none⟩) [p]:=fun _=>⟨b,0,rfl,zab h,fun k y hy j u hu=>by
 have hk:k=0:=Mcz;subst hk;simp only[List.getElem?_cons_zero,Option.some.injEq]at hy;subst hy;match j,hu with
 |0,hu=>simp[zaT]at hu;simp[World.cell?,h,<-hu]
 |1,hu=>simp[zaT]at hu;simp[World.cell?,h,<-hu]
 |j+2,hu=>simp[zaT]at hu⟩
theorem marry_any (base b:Nat) (s:St) (la co:Int) (d:Deed) (B:Option Addr) (c:Nat) (w:World) (hW:WldAt base w b s la co) (hd:OkD d) (hk:d.kind=7) (au:d.to.length<=c) (hS:Sl w 3 RPart.cells B d.to) (fh:s.marriages.length<=1000):
 Calls Tryz.prog 143 #[.pointer (some ⟨b,0,none⟩),d.v B c] w (zbF base b (zdr s d) la co w):=by
 obtain⟨aR,_⟩:=hd.one (.inr (.inr hk));obtain⟨q,hq⟩: ∃q,d.to=[q]:=List.length_eq_one_iff.1 aR;have fM:zbf d=q.name:=by unfold zbf;rw[hq];rfl
 obtain⟨b',off,rfl,cJ,aV⟩:=hS.at (show 0<d.to.length by rw[hq];exact Nat.zero_lt_one);have i0:w.cell? ⟨b',off,none⟩=some (.string q.name):=by
  exact Mbb
 have py:1<=c:=by rw[hq]at au;exact au
 clear hd aR aV hS au;have ao:=hW;obtain⟨Bk,dd,cc,pp,wl,rr,mv,tv,ps,aY,hC,hP,hT⟩:=hW;have cW:=zab hC;obtain⟨kd,dy,pl,fr,ts,cl,yr⟩:=d;simp only at*;subst hq hk;have ji:Hid (zdr s ⟨7,dy,pl,fr,[q],cl,yr⟩=if zaK s fr||zaK s q.name then(s,28)else if !noB (zaJ s fr)||!noB (zaJ s q.name)then(s,13)else({s with marriages:=s.marriages++[(fr,q.name)]},0)):=by
  show _=_;unfold zdr;rw[fM]
 generalize zdr s ⟨7,dy,pl,fr,[q],cl,yr⟩=X at*;obtain⟨MA,mc,rfl,_,_⟩:=hP.marr.sl zbi;have xw:=hP.marr.ge;have HC:=zHi hC;have HP:=zHi hP;have HT:=zHi hT;have HW:=zHi ao;unfold WldC at hC;obtain⟨c0,-,-,c3⟩:=cF4 hC;have f3:w.frozen? ⟨b,3,none⟩=false:=by simp only[World.frozen?,hC];rfl
 have dN: ∀W:World,Below w.heap.size w W-> ∀n,(Instr.lookup 133 (.map (some dd)) (.string n) false).run Tryz.prog W= .ok (.bool (zaK s n)) W:=fun W hB n=>zdb (HP.o.keep hB) _
 have fS:=dN (w.alloc (.cells #[.int .i64 7, .int .i64 dy, .string pl, .string fr, .slice (some ⟨b',off,none⟩) 1 c, .int .i64 cl, .int .i64 yr] 52)) Bw fr;have pH:=dN (w.alloc (.cells #[.int .i64 7, .int .i64 dy, .string pl, .string fr, .slice (some ⟨b',off,none⟩) 1 c, .int .i64 cl, .int .i64 yr] 52)) Bw q.name;have jh:=zHi (fun W (hB:Below w.heap.size w W) n=>zjH base b s n W (ao.peo.keep hB) Mcn);have Id:=zHi xw;clear dN hC hP hT ao fM xw;unfold Deed.v;simp only;generalize zaK s fr=d1 at*;generalize zaK s q.name=d2 at*;have aq:(0:Int)<(1:Int):=Mcp;go_enter Tryz.func143,Tryz.ntmps143
 cases d1
 ·cases d2
  ·cases cB:noB (zaJ s fr)
   ·have e1:(zaJ s fr).toList.isEmpty=false:=cB;rw[cB]at ji;exact Ma1
   ·cases dZ:noB (zaJ s q.name)
    ·have e1:(zaJ s fr).toList.isEmpty=true:=cB;have e2:(zaJ s q.name).toList.isEmpty=false:=dZ;rw[cB,dZ]at ji;exact Ma1
    ·have e1:(zaJ s fr).toList.isEmpty=true:=cB;have e2:(zaJ s q.name).toList.isEmpty=true:=dZ;rw[cB,dZ]at ji
     go_wp2_with (first
      |(go_at_call 99;refine(jh.o _ Bw _).mono ?_;rintro e wq ⟨rfl,z,rfl⟩)
      |(at_builtin
        go_loud(refine za1 (v:= .slice MA s.marriages.length mc) (n:=s.marriages.length) (m:=1) rfl _ _ rfl zg1 zbi zdC rfl (HP.o.marr.keep (n:=w.heap.size) Bw) rfl rfl rfl (zmY (p:=(fr,q.name)) (zar _ _ _ Mdv)) McL Mcn (by have:=HW.o.lt;simp[zae];omega) ?_)
        intro v3 w3 h1 h2 h3;obtain⟨A6,c6,dA,_,_⟩:=h1.sl zbi;rw[List.length_append]at dA;subst dA;obtain⟨hA,zn⟩:=wld_marry aY (HC.o.keep (n:=w.heap.size) Bw) (HP.o.keep (n:=w.heap.size) Bw) (HT.o.keep (n:=w.heap.size) Bw) h1 h2;have zo:=zn;unfold WldC at zo;obtain⟨-,-,-,c33⟩:=cF4 zo;have f33:w3.frozen? ⟨b,3,none⟩=false:=by simp only[World.frozen?,zo];rfl
        have ay:=zab zn;have H2:=zHi h2;have HA:=zHi hA;have bQ:=((KeepD.below (w:=w) Bw).trans (KeepD.own (HP.o.marr.keep (n:=w.heap.size) Bw) h2 Mcp)).trans (KeepD.cells (zaz w3 b 3 (.slice A6 (s.marriages.length+[(fr,q.name)].length) c6)) zn Mcp);have jQ:=zHi bQ
        clear h1 h2 h3 hA zn zo bQ))
     go_ret
     have hX:=ji.o;simp only[Bool.or_self,Bool.not_true,Bool.false_eq_true,if_false]at hX;rw[hX];have aE:=HW.o.lt;exact⟨rfl,HA.o,zaM (Below.grown (a:=w) (B:=base) Bw H2.o Mcw (fun j hj=>(Id.o j hj).1)) (by show base<=b;omega) _,jQ.o⟩
  ·exact Mam
 ·exact Mam
end Go.Proofs.YtjhbofabmpfniaaGreatDoor

/- Walks of circle and tooMuch at few records: none about a child; at most one that holds a share. -/
import Derived.Test.YtjhbofabmpfniaaGreatDoorE3
import Derived.Test.YtjhbofabmpfniaaGreatDoorE6
set_option linter.unusedSimpArgs false
set_option linter.unusedVariables false
set_option maxRecDepth 100000
set_option maxHeartbeats 4000000
namespace Go.Proofs.YtjhbofabmpfniaaGreatDoor
open Go.RowKit Go.Shelf
attribute [local go_sem] World.cell?_alloc_mark zae za3 zam za6 zas zat zau zav zaw zax zay
attribute [local go_sem] zaj zac
structure Fr2 (w W:World) (va vb:Value):Prop where
 os:W.os=w.os
 tape:W.tape=w.tape
 output:W.output=w.output
 size:w.heap.size<=W.heap.size
 block: ∀k,k<w.heap.size->zaA va≠some k->zaA vb≠some k->W.heap[k]?=w.heap[k]?
section
variable {w W W':World} {va vb:Value} {n:Nat}
theorem Fr2.of_below (h:Below w.heap.size w W):Fr2 w W va vb:=⟨h.os,h.tape,h.output,h.size,fun k hk _ _=>h.block k hk⟩
theorem Fr2.below (h:Fr2 w W va vb) (k:Below W.heap.size W W'):Fr2 w W' va vb:=⟨k.os.trans h.os,k.tape.trans h.tape,k.output.trans h.output,Nat.le_trans h.size k.size,fun i hi h1 h2=>(k.block i (Nat.lt_of_lt_of_le hi h.size)).trans (h.block i hi h1 h2)⟩
theorem Fr2.row (h:Fr2 w W va vb) {row:Option Nat} (k:W.grownBy W' row) (hr: ∀j,row=some j->zaA va=some j\/zaA vb=some j\/w.heap.size<=j):Fr2 w W' va vb:=
 ⟨k.os.trans h.os,k.tape.trans h.tape,k.output.trans h.output,Nat.le_trans h.size k.size,fun i hi h1 h2=>(k.block i (Nat.lt_of_lt_of_le hi h.size) (fun e=>by
   rcases hr i e.symm with h|h|h
   ·exact h1 h
   ·exact h2 h
   ·omega)).trans (h.block i hi h1 h2)⟩
theorem Fr2.cells {base:Nat} {xs ys:List ByteArray} (h:Fr2 w W va vb) (ha:OwnS w base 9 1 sC va xs) (hb:OwnS w base 9 1 sC vb ys) {k:Nat} {o:Obj} (hk:w.heap[k]?=some o) (ho: ∀cur,o≠ .cells cur 9 (0,0)):W.heap[k]?=some o:=by
 refine(h.block k (Array.getElem?_eq_some_iff.1 hk).1 (fun e=> ?_) (fun e=> ?_)).trans hk
 ·obtain⟨cur,h'⟩:=zfu ha e;rw[h']at hk;exact ho cur (Option.some.inj hk).symm
 ·obtain⟨cur,h'⟩:=zfu hb e;rw[h']at hk;exact ho cur (Option.some.inj hk).symm
theorem Fr2.mapS {base:Nat} {xs ys:List ByteArray} (h:Fr2 w W va vb) (ha:OwnS w base 9 1 sC va xs) (hb:OwnS w base 9 1 sC vb ys) {b:Nat} {m:List (ByteArray×Value)} (hm:MapS w b ekS (fun v:Value=>v) m):MapS W b ekS (fun v:Value=>v) m:=by
 obtain⟨es,c,hx⟩:=zbw hm;exact hm.keep ((h.cells ha hb hx (fun cur e=>by cases e)).trans hx.symm)
end
theorem zhk {P:Program} {ops:Array Oper} {o:Oper} {a:Act} {w:World} {K:Act->World->Prop} {Q:Exit->Act->World->Prop} {E:Prop} {T:TypeId} (bP:o.guard=none) (x i:Operand) (ho:o.op= .mapEntry T x i) (vx vi v:Value) (hx:a.eval x=vx) (hi:a.eval i=vi) (w':World)
 (hrun:(Instr.mapEntry T vx vi).run P w= .ok v w') (h:K (a.put o.dst v) w'):if Region.wanted o (yielded ops a.tmps)=true then Oper.wp P o a w K Q else E:=by
 have hw:Region.wanted o (yielded ops a.tmps)=true:=by simp[Region.wanted,bP]
 rw[if_pos hw];unfold Oper.wp;simp[execOp,ho,hx,hi,hrun,Result.andThen];exact h
theorem zgd {P:Program} {ops:Array Oper} {o:Oper} {a:Act} {w:World} {K:Act->World->Prop} {Q:Exit->Act->World->Prop} {E:Prop} {T:TypeId} (bP:o.guard=none) (x i u:Operand) (ho:o.op= .entryStore T x i u) (vx vi vu:Value) (hx:a.eval x=vx) (hi:a.eval i=vi) (hu:a.eval u=vu) (w':World)
 (hrun:(Instr.entryStore T vx vi vu).run P w= .ok () w') (h:K (a.put o.dst undef) w'):if Region.wanted o (yielded ops a.tmps)=true then Oper.wp P o a w K Q else E:=by
 exact Mad
theorem child_any (base b:Nat) (s:St) (la co:Int) (d:Deed) (B:Option Addr) (c:Nat) (w:World) (hW:WldAt base w b s la co) (hd:OkD d) (hk:d.kind=6) (au:d.to.length<=c) (hS:Sl w 3 RPart.cells B d.to) (bm:s.children.length<=1000):
 Calls Tryz.prog 143 #[.pointer (some ⟨b,0,none⟩),d.v B c] w (zbF base b (zcD s d) la co w):=by
 obtain⟨aR,_⟩:=hd.one (.inr (.inl hk));obtain⟨q,hq⟩: ∃q,d.to=[q]:=List.length_eq_one_iff.1 aR;have fM:zbf d=q.name:=by unfold zbf;rw[hq];rfl
 obtain⟨b',off,rfl,cJ,aV⟩:=hS.at (show 0<d.to.length by rw[hq];exact Nat.zero_lt_one);have i0:w.cell? ⟨b',off,none⟩=some (.string q.name):=by
  exact Mbb
 have py:1<=c:=by rw[hq]at au;exact au
 clear hd aR aV hS au;have ao:=hW;obtain⟨Bk,dd,cc,pp,wl,rr,mv,tv,ps,aY,hC,hP,hT⟩:=hW;have cW:=zab hC;obtain⟨kd,dy,pl,fr,ts,cl,yr⟩:=d;simp only at*;subst hq hk;classical
 have ji:Hid (zcD s ⟨6,dy,pl,fr,[q],cl,yr⟩=if(zai s fr).any (zaf q.name)then(s,5)else if decide (2<=(zbR s q.name).length)then(s,16)else if decide (Desc s q.name fr)then(s,25)else({s with children:=s.children++[(fr,q.name)]},0)):=by
  show _=_;unfold zcD;rw[fM]
 generalize zcD s ⟨6,dy,pl,fr,[q],cl,yr⟩=X at*;have HC:=zHi hC;have HP:=zHi hP;have HT:=zHi hT;have HW:=zHi ao;have bR:(zai s fr).length<=1000:=by
  have:(zai s fr).length<=s.children.length:=by unfold zai;rw[List.length_map];exact List.length_filter_le _ _
  omega
 have pT:(zbR s q.name).length<=1000:=by
  have:(zbR s q.name).length<=s.children.length:=by unfold zbR;rw[List.length_map];exact List.length_filter_le _ _
  omega
 unfold WldC at hC;obtain⟨-,c1,c2⟩:=cF3 hC;obtain⟨mc,mp,r1,r2,r3,r4,r5,r6⟩:=HP.o.rows;obtain⟨KA,kc,cj,rh,BZ⟩:=row_own (r3 fr);obtain⟨QA,qc,cy,Fi,oh⟩:=row_own (r4 q.name);have dN: ∀W,Below w.heap.size w W->(Instr.lookup 134 (.map (some cc)) (.string fr) false).run Tryz.prog W= .ok (.slice KA (zai s fr).length kc) W:=fun W hB=>by
  have:=zb3 zmE (r1.below hB).at fr;rw[<-cj];exact this
 have dp: ∀W,Below w.heap.size w W->(Instr.lookup 134 (.map (some pp)) (.string q.name) false).run Tryz.prog W= .ok (.slice QA (zbR s q.name).length qc) W:=fun W hB=>by
  have:=zb3 zmE (r2.below hB).at q.name;rw[<-cy];exact this
 have im:Sl w 1 sC KA (zai s fr):=by
  obtain⟨A,c',e,h,_⟩:=rh.sl zaD;simp only[Value.slice.injEq]at e;rw[e.1];exact h
 have HK:=zHi im
 have cL:=zHi (fun(W:World) (hM:MapS W cc ekS (fun v:Value=>v) mc)=>show(Instr.lookup 134 (.map (some cc)) (.string fr) false).run Tryz.prog W= .ok (.slice KA (zai s fr).length kc) W from by
  have:=zb3 zmE hM.at fr;rw[<-cj]
  exact this)
 have AU:=zHi (fun(W:World) (hM:MapS W pp ekS (fun v:Value=>v) mp)=>show(Instr.lookup 134 (.map (some pp)) (.string q.name) false).run Tryz.prog W= .ok (.slice QA (zbR s q.name).length qc) W from by
  have:=zb3 zmE hM.at q.name;rw[<-cy]
  exact this)
 have cG: ∀g,zaA (.slice KA (zai s fr).length kc)=some g->zaA (.slice QA (zbR s q.name).length qc)≠some g:=fun g h1 h2=>by
  have h3:=r6.1;rw[r5,zc2,List.nodup_append]at h3;exact h3.2.2 g (zde.2 ⟨_,zcZ (BZ g h1),h1⟩) g (zde.2 ⟨_,zcZ (oh g h2),h2⟩) rfl
 have fD:=zHi cG;clear cG;have fO:=zHi rh;have df:=zHi Fi;have yQ:=zHi BZ;have fN:=zHi oh;have jS:=zHi r1;have br:=zHi r2;have lP:=zHi r3;have Ir:=zHi r4;have yZ:=zHi r5;have sZ:=zHi r6;have Eg:=zHi dN;have fZ:=zHi dp;have jO:=zHi (fun W (hB:Below w.heap.size w W)=>zhw base b s fr q.name W (ao.peo.keep hB) Mcn);obtain⟨W1,aM⟩: ∃W1,W1=w.alloc (.cells #[.int .i64 6, .int .i64 dy, .string pl, .string fr, .slice (some ⟨b',off,none⟩) 1 c, .int .i64 cl, .int .i64 yr] 52):=⟨_,rfl⟩
 have bY:Below w.heap.size w W1:=Md3;have k1:=Eg.o W1 bY;have k2:=fZ.o W1 bY;have lA:=zHi (zlt (zai s fr) q.name KA (zai s fr).length kc W1 rfl Mcn (HK.o.keep bY));rw[aM]at k1 k2 lA;have te:=zHi aM;clear hC hP hT ao fM dN dp im bY aM rh Fi BZ oh cj cy r1 r2 r3 r4 r5 r6;unfold Deed.v;simp only;have aq:(0:Int)<(1:Int):=Mcp;generalize iR:zai s fr=ks at*;generalize eA:zbR s q.name=pz at*;generalize decide (Desc s q.name fr)=dz at*;generalize ks.any (zaf q.name)=az at*;have ic:=zHi iR;have kO:=zHi eA;clear iR eA;go_enter Tryz.func143,Tryz.ntmps143
 cases az
 ·by_cases h2:2<=pz.length
  ·have IV:(2:Int)<=(pz.length:Int):=Mcn;have H2:=zHi h2;clear h2;go_wp2_with (go_at_call 106;refine lA.o.mono ?_;rintro e wq ⟨rfl,rfl⟩)
   go_ret
   exact zbP HW.o Bw (by rw[ji.o];simp[H2.o])
  ·have IV: ¬(2:Int)<=(pz.length:Int):=Mcn;have H2:=zHi h2;clear h2;cases dz
   ·go_upto_region 17 with(first
     |(go_at_call 106;refine lA.o.mono ?_;rintro e wq ⟨rfl,rfl⟩)
     |(go_at_call 105;refine(jO.o _ Bw).mono ?_;rintro e wq ⟨rfl,z,rfl⟩))
    have KD:=Eg.o (W1.ext z) (by rw[te.o];exact Bw);have KE:=fZ.o (W1.ext z) (by rw[te.o];exact Bw);have eW:Below w.heap.size w (W1.ext z):=by rw[te.o];exact Bw
    have cz1:=(zah (o:=1) eW cW).trans c1;have cz2:=(zah (o:=2) eW cW).trans c2;rw[<-te.o];generalize W1.ext z=WZ at*;have fF:=zHi eW;have fG:=eW.size;have iJ:=zHi (Fr2.of_below (va:= .slice KA ks.length kc) (vb:= .slice QA pz.length qc) eW)
    have aG:=zHi (fun(W:World) (h:Fr2 w W (.slice KA ks.length kc) (.slice QA pz.length qc))=>show(false=true\/(W.cell? ⟨b,1,none⟩=some (.map (some cc))/\W.cell? ⟨b,2,none⟩=some (.map (some pp))/\(Instr.lookup 134 (.map (some cc)) (.string fr) false).run Tryz.prog W= .ok (.slice KA ks.length kc) W/\(Instr.lookup 134 (.map (some pp)) (.string q.name) false).run Tryz.prog W= .ok (.slice QA pz.length qc) W)) from by
     have cI:=HC.o;unfold WldC at cI;have od:=h.cells fO.o df.o cI (fun cur e=>by simp at e)
     exact .inr ⟨by simp only[World.cell?,od];rfl,by simp only[World.cell?,od];rfl,cL.o W (h.mapS fO.o df.o jS.o),AU.o W (h.mapS fO.o df.o br.o)⟩)
    clear eW;refine zaC 28 (fun bb w'=>bb=true\/(w'.cell? ⟨b,1,none⟩=some (.map (some cc))/\w'.cell? ⟨b,2,none⟩=some (.map (some pp))/\(Instr.lookup 134 (.map (some cc)) (.string fr) false).run Tryz.prog w'= .ok (.slice KA ks.length kc) w'/\(Instr.lookup 134 (.map (some pp)) (.string q.name) false).run Tryz.prog w'= .ok (.slice QA pz.length qc) w')) Mco ?hS ?hrest
    case hS=>exact aG.o _ (iJ.o.below Bw)
    case hrest=>
     intro hHeld;refine TkM 0 ?_;refine TkM 1 ?_;refine TkM 2 ?_;refine TkM 3 ?_;refine TkM 4 ?_;refine TkM 5 ?_;refine TkM 6 ?_;refine TkM 7 ?_;refine TkM 8 ?_;refine FrM 9 false ?_;refine TkM 10 ?_;refine TkM 11 ?_;refine TkM 12 ?_;refine TkM 13 ?_;refine TkM 14 ?_;refine TkM 15 ?_;refine TkM 16 ?_;refine TkM 19 ?_;refine TkM 20 ?_;refine TkM 21 ?_;refine TkM 22 ?_;refine TkM 23 ?_;refine TkM 24 ?_;refine TkM 25 ?_;refine TwM 17 26 (fun K hK=> ?_) fun K hK=> ?_
     ·go_simp
      refine NxM hK (fun hHeld=> ?_) (aG.o _ (iJ.o.below Bw));clear hK K;refine TwM 18 26 (fun K hK=> ?_) fun K hK=> ?_
      ·refine zak (v:= .slice KA ks.length kc) (n:=ks.length) (m:=1) rfl _ _ rfl zbL zaD zbK rfl (xs:=ks) (ys:=[q.name]) (fO.o.keep (fF.o.trans ((Bw:Below WZ.heap.size WZ _).mono fG))) rfl rfl rfl (zdj Mc2) McL Mcn (by have:=HW.o.lt;simp;omega) ?_;intro v3 w3 h1 h2 h3;obtain⟨A6,c6,dA,_,_⟩:=h1.sl zaD;rw[List.length_append]at dA;subst dA;have FR3:Fr2 w w3 (.slice KA ks.length kc) (.slice QA pz.length qc):=(iJ.o.below Bw).row h2 (fun j hj=> .inl hj)
       have ob3:OwnS w3 base 9 1 sC (.slice QA pz.length qc) pz:=(df.o.keep (fF.o.trans ((Bw:Below WZ.heap.size WZ _).mono fG))).grown h2 (by
        cases hb:zaA (.slice QA pz.length qc)with
        |none=>exact .inl rfl
        |some g=>exact .inr fun e=>fD.o g e.symm hb)
       have s3:=h2.size;simp only[World.size_alloc,World.size_drew]at s3 h3;refine NxM hK (fun hHeld=> ?_) (aG.o _ FR3);clear hK K;refine OnM 26 false fun K hK=> ?_
       go_simp
       refine NxM hK (fun hHeld=> ?_) (aG.o _ (FR3.below Bw));clear hK K;refine OnM 27 false fun K hK=> ?_
       refine zak (v:= .slice QA pz.length qc) (n:=pz.length) (m:=1) rfl _ _ rfl zbL zaD zbK rfl (xs:=pz) (ys:=[fr]) (ob3.keep (n:=w3.heap.size) Bw) rfl rfl rfl (zdj (Mc2)) McL Mcn (by have:=HW.o.lt;(try simp);omega) ?_;exact Ma
      ·go_simp
       refine NxM hK (fun hHeld=> ?_) (aG.o _ (iJ.o.below Bw));clear hK K;refine OnM 18 false fun K hK=> ?_
       refine zak (v:= .slice KA ks.length kc) (n:=ks.length) (m:=1) rfl _ _ rfl zbL zaD zbK rfl (xs:=ks) (ys:=[q.name]) (fO.o.keep (fF.o.trans ((Bw:Below WZ.heap.size WZ _).mono fG))) rfl rfl rfl (zdj Mc2) McL Mcn (by have:=HW.o.lt;simp;omega) ?_;intro v3 w3 h1 h2 h3;obtain⟨A6,c6,dA,_,_⟩:=h1.sl zaD;rw[List.length_append]at dA;subst dA;have FR3:Fr2 w w3 (.slice KA ks.length kc) (.slice QA pz.length qc):=(iJ.o.below Bw).row h2 (fun j hj=> .inl hj)
       have ob3:OwnS w3 base 9 1 sC (.slice QA pz.length qc) pz:=(df.o.keep (fF.o.trans ((Bw:Below WZ.heap.size WZ _).mono fG))).grown h2 (by
        cases hb:zaA (.slice QA pz.length qc)with
        |none=>exact .inl rfl
        |some g=>exact .inr fun e=>fD.o g e.symm hb)
       have s3:=h2.size;simp only[World.size_alloc,World.size_drew]at s3 h3;have x2:w3.heap[WZ.heap.size+1]?=some (.cells #[.string fr] 9):=(h2.block _ Mcq (fun e=>by have:=(fO.o.ge _ e.symm).2;omega)).trans (zar _ _ _ Mcq);exact MbZ
     ·go_simp
      refine NxM hK (fun hHeld=> ?_) (aG.o _ (iJ.o.below Bw));clear hK K;refine OnM 17 false fun K hK=> ?_
      go_simp
      refine NxM hK (fun hHeld=> ?_) (aG.o _ (iJ.o.below Bw));clear hK K;refine OnM 18 false fun K hK=> ?_
      refine zak (v:= .slice KA ks.length kc) (n:=ks.length) (m:=1) rfl _ _ rfl zbL zaD zbK rfl (xs:=ks) (ys:=[q.name]) (fO.o.keep (fF.o.trans ((Bw:Below WZ.heap.size WZ _).mono fG))) rfl rfl rfl (zdj Mc2) McL Mcn (by have:=HW.o.lt;simp;omega) ?_;intro v3 w3 h1 h2 h3;obtain⟨A6,c6,dA,_,_⟩:=h1.sl zaD;rw[List.length_append]at dA;subst dA;have FR3:Fr2 w w3 (.slice KA ks.length kc) (.slice QA pz.length qc):=(iJ.o.below Bw).row h2 (fun j hj=> .inl hj)
      have ob3:OwnS w3 base 9 1 sC (.slice QA pz.length qc) pz:=(df.o.keep (fF.o.trans ((Bw:Below WZ.heap.size WZ _).mono fG))).grown h2 (by
       cases hb:zaA (.slice QA pz.length qc)with
       |none=>exact .inl rfl
       |some g=>exact .inr fun e=>fD.o g e.symm hb)
      have s3:=h2.size;simp only[World.size_alloc,World.size_drew]at s3 h3;have x2:w3.heap[WZ.heap.size]?=some (.cells #[.string fr] 9):=(h2.block _ Mcr (fun e=>by have:=(fO.o.ge _ e.symm).2;omega)).trans (zal (zar _ _ _ rfl));exact MbZ
   ·go_wp2_with (first
     |(go_at_call 106;refine lA.o.mono ?_;rintro e wq ⟨rfl,rfl⟩)
     |(go_at_call 105;refine(jO.o _ Bw).mono ?_;rintro e wq ⟨rfl,z,rfl⟩))
    go_ret
    exact zbP HW.o Bw (by rw[ji.o];simp[H2.o])
 ·go_wp2_with (go_at_call 106;refine lA.o.mono ?_;rintro e wq ⟨rfl,rfl⟩)
  go_ret
  exact zbP HW.o Bw (by rw[ji.o];simp)
end Go.Proofs.YtjhbofabmpfniaaGreatDoor
namespace Go.Proofs.YtjhbofabmpfniaaGreatDoor
open Go.RowKit
def zc6 (n:ByteArray) (day:Int) (g:Grave):Bool:=zaU g day&&decide (0<(zag g.holders n).num)
theorem zkF {q:Rat}:0<q↔0<q.num:=by rw[Rat.lt_iff];simp
theorem held_same {s:St} {last day:Int} {n:ByteArray} {i:Nat} {g:Grave} (hG:GoodSt s last) (hl:last<=day) (hi:s.graves[i]?=some g):zds s n day i g=zc6 n day g:=by
 have ba:=hG.graves g (List.mem_of_getElem? hi);have hn:=zbA ba.good n;have h1:(zag g.holders n != 0)=decide (0<(zag g.holders n).num):=by
  rw[Bool.eq_iff_iff,bne_iff_ne,decide_eq_true_eq,<-zkF];constructor
  ·intro h;exact Rat.lt_of_le_of_ne hn (fun e=>h e.symm)
  ·intro h e;rw[e]at h;exact absurd h Mcp
 have h2:(zaO s g.place day==some i)=zaU g day:=by
  cases hf:zaU g day
  ·cases hx:zaO s g.place day with
   |none=>rfl
   |some j=>
    obtain⟨gj,h3,h4,h5⟩:=zbJ hx;cases ck:(some j==some i)
    ·rfl
    ·have e:j=i:=by simpa using ck
     subst e;rw[h3]at hi;simp only[Option.some.injEq]at hi;rw[hi,hf]at h5;cases h5
  ·cases hx:zaO s g.place day with
   |none=>
    have:=zhr hx g (List.mem_of_getElem? hi) rfl;rw[hf]at this;cases this
   |some j=>
    obtain⟨gj,h3,h4,h5⟩:=zbJ hx;have:=hG.force j i gj g h3 hi h4 day hl h5 hf;simp[this]
 unfold zds zc6;rw[h1,h2,Bool.and_comm]
def zd0 (n:ByteArray) (h:Parts) (g:Grave) (f:Bool):Parts×Bool:=zei (zag g.holders n) h (setP g.holders n 0,f)
def zfM (n:ByteArray) (day:Int) (h:Parts):List Grave->Bool->List Grave×Bool
 | [],f=>([],f)
 |g::l,f=>if zc6 n day g then(⟨g.place,g.cls,g.fin,(zd0 n h g f).1,g.died++[n]⟩::(zfM n day h l (zd0 n h g f).2).1,(zfM n day h l (zd0 n h g f).2).2)else(g::(zfM n day h l f).1,(zfM n day h l f).2)
theorem zgE {n:ByteArray} {day:Int} {h:Parts}: ∀ {l:List Grave} {f:Bool},f=true->(zfM n day h l f).2=true
 | [],_,hf=>hf
 |g::l,f,hf=>by
  rw[zfM];split
  ·exact zgE (zfj (by exact hf))
  ·exact zgE hf
theorem zlR {s:St} {n:ByteArray} {day:Int} {h:Parts} (hh: ∀p∈h,0<=p.2): ∀ {l:List Grave} {i:Nat},(∀j g,l[j]?=some g->zds s n day (i+j) g=zc6 n day g)->(∀g∈l,GoodG g)->
 (∀gs,zby s n day (some h) i l=some gs->zfM n day h l false=(gs,false))/\(zby s n day (some h) i l=none->(zfM n day h l false).2=true)
 | [],i,_,_=>by
   rw[zby,zfM];exact⟨fun gs e=>by cases e;rfl,fun e=>by cases e⟩
 |g::l,i,hq,hg=>by
  have ih:=zlR (s:=s) (n:=n) (day:=day) hh (l:=l) (i:=i+1) (fun j g' hj=>by
   have:=hq (j+1) g' Mev;rw[show i+1+j=i+(j+1) by omega]
   exact this) (fun g' h'=>hg g' (by simp[h']))
  have h0:=hq 0 g rfl;rw[Nat.add_zero]at h0;rw[zby,zfM,h0];have ba:=hg g Mcq;cases tL:zc6 n day g
  ·simp only[Bool.false_eq_true,if_false];refine⟨fun gs e=> ?_,fun e=> ?_⟩
   ·cases hd:zby s n day (some h) (i+1) l with
    |none=>rw[hd]at e;cases e
    |some r=>
     rw[hd]at e;simp only[Option.map_some,Option.some.injEq]at e;rw[ih.1 r hd,<-e]
   ·cases hd:zby s n day (some h) (i+1) l with
    |none=>exact ih.2 hd
    |some r=>rw[hd]at e;cases e
  ·simp only[if_true];have hz:setP g.holders n 0=za0 g.holders n:=zhG ba.good.asc n
   obtain⟨g1,g2⟩:=ziu (zbA ba.good n) hh (zbI ba.good (n:=n)) (by
    have h1:zaF (setP g.holders n 0)=false:=zeu ba.small Mcp;rw[<-hz]
    exact h1)
   have hy:zd0 n h g false=zei (zag g.holders n) h (za0 g.holders n,false):=by unfold zd0;rw[hz]
   rw[hy];cases dj:zb8 (zag g.holders n) h (za0 g.holders n)with
   |none=>
    have h3:=g2 dj;refine⟨fun gs e=>by simp at e,fun _=> ?_⟩;exact zgE h3
   |some o=>
    have h3:=g1 o dj;rw[h3];refine⟨fun gs e=> ?_,fun e=> ?_⟩
    ·cases hd:zby s n day (some h) (i+1) l with
     |none=>rw[hd]at e;cases e
     |some r=>
      rw[hd]at e;simp only[Option.bind_some,Option.map_some,Option.some.injEq]at e;rw[ih.1 r hd,<-e]
    ·cases hd:zby s n day (some h) (i+1) l with
     |none=>exact ih.2 hd
     |some r=>rw[hd]at e;cases e
theorem zlS {s:St} {n:ByteArray} {day:Int} {h:Option Parts}: ∀ {l:List Grave} {i:Nat},(∀j g,l[j]?=some g->zds s n day (i+j) g=zc6 n day g)->(l.any (zc6 n day)=false->zby s n day h i l=some l)/\(h=none->l.any (zc6 n day)=true->zby s n day h i l=none)
 | [],i,_=>by
   have e:zby s n day h i []=some []:=by simp[zby]
   rw[e];exact⟨fun _=>rfl,fun _ e=>by cases e⟩
 |g::l,i,hq=>by
  have ih:=zlS (s:=s) (n:=n) (day:=day) (h:=h) (l:=l) (i:=i+1) (fun j g' hj=>by
   have:=hq (j+1) g' Mev;rw[show i+1+j=i+(j+1) by omega]
   exact this)
  have h0:=hq 0 g rfl;rw[Nat.add_zero]at h0;unfold zby;rw[h0,List.any_cons];cases tL:zc6 n day g
  ·simp only[Bool.false_eq_true,if_false,Bool.false_or];exact⟨fun e=>by rw[ih.1 e];rfl,fun e1 e2=>by rw[ih.2 e1 e2];rfl⟩
  ·simp only[if_true,Bool.true_or];refine⟨fun e=>(by cases e),fun e _=> ?_⟩;subst e;rfl
theorem deathP_eq {laws:List Law} {s:St} {d:Deed} {last:Int} (hG:GoodSt s last) (hl:last<=d.day) (hw:za9 16 (zaY laws d.day).num (zaY laws d.day).den=true):
 zdL laws s d=if zaK s d.frm then(s,28)else if s.graves.any (zc6 d.frm d.day)then
  (if(zfM d.frm d.day (zcf s (zaY laws d.day) d.frm).1 s.graves (zcf s (zaY laws d.day) d.frm).2).2 then(s,8)else
    ({s with graves:=(zfM d.frm d.day (zcf s (zaY laws d.day) d.frm).1 s.graves (zcf s (zaY laws d.day) d.frm).2).1,dead:=s.dead++[d.frm]},0))
  else({s with dead:=s.dead++[d.frm]},0):=by
 have hq: ∀j g,s.graves[j]?=some g->zds s d.frm d.day (0+j) g=zc6 d.frm d.day g:=fun j g hj=>by rw[Nat.zero_add];exact held_same hG hl hj
 obtain⟨e1,e2⟩:=zeA (s:=s) (n:=d.frm) (hG.wills d.frm) hw;have hn:=zlS (s:=s) (n:=d.frm) (day:=d.day) (h:=zct s (zaY laws d.day) d.frm) hq;unfold zdL;cases hd:zaK s d.frm
 ·simp only[Bool.false_eq_true,if_false];cases ha:s.graves.any (zc6 d.frm d.day)
  ·rw[hn.1 ha];simp
  ·simp only[if_true];cases he:zct s (zaY laws d.day) d.frm with
   |none=>
    rw[he]at hn;rw[hn.2 rfl ha,if_pos (zgE (e2 he))]
   |some h=>
    have bP:=ze6 (hG.wills d.frm) hw he;obtain⟨f1,f2⟩:=zlR (s:=s) (n:=d.frm) (day:=d.day) (h:=h) (fun p hp=>by have:=bP.1.pos p hp;grind) hq hG.graves;rw[e1 h he];cases hx:zby s d.frm d.day (some h) 0 s.graves with
    |none=>
     simp only;rw[if_pos (f2 hx)]
    |some gs=>
     simp only;rw[f1 gs hx];simp
 ·simp
def zbd (n:ByteArray) (day:Int):Nat->List Grave->List Nat
 |_,[]=>[]
 |k,g::l=>if zc6 n day g then k::zbd n day (k+1) l else zbd n day (k+1) l
theorem ziN (n:ByteArray) (day:Int): ∀(k:Nat) (a b:List Grave),zbd n day k (a++b)=zbd n day k a++zbd n day (k+a.length) b
 |k,[],b=>by simp[zbd]
 |k,g::a,b=>by
  rw[List.cons_append,zbd,zbd,ziN n day (k+1) a b,List.length_cons];rw[show k+1+a.length=k+(a.length+1) by omega];split<;>simp
theorem held_snoc (n:ByteArray) (day:Int) (gs:List Grave) {k:Nat} (h:k<gs.length):zbd n day 0 (gs.take (k+1))=zbd n day 0 (gs.take k)++if zc6 n day gs[k]then[k]else[]:=by
 rw[List.take_succ_eq_append_getElem h,ziN,Nat.zero_add,List.length_take,Nat.min_eq_left Mcn,zbd,zbd]
theorem zfF (n:ByteArray) (day:Int): ∀(k:Nat) (l:List Grave),(zbd n day k l).length=(l.filter (zc6 n day)).length
 |_,[]=>rfl
 |k,g::l=>by
  rw[zbd,List.filter_cons];split<;>simp[zfF n day (k+1) l]
theorem zob (n:ByteArray) (day:Int): ∀(l:List Grave) (k j i:Nat),(zbd n day k l)[j]?=some i->k<=i/\ ∃g,l[i-k]?=some g/\(l.filter (zc6 n day))[j]?=some g
 | [],k,j,i,h=>by simp[zbd]at h
 |g::l,k,j,i,h=>by
  rw[zbd]at h;rw[List.filter_cons];cases hq:zc6 n day g
  ·rw[hq]at h;simp only[Bool.false_eq_true,if_false]at h⊢;exact MaV
  ·rw[hq]at h;simp only[if_true]at h⊢;cases j with
   |zero=>
    simp only[List.getElem?_cons_zero,Option.some.injEq]at h;subst h;exact⟨Nat.le_refl _,g,by simp,by simp⟩
   |succ j=>
    simp only[List.getElem?_cons_succ]at h⊢;exact MaV
def zcV (n:ByteArray) (h:Parts):List Grave->Bool->List Grave×Bool
 | [],f=>([],f)
 |g::l,f=>(⟨g.place,g.cls,g.fin,(zd0 n h g f).1,g.died++[n]⟩::(zcV n h l (zd0 n h g f).2).1,(zcV n h l (zd0 n h g f).2).2)
theorem ziO (n:ByteArray) (h:Parts): ∀(a b:List Grave) (f:Bool),zcV n h (a++b) f=((zcV n h a f).1++(zcV n h b (zcV n h a f).2).1,(zcV n h b (zcV n h a f).2).2)
 | [],b,f=>by simp[zcV]
 |g::a,b,f=>by
  rw[List.cons_append,zcV,ziO n h a b,zcV];simp
theorem next_snoc (n:ByteArray) (h:Parts) (l:List Grave) (f:Bool) {k:Nat} (hk:k<l.length):zcV n h (l.take (k+1)) f=((zcV n h (l.take k) f).1++[⟨l[k].place,l[k].cls,l[k].fin,(zd0 n h l[k] (zcV n h (l.take k) f).2).1,l[k].died++[n]⟩],(zd0 n h l[k] (zcV n h (l.take k) f).2).2):=by
 rw[List.take_succ_eq_append_getElem hk,ziO,zcV,zcV]
theorem zkG (n:ByteArray) (h:Parts): ∀(l:List Grave) (f:Bool),(zcV n h l f).1.length=l.length
 | [],_=>rfl
 |g::l,f=>by rw[zcV];simp[zkG n h l]
def zd1:List Grave->List Nat->List Grave->List Grave
 |gs,i::H,x::X=>zd1 (gs.set i x) H X
 |gs,_,_=>gs
theorem ziP: ∀(H:List Nat) (X:List Grave) (gs:List Grave) (i:Nat) (x:Grave),H.length=X.length->zd1 gs (H++[i]) (X++[x])=(zd1 gs H X).set i x
 | [],[],gs,i,x,_=>rfl
 | [],_::_,_,_,_,h=>by cases h
 |_::_,[],_,_,_,h=>by cases h
 |j::H,y::X,gs,i,x,h=>by
  rw[List.cons_append,List.cons_append,zd1,zd1];exact ziP H X _ i x Mde
theorem zjR: ∀(H:List Nat) (X gs:List Grave),(zd1 gs H X).length=gs.length
 | [],_,_=>by simp[zd1]
 |_::_,[],_=>by simp[zd1]
 |j::H,y::X,gs=>by rw[zd1,zjR H X];simp
theorem zge (n:ByteArray) (day:Int) (h:Parts): ∀(l A:List Grave) (f:Bool),zd1 (A++l) (zbd n day A.length l) (zcV n h (l.filter (zc6 n day)) f).1=A++(zfM n day h l f).1/\(zcV n h (l.filter (zc6 n day)) f).2=(zfM n day h l f).2
 | [],A,f=>by simp[zbd,zcV,zfM,zd1]
 |g::l,A,f=>by
  rw[zbd,List.filter_cons,zfM];cases hq:zc6 n day g
  ·simp only[Bool.false_eq_true,if_false];have:=zge n day h l (A++[g]) f;rw[List.length_append,List.length_singleton,List.append_assoc,List.singleton_append]at this;exact⟨by rw[this.1];simp,this.2⟩
  ·simp only[if_true];rw[zcV,zd1];have:=zge n day h l (A++[⟨g.place,g.cls,g.fin,(zd0 n h g f).1,g.died++[n]⟩]) (zd0 n h g f).2;rw[List.length_append,List.length_singleton,List.append_assoc,List.singleton_append]at this;have e:(A++g::l).set A.length ⟨g.place,g.cls,g.fin,(zd0 n h g f).1,g.died++[n]⟩=A++⟨g.place,g.cls,g.fin,(zd0 n h g f).1,g.died++[n]⟩::l:=by
    rw[List.set_append_right _ _ (Nat.le_refl _),Nat.sub_self,List.set_cons_zero]
   exact⟨by rw[e,this.1];simp,this.2⟩
structure FewS (k:Nat) (s:St):Prop where
 graves:s.graves.length<=k
 kids:s.children.length<=k
 marr:s.marriages.length<=k
 dead:s.dead.length<=k
 ren:s.renounce.length<=k
 wills: ∀n,(zbs s n).length<=8
 held: ∀g∈s.graves,g.holders.length<=80*k/\g.died.length<=k/\g.fin<=200000
theorem zkH (day years:Int):zcg day years<=200000:=by
 unfold zcg zbU;simp only;split
 ·decide
 ·split
  ·rename_i h
   have:=(zf6.1 h).2;omega
  ·decide
theorem zfG:FewS 0 zbz:=⟨Nat.le_refl _,Nat.le_refl _,Nat.le_refl _,Nat.le_refl _,Nat.le_refl _,fun n=>by simp[zbz,zbs],by simp[zbz]⟩
theorem FewS.up {k:Nat} {s:St} (h:FewS k s):FewS (k+1) s:=
 ⟨Nat.le_succ_of_le h.graves,Nat.le_succ_of_le h.kids,Nat.le_succ_of_le h.marr,Nat.le_succ_of_le h.dead,Nat.le_succ_of_le h.ren,h.wills,fun g hg=>by have:=h.held g hg;exact⟨by omega,by omega,this.2.2⟩⟩
theorem zdV (l:Parts) (n:ByteArray):(za0 l n).length<=l.length:=List.length_filter_le _ _
theorem zkI {own:Rat}: ∀ {l out o:Parts},zb8 own l out=some o->o.length<=out.length+l.length
 | [],out,o,h=>by
   rw[zb8]at h;cases h;simp
 |p::l,out,o,h=>by
  rw[zb8]at h;split at h
  ·cases h
  split at h
  ·cases h
  have:=zkI h;have h2:=zcz p.1 (own*p.2) out;simp;omega
theorem FewS.withG {k:Nat} {s:St} {i:Nat} {g g':Grave} (h:FewS k s) (hi:s.graves[i]?=some g) (h1:g'.holders.length<=80*k+80) (h2:g'.died.length<=k+1) (h3:g'.fin<=200000):FewS (k+1) (s.withGrave i g'):=by
 refine {h.up with graves:= ?_,held:=fun x hx=> ?_}
 ·unfold St.withGrave;simp only[List.length_set];exact Nat.le_succ_of_le h.graves
 ·unfold St.withGrave at hx;rcases List.mem_or_eq_of_mem_set hx with hx|rfl
  ·exact h.up.held x hx
  ·exact⟨by omega,h2,h3⟩
theorem zjS {s:St} {pl:ByteArray} {day:Int} {i:Nat} (h:zaO s pl day=some i): ∃g,s.graves[i]?=some g/\s.graves.getD i zfb=g/\g∈s.graves:=by
 obtain⟨g,h1,_⟩:=zbJ h;exact⟨g,h1,zeb h1,List.mem_of_getElem? h1⟩
theorem zkJ {laws:List Law} {s s':St} {d:Deed} {last:Int} {k:Nat} (h:FewS k s) (hk:k<60) (hG:GoodSt s last) (hd:OkD d) (hl:last<=d.day) (aU:za8 laws=0) (ht:zbm laws s d=(s',0)):FewS (k+1) s':=by
 have nH:=hd.len;have bQ:=hd.kind;unfold zbm at ht;split at ht
 ·unfold zcN at ht;split at ht
  ·simp at ht
  split at ht
  ·simp at ht
  split at ht
  ·simp at ht
  simp only[Prod.mk.injEq,and_true]at ht;rw[<-ht];refine {h.up with graves:= ?_,held:=fun g hg=> ?_}
  ·have:=h.graves;simp;omega
  ·rcases List.mem_append.1 hg with hg|hg
   ·exact h.up.held g hg
   ·rw[List.mem_singleton.1 hg];have:=zfn d.to [];simp only[List.length_nil]at this⊢;refine⟨by omega,Nat.zero_le _,?_⟩;split
    ·exact zkH _ _
    ·decide
 split at ht
 ·unfold zbo at ht;split at ht
  ·simp at ht
  rename_i i hi
  obtain⟨g,cj,cy,rZ⟩:=zjS hi;rw[cy]at ht;simp only at ht;split at ht
  ·simp at ht
  split at ht
  ·simp at ht
  split at ht
  ·simp at ht
  split at ht
  ·simp at ht
  split at ht
  ·simp at ht
  rename_i out ho
  simp only[Prod.mk.injEq,and_true]at ht;rw[<-ht];have h1:=zkI ho;have h2:=zcz d.frm (zag g.holders d.frm*(1-sumQ (zap d.to))) (za0 g.holders d.frm);have h3:=zdV g.holders d.frm;have h4:=h.held g rZ;have h5:(zap d.to).length=d.to.length:=by unfold zap;simp
  exact h.withG cj MdQ MdQ MdQ
 split at ht
 ·unfold zaZ at ht;split at ht
  ·simp at ht
  rename_i i hi
  obtain⟨g,cj,cy,rZ⟩:=zjS hi;rw[cy]at ht;simp only at ht;split at ht
  ·simp at ht
  split at ht
  ·simp at ht
  simp only[Prod.mk.injEq,and_true]at ht;rw[<-ht];have h3:=zdV g.holders d.frm;have h4:=h.held g rZ;exact h.withG cj (by simp only[List.length_map];omega) MdQ MdQ
 split at ht
 ·unfold zcY at ht;split at ht
  ·simp at ht
  rename_i i hi
  obtain⟨g,cj,cy,rZ⟩:=zjS hi;rw[cy]at ht;simp only at ht;split at ht
  ·simp at ht
  split at ht
  ·simp at ht
  simp only[Prod.mk.injEq,and_true]at ht;rw[<-ht];have h4:=h.held g rZ;exact h.withG cj MdQ MdQ (zkH _ _)
 split at ht
 ·unfold zgT at ht;split at ht
  ·simp at ht
  simp only[Prod.mk.injEq,and_true]at ht;rw[<-ht];refine {h.up with wills:=fun n=> ?_};rw[zfV];split
  ·unfold zap;simpa using nH
  ·exact h.wills n
 split at ht
 ·unfold zb9 at ht;split at ht
  ·simp at ht
  split at ht
  ·simp at ht
  simp only[Prod.mk.injEq,and_true]at ht;rw[<-ht];exact {h.up with ren:=by have:=h.ren;simp;omega}
 split at ht
 ·unfold zcD at ht;split at ht
  ·simp at ht
  split at ht
  ·simp at ht
  split at ht
  ·simp at ht
  simp only[Prod.mk.injEq,and_true]at ht;rw[<-ht];exact {h.up with kids:=by have:=h.kids;simp;omega}
 split at ht
 ·unfold zdr at ht;split at ht
  ·simp at ht
  split at ht
  ·simp at ht
  simp only[Prod.mk.injEq,and_true]at ht;rw[<-ht];exact {h.up with marr:=by have:=h.marr;simp;omega}
 ·unfold zdL at ht;split at ht
  ·simp at ht
  split at ht
  ·simp at ht
  rename_i gs aK
  simp only[Prod.mk.injEq,and_true]at ht;rw[<-ht];obtain⟨ag,gW⟩:=zm6 aK;refine {h.up with graves:=by have:=h.graves;simp only;omega,dead:=by have:=h.dead;simp;omega,held:=fun x hx=> ?_};obtain⟨i,hi⟩:=List.mem_iff_getElem?.1 hx;obtain⟨g,g1,g2⟩:=gW i x hi;have h4:=h.held g (List.mem_of_getElem? g1);rcases g2 with⟨rfl,_⟩|⟨_,hs,out,e1,e2,rfl⟩
  ·exact h.up.held x (List.mem_of_getElem? g1)
  ·have h1:=zkI e2;have h3:=zdV g.holders d.frm;have bO:=zes aU d.day;have bP:=ze6 (hG.wills d.frm) bO e1;have gF:=(zeA (s:=s) (n:=d.frm) (hG.wills d.frm) bO).1 hs e1;have kW:=ziL (s:=s) (law:=zaY laws d.day) (n:=d.frm) (by rw[gF];exact bP.1);rw[gF]at kW;have:=h.wills d.frm;have:=h.kids;simp only[List.length_append,List.length_singleton]at*;exact⟨by omega,by omega,h4.2.2⟩
end Go.Proofs.YtjhbofabmpfniaaGreatDoor
namespace Go.Proofs.YtjhbofabmpfniaaGreatDoor
open Go.RowKit Go.Shelf
attribute [local go_sem] World.cell?_alloc_mark zae za3 zam za6 zas zat zau zav zaw zax zay
attribute [local go_sem] zaj zac
theorem znb (l:List Rec) (A:Option Addr) (c:Nat) (w:World) (hc:l.length<=c) (hl:l.length<=1000) (hk: ∀x∈l,x.kind≠2) (hS:Sl w 8 Rec.cells A l):
 Calls Tryz.prog 173 #[.slice A l.length c] w (Ret w (.bool false)):=by
 have cY:= @run_makeMap Tryz.prog;have HS:=zHi hS;have HK:=zHi hk;clear hS hk;go_enter Tryz.func173,Tryz.ntmps173
 go_upto_region 3 with fail
 clear cY;go_loopw [13] (fun i wr=> ∃k:Nat,k<=l.length/\i= .int .i64 k/\MapS wr w.heap.size ekS (fun v:Value=>v) ([]:List (ByteArray×Value))/\Below w.heap.size w wr) (fun i _=>l.length-(intOf i).toNat)
 case atStart=>exact⟨0,Nat.zero_le _,rfl,MapS.new w,Bw⟩
 case round=>
  obtain⟨k,hk,rfl,hm,hB⟩:=hrel;have HB:=zHi hB;have aE:=hB.size;by_cases aa:k<l.length
  ·obtain⟨b,off,hA,hb,ah⟩:=(HS.o.keep hB).at aa;have bQ:=HK.o _ (List.getElem_mem aa);have am:=zHi aa;generalize l[k]=x at*;obtain⟨kd,nm,ot,pl,dy,tl,nu,de⟩:=x;have i0:wr.cell? ⟨b,off+k*8,none⟩=some (.int .i64 kd):=ah 0 _ rfl;have i1:wr.cell? ⟨b,off+k*8+1,none⟩=some (.string nm):=ah 1 _ rfl;have i2:wr.cell? ⟨b,off+k*8+2,none⟩=some (.string ot):=ah 2 _ rfl;have i3:wr.cell? ⟨b,off+k*8+3,none⟩=some (.string pl):=ah 3 _ rfl;have i4:wr.cell? ⟨b,off+k*8+4,none⟩=some (.int .i64 dy):=ah 4 _ rfl;have i5:wr.cell? ⟨b,off+k*8+5,none⟩=some (.int .i64 tl):=ah 5 _ rfl;have i6:wr.cell? ⟨b,off+k*8+6,none⟩=some (.int .i64 nu):=ah 6 _ rfl;have i7:wr.cell? ⟨b,off+k*8+7,none⟩=some (.int .i64 de):=ah 7 _ rfl;have ar:(k:Int)<(l.length:Int):=Mcn;have aT:(0:Int)<=(k:Int):=Mcn;have fH:(k:Int)<=(c:Int):=Mcn;simp only at bQ;have HM:=zHi hm;subst hA;clear ah hm hB aa;go_wp2_with fail
   go_round
   case rel=>exact⟨k+1,am.o,by go_num,HM.o.below (n:=wr.heap.size) Bw,HB.o.trans (Below.mono (B:=wr.heap.size) Bw aE)⟩
   case measure=>have:=am.o;simp only[intOf];omega
  ·have ar: ¬(k:Int)<(l.length:Int):=Mcn;obtain⟨W1,rfl⟩: ∃x,x=wr:=⟨_,rfl⟩
   have hIs:w.heap.size<W1.heap.size:=hm.at.lt;obtain⟨Dz,vS⟩:=zjz (P:=Tryz.prog) hm (t:=134) Tryz.underlying134;generalize hm.choose_spec.choose=cc at*;generalize hm.choose=ce at*;have Br:=zHi vS;clear vS hB hm aa;go_upto_region 9 with fail
   clear Dz;go_loopg [6] 1 (fun gg v wr=>RangeAt wr w.heap.size W1.heap.size ekS (fun v:Value=>v) ([]:List (ByteArray×Value)) []/\Below W1.heap.size W1 wr/\0<gg)
   case atStart=>exact⟨Br.o,Bw,by omega⟩
   case round=>
    obtain⟨sA,bY,ba⟩:=hrel;rcases zla (P:=Tryz.prog) sA 0 with⟨h0,hrun⟩|⟨i,p,w',hi,_⟩
    ·have qe:=zHi (HB.o.trans (bY.mono HB.o.size));clear sA h0;go_wp2_with fail
     go_ret
     exact Ret.of rfl (qe.o.trans (Below.mono Bw qe.o.size))
    ·simp at hi
theorem zlT (l:List Rec) (A:Option Addr) (c:Nat) (w:World) (hc:l.length<=c) (hl:l.length<=1000) (hk: ∀x∈l,x.kind≠3) (hS:Sl w 8 Rec.cells A l):
 Calls Tryz.prog 174 #[.slice A l.length c] w (Ret w (.bool false)):=by
 have cY:= @run_makeMap Tryz.prog;have HS:=zHi hS;have HK:=zHi hk;clear hS hk;go_enter Tryz.func174,Tryz.ntmps174
 go_upto_region 4 with fail
 clear cY;go_loopw [12] (fun i wr=> ∃k:Nat,k<=l.length/\i= .int .i64 k/\Below w.heap.size w wr) (fun i _=>l.length-(intOf i).toNat)
 case atStart=>exact⟨0,Nat.zero_le _,rfl,Bw⟩
 case round=>
  obtain⟨k,hk,rfl,hB⟩:=hrel;have HB:=zHi hB;have aE:=hB.size;by_cases aa:k<l.length
  ·obtain⟨b,off,hA,hb,ah⟩:=(HS.o.keep hB).at aa;have bQ:=HK.o _ (List.getElem_mem aa);have am:=zHi aa;generalize l[k]=x at*;obtain⟨kd,nm,ot,pl,dy,tl,nu,de⟩:=x;have i0:wr.cell? ⟨b,off+k*8,none⟩=some (.int .i64 kd):=ah 0 _ rfl;have i1:wr.cell? ⟨b,off+k*8+1,none⟩=some (.string nm):=ah 1 _ rfl;have i2:wr.cell? ⟨b,off+k*8+2,none⟩=some (.string ot):=ah 2 _ rfl;have i3:wr.cell? ⟨b,off+k*8+3,none⟩=some (.string pl):=ah 3 _ rfl;have i4:wr.cell? ⟨b,off+k*8+4,none⟩=some (.int .i64 dy):=ah 4 _ rfl;have i5:wr.cell? ⟨b,off+k*8+5,none⟩=some (.int .i64 tl):=ah 5 _ rfl;have i6:wr.cell? ⟨b,off+k*8+6,none⟩=some (.int .i64 nu):=ah 6 _ rfl;have i7:wr.cell? ⟨b,off+k*8+7,none⟩=some (.int .i64 de):=ah 7 _ rfl;have ar:(k:Int)<(l.length:Int):=Mcn;have aT:(0:Int)<=(k:Int):=Mcn;have fH:(k:Int)<=(c:Int):=Mcn;simp only at bQ;subst hA;clear ah hB aa;obtain⟨WZ,fw⟩: ∃WZ,WZ=(wr.alloc (.cells #[.int .i64 kd, .string nm, .string ot, .string pl, .int .i64 dy, .int .i64 tl, .int .i64 nu, .int .i64 de] 105)).alloc (.cells #[.string pl, .int .i64 dy] 260):=⟨_,rfl⟩
   have z0:WZ.cell? ⟨wr.heap.size,0,none⟩=some (.int .i64 kd):=by rw[fw];simp[go_sem]
   have d9:wr.heap.size+2=WZ.heap.size:=by rw[fw];simp
   have eV:Below wr.heap.size wr WZ:=by rw[fw];exact Bw
   have fF:=zHi (HB.o.trans (eV.mono aE));go_upto_region 7 with fail
   rw[<-fw];clear fw eV i0 i1 i2 i3 i4 i5 i6 i7;go_quiet (fail)
   go_wp2_with fail
   go_round
   case rel=>exact⟨k+1,am.o,by go_num,zd5 fF.o _⟩
   case measure=>have:=am.o;simp only[intOf];omega
  ·have ar: ¬(k:Int)<(l.length:Int):=Mcn;clear hB;exact MbA
end Go.Proofs.YtjhbofabmpfniaaGreatDoor

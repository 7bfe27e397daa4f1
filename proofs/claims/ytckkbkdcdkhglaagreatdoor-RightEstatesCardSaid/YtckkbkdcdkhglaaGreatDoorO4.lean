/- Walks of chapter 5's law: deeds and rights in memory of their own. -/
import Derived.Test.YtckkbkdcdkhglaaGreatDoorJH
set_option linter.unusedSimpArgs false
set_option linter.unusedVariables false
set_option maxRecDepth 100000
set_option maxHeartbeats 4000000
namespace Go.Proofs.YtckkbkdcdkhglaaGreatDoor
open Go.RowKit
def zcP (n:ByteArray) (f:Rat) (x:Parts×Bool):Parts×Bool:=
 (setP x.1 n (zbi (zaf x.1 n+f)),x.2||bigQ (zaf x.1 n+f))
mutual
def zbO (part:Rat):List Tree->Parts×Bool->Parts×Bool
 | [],x=>x
 |t::l,x=>zbO part l (zdP part t x)
def zdP (part:Rat):Tree->Parts×Bool->Parts×Bool
 | .leaf n,x=>zcP n part x
 | .node l,x=>zbO (zbi (part*(1/(l.length:Rat)))) l (x.1,x.2||bigQ (part*(1/(l.length:Rat))))
end
def zcz (l:List Tree) (f:Rat) (x:Parts×Bool):Parts×Bool:=
 zbO (zbi (f*(1/(l.length:Rat)))) l (x.1,x.2||bigQ (f*(1/(l.length:Rat))))
theorem zo4 (part:Rat) (l:List Tree) (x:Parts×Bool):zdP part (.node l) x=zcz l part x:=by rw[zdP,zcz]
theorem zgr (part:Rat): ∀(a b:List Tree) (x:Parts×Bool),zbO part (a++b) x=zbO part b (zbO part a x)
 | [],_,_=>by rw[List.nil_append,zbO]
 |t::a,b,x=>by rw[List.cons_append,zbO,zbO,zgr part a b]
def zdg (s:St) (frm:ByteArray):Parts->Parts×Bool->Rat->(Parts×Bool)×Rat
 | [],x,rest=>(x,rest)
 |p::l,x,rest=>if zdU s p.1 frm then zdg s frm l (zcP p.1 p.2 x) (rest-p.2)else zdg s frm l x rest
def zcn (s:St) (n:ByteArray):ByteArray:=if zdU s (zaL s n) n then zaL s n else⟨#[]⟩
def zcg (s:St) (law:Law) (n:ByteArray):Parts×Bool:=
 let y:=zdg s n (zbu s n) ([],false) 1
 let sp:=zcn s n
 let lines:=zb2 s law.stems n (zaW s) n
 if lines.isEmpty then zcP sp y.2 y.1 else
 if noB sp then zcz lines y.2 y.1 else
 zcz lines (y.2-y.2*Rat.divInt law.num law.den) (zcP sp (y.2*Rat.divInt law.num law.den) y.1)
mutual
theorem zf3 {part:Rat}: ∀ {l:List Tree} {x:Parts×Bool},x.2=true->(zbO part l x).2=true
 | [],x,h=>by rw[zbO];exact h
 |t::l,x,h=>by rw[zbO];exact zf3 (tree_mark h)
theorem tree_mark {part:Rat}: ∀ {t:Tree} {x:Parts×Bool},x.2=true->(zdP part t x).2=true
 | .leaf n,x,h=>by rw[zdP];simp[zcP,h]
 | .node l,x,h=>by rw[zdP];exact zf3 (by simp[h])
end
theorem zgs {out:Parts} (h:GoodParts out) {n:ByteArray} {f:Rat} (hf:0<=f) (hb:bigQ (zaf out n+f)=false):zcP n f (out,false)=(za3 out n f,false):=by
 unfold zcP;simp only[hb,Bool.or_self];rw[znJ h hf hb]
theorem zkz (a:Rat) (n:Nat):a*(1/(n:Rat))=a/(n:Rat):=by
 rw[Rat.div_def,Rat.div_def,Rat.one_mul]
theorem zeB {a:Rat} (h:0<=a) (n:Nat):0<=a*(1/(n:Rat)):=by
 rw[zkz];exact zcE h Rat.natCast_nonneg
mutual
theorem zhb {each:Rat} (he:0<=each): ∀ {l:List Tree} {out:Parts},GoodParts out->zaE out=false->
 (∀o,zbD each l out=some o->zbO each l (out,false)=(o,false))/\(zbD each l out=none->(zbO each l (out,false)).2=true)
 | [],out,hg,hs=>by
   rw[zbD,zbO];exact Mbw
 |t::l,out,hg,hs=>by
  obtain⟨h1,h2⟩:=tree_same he (t:=t) hg hs;rw[zbD,zbO];cases ht:zei each t out with
  |none=>
   refine⟨fun o h=>by(cases h),fun _=>zf3 (h2 ht)⟩
  |some o1=>
   rw[h1 o1 ht];obtain⟨g1,g2⟩:=zig he hg hs ht;exact zhb he g1 g2
theorem tree_same {each:Rat} (he:0<=each): ∀ {t:Tree} {out:Parts},GoodParts out->zaE out=false->
 (∀o,zei each t out=some o->zdP each t (out,false)=(o,false))/\(zei each t out=none->(zdP each t (out,false)).2=true)
 | .leaf n,out,hg,hs=>by
   rw[zei,zdP,zfg hg hs he];cases hb:bigQ (zaf out n+each)
   ·rw[if_neg Mco,zgs hg he hb];exact Mbw
   ·rw[if_pos rfl];refine⟨fun o h=>by(cases h),fun _=>by simp[zcP,hb]⟩
 | .node l,out,hg,hs=>by
   rw[zei,zdP,zkz];cases hb:bigQ (each/(l.length:Rat))
   ·rw[if_neg Mco,zfc hb];exact zhb (zcE he Rat.natCast_nonneg) hg hs
   ·exact MbL
end
theorem zo5 (out:Parts) (n:ByteArray):za3 out n 0=out:=by cases out<;>simp[za3]
theorem zhc {out:Parts} (h:GoodParts out) (hs:zaE out=false) (n:ByteArray):zcP n 0 (out,false)=(out,false):=by
 rw[zgs h Rat.le_refl (by rw[Rat.add_zero];exact zcJ n hs),zo5]
theorem zgt (k:Nat):zbi (0*(1/(k:Rat)))=0/\bigQ (0*(1/(k:Rat)))=false:=by
 rw[Rat.zero_mul];exact⟨zfc Mcn,by decide⟩
mutual
theorem zhd: ∀ {l:List Tree} {out:Parts},GoodParts out->zaE out=false->zbO 0 l (out,false)=(out,false)
 | [],out,_,_=>by rw[zbO]
 |t::l,out,hg,hs=>by rw[zbO,tree_zero hg hs,zhd hg hs]
theorem tree_zero: ∀ {t:Tree} {out:Parts},GoodParts out->zaE out=false->zdP 0 t (out,false)=(out,false)
 | .leaf n,out,hg,hs=>by rw[zdP,zhc hg hs]
 | .node l,out,hg,hs=>by
   rw[zdP,(zgt l.length).1,(zgt l.length).2];exact zhd hg hs
end
theorem zfO {l:List Tree} {out:Parts} (hg:GoodParts out) (hs:zaE out=false):zcz l 0 (out,false)=(out,false):=by
 rw[zcz,(zgt l.length).1,(zgt l.length).2];exact zhd hg hs
theorem zgu {s:St} {frm:ByteArray}: ∀ {l out:Parts} {rest:Rat},(∀p∈l,0<p.2)->(∀p∈l,IsN 720720 p.2)->GoodParts out->(∀p∈out,IsN 720720 p.2)->
 zdg s frm l (out,false) rest=(((zcq s frm l out rest).1,false),(zcq s frm l out rest).2)
 | [],out,rest,_,_,_,_=>rfl
 |p::l,out,rest,hp,hN,hg,hn=>by
  have hl:=fun q (hq:q∈l)=>hp q MdA
  have vO:=fun q (hq:q∈l)=>hN q MdA
  rw[zdg,zcq];split
  ·have h0:0<=p.2:=by have:=hp p Mco;grind
   have aA:=zcF (nm:=p.1) (hN p Mco) hn;have hb:bigQ (zaf out p.1+p.2)=false:=by
    rw[<-zfg hg (zc5 Mcn Mcn hn) h0];exact zc5 Mcn Mcn aA
   rw[zgs hg h0 hb];exact zgu hl vO (zbw h0 hg) aA
  ·exact zgu hl vO hg hn
theorem isN_law {law:Law} (hl:za6 16 law.num law.den=true):(∃d:Nat,0<d/\d<=16/\IsN d (Rat.divInt law.num law.den))/\0<=Rat.divInt law.num law.den/\Rat.divInt law.num law.den<=1:=by
 refine⟨?_,(zbl hl).2.2⟩;have hd:=hl;exact Mab
theorem zev {n:Nat} (h0:0<n) (h1:n<=1000000000) {q:Rat} (h:IsN n q):bigQ q=false:=by
 have:=zkn h0 h;unfold bigQ;simp;omega
theorem zeC {s:St} {law:Law} {n:ByteArray} (hw:WillOk (zbu s n)) (hl:za6 16 law.num law.den=true):
 (∀o,zbZ s law n=some o->(zcg s law n)=(o,false))/\(zbZ s law n=none->(zcg s law n).2=true):=by
 have jE:=zgu (s:=s) (frm:=n) (rest:=1) hw.pos hw.isN zd6 Mco;have hg:=zih (s:=s) (frm:=n) (out:=[]) (rest:=1) hw.pos hw.isN hw.le zd6 Mco (zgT _);unfold zbZ zcg zcn;rw[jE];generalize zcq s n (zbu s n) [] 1=q at*;obtain⟨out,rest⟩:=q;dsimp only at*;obtain⟨g1,g2,g3,g4,g5⟩:=hg;have gs:zaE out=false:=zc5 Mcn Mcn g2;obtain⟨⟨ld,ld0,ld1,l1⟩,l2,l3⟩:=isN_law hl;generalize Rat.divInt law.num law.den=la at*;generalize(if zdU s (zaL s n) n=true then zaL s n else⟨#[]⟩)=sp at*;generalize zb2 s law.stems n (zaW s) n=tr at*;by_cases hr:rest=0
 ·subst hr;have hz:(0:Rat)-0=0:=McO;simp only[Rat.zero_mul,hz,beq_self_eq_true,if_true];refine⟨fun o h=> ?_,fun h=>by cases h⟩;cases h;split
  ·exact zhc g1 gs sp
  ·split
   ·exact zfO g1 gs
   ·rw[zhc g1 gs,zfO g1 gs]
 ·have pS:(rest==0)=false:=by simpa using hr
  have u4:0<rest:=McO;simp only[pS,Bool.false_eq_true,if_false];cases he:tr.isEmpty
  ·simp only[Bool.false_eq_true,if_false];have wN: ∀ {x:Parts} {r:Rat},GoodParts x->zaE x=false->0<=r->
    (∀o,(if bigQ (r/(tr.length:Rat))=true then none else zbD (r/(tr.length:Rat)) tr x)=some o->zcz tr r (x,false)=(o,false))/\((if bigQ (r/(tr.length:Rat))=true then none else zbD (r/(tr.length:Rat)) tr x)=none->(zcz tr r (x,false)).2=true):=fun {x r} hx bw cv=>by
    rw[zcz,zkz];cases hb:bigQ (r/(tr.length:Rat))
    ·rw[if_neg Mco,zfc hb];exact zhb (zcE cv Rat.natCast_nonneg) hx bw
    ·exact MbL
   cases hn:noB sp
   ·simp only[Bool.false_eq_true,if_false];have iV:0<=rest*la:=Rat.mul_nonneg g4 l2;have kY:rest*la<=rest:=by
     have:=Rat.mul_nonneg g4 (show 0<=1-la by grind);grind
    have hb:bigQ (zaf out sp+rest*la)=false:=by
     have h1:IsN (720720*ld) (zaf out sp+rest*la):=by
      refine zkk (zle ?_) (zkl g3 l1);unfold zaf;cases hf:out.find? (fun p=>zae p.1 sp)with
      |none=>exact zkm _
      |some p=>exact g2 p (List.mem_of_find?_eq_some hf)
     exact zev Mcl Mcl h1
    rw[zgs g1 iV hb];have bS:=zbw (n:=sp) iV g1;have br:zaE (za3 out sp (rest*la))=false:=by rw[zfg g1 gs iV];exact hb
    by_cases hz:rest-rest*la=0
    ·rw[hz];simp only[beq_self_eq_true,if_true];exact⟨fun o h=>by cases h;exact zfO bS br,fun h=>by cases h⟩
    ·have j9:(rest-rest*la==0)=false:=Mds;simp only[j9,Bool.false_eq_true,if_false];exact wN bS br McO
   ·simp only[if_true];have hz:rest-0=rest:=McO;simp only[hz,pS,Bool.false_eq_true,if_false];exact wN g1 gs g4
  ·simp only[if_true];have hb:bigQ (zaf out sp+rest)=false:=by
    rw[<-zfg g1 gs g4];exact zc5 Mcn Mcn (zcF g3 g2)
   rw[zgs g1 g4 hb];exact Mbw
end Go.Proofs.YtckkbkdcdkhglaaGreatDoor
namespace Go.Proofs.YtckkbkdcdkhglaaGreatDoor
open Go.RowKit Go.Shelf
attribute [local go_sem] World.cell?_alloc_mark zag za5 zaq za8 zaw zax zay zaz za0 za1 za2
attribute [local go_sem] zap zad
structure DV where
 d:Deed
 B:Option Addr
 c:Nat
def DV.cells (x:DV):List Value:=[.int .i64 x.d.kind, .int .i64 x.d.day, .string x.d.place, .string x.d.frm, .slice x.B x.d.to.length x.c, .int .i64 x.d.cls, .int .i64 x.d.years]
theorem zcj (x:DV):x.cells.length=7:=rfl
theorem zgv (x:DV): ∀u∈x.cells,u.oneCell'=true:=by simp[DV.cells,Value.oneCell']
theorem rp_len (x:RPart):x.cells.length=3:=rfl
theorem rp_one (x:RPart): ∀u∈x.cells,u.oneCell'=true:=by simp[RPart.cells,Value.oneCell']
theorem lw_one (x:Law): ∀u∈x.cells,u.oneCell'=true:=by simp[Law.cells,Value.oneCell']
theorem elRPart:ElTy Tryz.prog 28 63 3 32:=zd5 (z:= .agg #[.string ⟨#[]⟩, .int .i64 0, .int .i64 0]) Mcm Mcm rfl Mcn
theorem elLaw:ElTy Tryz.prog 22 95 4 32:=zd5 (z:= .agg #[.int .i64 0, .bool false, .int .i64 0, .int .i64 0]) Mcm Mcm rfl Mcn
theorem zgw:ElTy Tryz.prog 23 68 7 88:=zd5 (z:= .agg #[.int .i64 0, .int .i64 0, .string ⟨#[]⟩, .string ⟨#[]⟩, .slice none 0 0, .int .i64 0, .int .i64 0]) Mcm Mcm rfl Mcn
theorem made_part (W:World):OwnS (W.alloc (.cells #[] 63)) W.heap.size 63 3 RPart.cells (.slice (some ⟨W.heap.size,0,none⟩) 0 0) []:=
 OwnS.of_own rp_len (World.ownsRow_made W #[] 0 (Nat.le_refl _) (Nat.zero_le _) Mco)
theorem made_law (W:World):OwnS (W.alloc (.cells #[] 95)) W.heap.size 95 4 Law.cells (.slice (some ⟨W.heap.size,0,none⟩) 0 0) []:=
 OwnS.of_own (fun _=>rfl) (World.ownsRow_made W #[] 0 (Nat.le_refl _) (Nat.zero_le _) Mco)
theorem zc0 {w:World} {g:Nat} {z0 z1 z2 z3 z4 z5 z6 a b c d e f h':Value} {t:TypeId} {fr:Nat×Nat} (h:w.heap[g]?=some (.cells #[z0,z1,z2,z3,z4,z5,z6] t fr)):
 (((((((w.setCell ⟨g,0,none⟩ a).setCell ⟨g,1,none⟩ b).setCell ⟨g,2,none⟩ c).setCell ⟨g,3,none⟩ d).setCell ⟨g,4,none⟩ e).setCell ⟨g,5,none⟩ f).setCell ⟨g,6,none⟩ h').heap[g]?=some (.cells #[a,b,c,d,e,f,h'] t fr):=by
 have:=Joins.block_setCell (i:=6) (Joins.block_setCell (i:=5) (Joins.block_setCell (i:=4) (Joins.block_setCell (i:=3) (Joins.block_setCell (i:=2) (Joins.block_setCell (i:=1) (Joins.block_setCell (i:=0) h a) b) c) d) e) f) h';simpa using this
theorem zl1 {fn:Func} {p:Tmp} (h:fn.results= #[.cell p 68]) (tmps:Array Value) (w:World) (B:Nat) (x0 x1 x2 x3 x4 x5 x6:Value) (hp:tmps.getD p undef= .pointer (some ⟨B,0,none⟩))
 (hx:w.heap[B]?=some (.cells #[x0,x1,x2,x3,x4,x5,x6] 68)):(results fn tmps).run Tryz.prog w= .ok (.agg #[x0,x1,x2,x3,x4,x5,x6]) w:=by
 obtain⟨h0,h1,h2,h3,h4,h5,h6⟩:=cF7 hx;exact Ma6
def znN (w:World) (d:Deed) (e:Ending) (w':World):Prop:=
 ∃B c,e= .returned (d.v B c)/\d.to.length<=c/\Ro w' 63 RPart.cells B d.to/\Below w.heap.size w w'
theorem deed_any (d:Deed) (B:Option Addr) (c:Nat) (w:World) (hl:d.to.length<=100000) (hS:Sl w 3 RPart.cells B d.to):Calls Tryz.prog 27 #[d.v B c] w (znN w d):=by
 obtain⟨kd,dy,pl,fr,ts,cl,yr⟩:=d;have HS:=zHi hS;unfold znN Deed.v;simp only at hl hS⊢;clear hS;go_enter Tryz.func27,Tryz.ntmps27
 go_upto_region 1 with fail
 obtain⟨W1,aV⟩: ∃W1,W1=(w.alloc (.cells #[.int .i64 kd, .int .i64 dy, .string pl, .string fr, .slice B ts.length c, .int .i64 cl, .int .i64 yr] 68)).alloc (.cells #[.int .i64 0, .int .i64 0, .string ⟨#[]⟩, .string ⟨#[]⟩, .slice none 0 0, .int .i64 0, .int .i64 0] 68):=⟨_,rfl⟩
 have b0:W1.heap[w.heap.size]?=some (.cells #[.int .i64 kd, .int .i64 dy, .string pl, .string fr, .slice B ts.length c, .int .i64 cl, .int .i64 yr] 68):=by rw[aV];exact zak (zar _ _ _ rfl)
 have r0:W1.heap[w.heap.size+1]?=some (.cells #[.int .i64 0, .int .i64 0, .string ⟨#[]⟩, .string ⟨#[]⟩, .slice none 0 0, .int .i64 0, .int .i64 0] 68):=by rw[aV];exact zar _ _ _ Mco
 have cE:Below w.heap.size w W1:=by rw[aV];exact Bw
 rw[<-aV];have aG:=zHi cE;clear aV cE;have l0:=zab b0;have l1:=zab r0;obtain⟨-,-,-,-,c4⟩:=cF5 b0;have bh:w.heap.size+1+1<=W1.heap.size:=Mcl;have cZ:=zHi bh;clear bh
 go_upto_region 2 with(at_builtin
                       go_loud(refine zav (v:= .slice (some ⟨W1.heap.size,0,none⟩) 0 0) (n:=0) (m:=ts.length) rfl _ _ rfl elRPart rp_len rp_one rfl (xs:=[]) (ys:=ts) (made_part W1) rfl rfl rfl (HS.o.keep (aG.o.trans (Below.mono (B:=W1.heap.size) Bw aG.o.size))) McT Mcl Mco ?_)
                       intro v2 w2 h1 h2 h3;rw[List.nil_append]at h1;have e1:w2.heap[w.heap.size]?=_:=(h2.block w.heap.size Mcq Mdy).trans (zak b0);have e2:w2.heap[w.heap.size+1]?=_:=(h2.block (w.heap.size+1) Mcq Mdy).trans (zak r0);have bF:Below W1.heap.size W1 w2:=Below.grown (zac (Below.refl _ _) _) h2 Mco McZ;obtain⟨A2,c2,rfl,cA,s2⟩:=h1.ro;have f4:w2.frozen? ⟨w.heap.size,4,none⟩=false:=by simp[World.frozen?,e1]
                       obtain⟨-,-,-,-,k4⟩:=cF5 e1
                       clear h1 h2 h3)
 have qz:=zHi (cA);obtain⟨W3,aX⟩: ∃W3,W3=w2.setCell ⟨w.heap.size,4,none⟩ (.slice A2 ts.length c2):=⟨_,rfl⟩
 have b3:W3.heap[w.heap.size]?=some (.cells #[.int .i64 kd, .int .i64 dy, .string pl, .string fr, .slice A2 ts.length c2, .int .i64 cl, .int .i64 yr] 68):=by
  rw[aX];have:=Joins.block_setCell (i:=4) e1 (.slice A2 ts.length c2);simpa using this
 have r3:W3.heap[w.heap.size+1]?=some (.cells #[.int .i64 0, .int .i64 0, .string ⟨#[]⟩, .string ⟨#[]⟩, .slice none 0 0, .int .i64 0, .int .i64 0] 68):=by rw[aX];exact J_ne Mcl e2
 have s3:Ro W3 63 RPart.cells A2 ts:=by rw[aX];exact s2.kept (zau _ _ _ _) e1 Mcn
 have eZ:Below w.heap.size w W3:=by rw[aX];exact zaO (aG.o.trans (bF.mono aG.o.size)) Mco _
 rw[<-aX];have S3:=zHi s3;have aJ:=zHi eZ;clear aX eZ s3 s2 e1 e2 f4 k4 bF b0 r0 c4 l0 l1;obtain⟨g0,g1,g2,g3,g4,g5,g6⟩:=cF7 b3;obtain⟨t0,t1,t2,t3,t4,t5,t6⟩:=cF7 r3;have f0: ∀j,W3.frozen? ⟨w.heap.size+1,j,none⟩=false:=fun j=>by simp[World.frozen?,r3]
 go_wp2_with fail
 refine bodyPost_ret (v:= .agg #[.int .i64 kd, .int .i64 dy, .string pl, .string fr, .slice A2 ts.length c2, .int .i64 cl, .int .i64 yr]) ?_ rfl ?_
 ·exact zl1 rfl _ _ (w.heap.size+1) _ _ _ _ _ _ _ rfl (zc0 r3)
 ·exact⟨A2,c2,rfl,cA,(((((((S3.o.kept (zau _ _ _ _) r3 Mcn).kept (zau _ _ _ _) (Joins.block_setCell (i:=0) r3 _) Mcn).kept (zau _ _ _ _) (Joins.block_setCell (i:=1) (Joins.block_setCell (i:=0) r3 _) _) Mcn).kept (zau _ _ _ _) (Joins.block_setCell (i:=2) (Joins.block_setCell (i:=1) (Joins.block_setCell (i:=0) r3 _) _) _) Mcn).kept (zau _ _ _ _) (Joins.block_setCell (i:=3) (Joins.block_setCell (i:=2) (Joins.block_setCell (i:=1) (Joins.block_setCell (i:=0) r3 _) _) _) _) Mcn).kept (zau _ _ _ _) (Joins.block_setCell (i:=4) (Joins.block_setCell (i:=3) (Joins.block_setCell (i:=2) (Joins.block_setCell (i:=1) (Joins.block_setCell (i:=0) r3 _) _) _) _) _) Mcn).kept (zau _ _ _ _) (Joins.block_setCell (i:=5) (Joins.block_setCell (i:=4) (Joins.block_setCell (i:=3) (Joins.block_setCell (i:=2) (Joins.block_setCell (i:=1) (Joins.block_setCell (i:=0) r3 _) _) _) _) _) _) Mcn),zaO (zaO (zaO (zaO (zaO (zaO (zaO aJ.o Mco _) Mco _) Mco _) Mco _) Mco _) Mco _) Mco _⟩
theorem own_neC {α:Type} {W:World} {base:Nat} {e t:TypeId} {size:Nat} {f:α->List Value} {v:Value} {xs:List α} {T:Nat} {cs:Array Value} {fr:Nat×Nat} (h:OwnS W base e size f v xs) (hT:W.heap[T]?=some (.cells cs t fr)) (ai:t≠e):za7 v≠some T:=by
 exact M4
theorem znO {α β:Type} {W W':World} {base size:Nat} {e e':TypeId} {f:α->List Value} {g:β->List Value} {v:Value} {A:Option Addr} {xs:List α} {ys:List β} (h:Ro W e' f A xs) (ae:OwnS W base e size g v ys) (hg:W.grownBy W' (za7 v)) (ai:e'≠e):Ro W' e' f A xs:=
 h.same fun b cur fr hb _=>hg.block b (zab hb) (Ne.symm (own_neC ae hb ai))
theorem zi8 {α:Type} {w:World} {b size:Nat} {f:α->List Value} {t:TypeId} {fr:Nat×Nat} {cs:Array Value} {xs:List α} (ag: ∀x,(f x).length=size) (h:w.heap[b]?=some (.cells cs t fr)) (hc:xs.flatMap f=cs.toList):Sl w size f (some ⟨b,0,none⟩) xs:=fun _=>
 ⟨b,0,rfl,zab h,fun k x hk j u hu=>by
   have:=zeR f size ag xs k x hk j u hu;rw[hc]at this;simp only[World.cell?,h,Nat.zero_add]
   simpa using this⟩
theorem zi9 {fn:Func} {p:Tmp} (h:fn.results= #[.cell p 25]) (tmps:Array Value) (w:World) (B:Nat) (x0 x1:Value) (hp:tmps.getD p undef= .pointer (some ⟨B,0,none⟩))
 (hx:w.heap[B]?=some (.cells #[x0,x1] 25)):(results fn tmps).run Tryz.prog w= .ok (.agg #[x0,x1]) w:=by
 obtain⟨h0,h1⟩:=cF2 hx;exact Ma6
theorem slw_of {W:World} {A:Option Addr} {xs:List DV} {ds:List Deed} (h:Sl W 7 DV.cells A xs) (hm:xs.map (·.d)=ds) (hp: ∀x∈xs,x.d.to.length<=x.c/\Sl W 3 RPart.cells x.B x.d.to):SlW W 7 zfC A ds:=fun hl=>by
 subst hm;obtain⟨b,off,hA,hb,hc⟩:=h (by simpa using hl);refine⟨b,off,hA,hb,fun k x hk=> ?_⟩;rw[List.getElem?_map]at hk;obtain⟨y,hy,rfl⟩:=Option.map_eq_some_iff.1 hk;have:=hp y (List.mem_of_getElem? hy);exact⟨y.cells,⟨y.B,y.c,this.1,rfl,this.2⟩,fun j u hu=>hc k y hy j u hu⟩
end Go.Proofs.YtckkbkdcdkhglaaGreatDoor

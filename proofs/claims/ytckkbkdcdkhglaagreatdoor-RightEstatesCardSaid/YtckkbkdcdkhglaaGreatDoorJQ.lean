/- Walk of chapter 5's lines of heirs. -/
import Derived.Test.YtckkbkdcdkhglaaGreatDoorJP
set_option linter.unusedSimpArgs false
set_option linter.unusedVariables false
set_option maxRecDepth 100000
set_option maxHeartbeats 4000000
namespace Go.Proofs.YtckkbkdcdkhglaaGreatDoor
open Go.RowKit Go.Shelf
attribute [local go_sem] World.cell?_alloc_mark zag za5 zaq za8 zaw zax zay zaz za0 za1 za2
attribute [local go_sem] zap zad
abbrev Ln:=ByteArray×Option Addr×Nat×Nat
def lnC (e:Ln):List Value:=[.string e.1, .slice e.2.1 e.2.2.1 e.2.2.2]
theorem zjP (e:Ln):(lnC e).length=2:=rfl
theorem ln_one (e:Ln): ∀u∈lnC e,u.oneCell'=true:=by simp[lnC,Value.oneCell']
theorem elLine:ElTy Tryz.prog 129 160 2 40:=zd5 (z:= .agg #[.string ⟨#[]⟩, .slice none 0 0]) Mcm Mcm rfl Mcn
def ItemsN (W:World) (Q:Nat->Prop):Nat->List Ln->List Tree->Prop
 |0,es,l=>es=[]/\l=[]
 |f+1,es,l=>es.length=l.length/\ ∀(k:Nat) (e:Ln) (t:Tree),es[k]?=some e->l[k]?=some t->(∃n,t= .leaf n/\e=(n,none,0,0))\/
   ∃l' A c es',t= .node l'/\e=(⟨#[]⟩,some A,l'.length,c)/\l'.length<=c/\l'≠[]/\Q A.block/\Ro W 160 lnC (some A) es'/\ItemsN W Q f es' l'
theorem ItemsN.len {W:World} {Q:Nat->Prop} {f:Nat} {es:List Ln} {l:List Tree} (h:ItemsN W Q f es l):es.length=l.length:=by
 cases f with
 |zero=>rw[h.1,h.2];rfl
 |succ f=>exact h.1
theorem ItemsN.turn {W W':World} {Q Q':Nat->Prop} (hb: ∀k,k<W.heap.size->Q k->W'.heap[k]?=W.heap[k]?) (hq: ∀k,k<W.heap.size->Q k->Q' k): ∀ {f:Nat} {es:List Ln} {l:List Tree},ItemsN W Q f es l->ItemsN W' Q' f es l
 |0,_,_,h=>h
 |f+1,es,l,h=>⟨h.1,fun k e t h1 h2=>by
  rcases h.2 k e t h1 h2 with h3|⟨l',A,c,es',h3,h4,h5,h6,hQ,h7,h8⟩
  ·exact .inl h3
  ·have cU:0<es'.length:=by
    rw[h8.len];exact List.length_pos_iff.2 h6
   obtain⟨b,off,cur,fr,hA,rL,hx⟩:=h7 cU;have vw:A=⟨b,off,none⟩:=by simpa using hA
   subst vw;have aa:b<W.heap.size:=(Array.getElem?_eq_some_iff.1 rL).1
   exact .inr ⟨l',_,c,es',h3,h4,h5,h6,hq b aa hQ,fun _=>⟨b,off,cur,fr,rfl,(hb b aa hQ).trans rL,hx⟩,ItemsN.turn hb hq h8⟩⟩
theorem ItemsN.keep {n:Nat} {W W':World} {Q:Nat->Prop} {f:Nat} {es:List Ln} {l:List Tree} (h:ItemsN W Q f es l) (hB:Below n W W') (hn:W.heap.size<=n:=by first|exact Nat.le_refl _|omega):ItemsN W' Q f es l:=
 h.turn (fun k hk _=>hB.block k (Nat.lt_of_lt_of_le hk hn)) (fun _ _ h=>h)
theorem ItemsN.snoc {W:World} {Q:Nat->Prop} {f:Nat} {es:List Ln} {l:List Tree} {e:Ln} {t:Tree} (h:ItemsN W Q (f+1) es l) (ht:(∃n,t= .leaf n/\e=(n,none,0,0))\/
 ∃l' A c es',t= .node l'/\e=(⟨#[]⟩,some A,l'.length,c)/\l'.length<=c/\l'≠[]/\Q A.block/\Ro W 160 lnC (some A) es'/\ItemsN W Q f es' l'):ItemsN W Q (f+1) (es++[e]) (l++[t]):=by
 refine⟨by simp[h.1],fun k x y h1 h2=> ?_⟩;by_cases hk:k<es.length
 ·rw[List.getElem?_append_left hk]at h1;rw[List.getElem?_append_left (by rw[<-h.1];exact hk)]at h2;exact h.2 k x y h1 h2
 ·have fX:k=es.length:=by have:=(List.getElem?_eq_some_iff.1 h1).1;simp at this;omega
  subst fX;rw[List.getElem?_append_right (Nat.le_refl _)]at h1;rw[h.1,List.getElem?_append_right (Nat.le_refl _)]at h2;simp at h1 h2;subst h1 h2;exact ht
def Deep (s:St):Nat->ByteArray->Prop
 |0,_=>False
 |f+1,n=> ∀c∈zai s n,Deep s f c
def zcQ (s:St) (stems:Bool) (frm:ByteArray) (f:Nat) (c:ByteArray):Option Tree:=
 if zdU s c frm then some (.leaf c)else if stems&&!(zb2 s stems frm f c).isEmpty then some (.node (zb2 s stems frm f c))else none
theorem zf7 (s:St) (stems:Bool) (frm:ByteArray) (f:Nat) (n:ByteArray):zb2 s stems frm (f+1) n=(zai s n).filterMap (zcQ s stems frm f):=rfl
theorem zjn {α β:Type} (g:α->Option β) (l:List α) {k:Nat} (h:k<l.length):(l.take (k+1)).filterMap g=(l.take k).filterMap g++(g l[k]).toList:=by
 rw[List.take_succ_eq_append_getElem h,List.filterMap_append];cases hg:g l[k]<;>simp[List.filterMap,hg]
def LinesPost (w:World) (f:Nat) (l:List Tree) (e:Ending) (w':World):Prop:=
 ∃v es,e= .returned v/\OwnS w' w.heap.size 160 2 lnC v es/\ItemsN w' (fun k=>w.heap.size<=k) f es l/\Below w.heap.size w w'/\es.length<=1000
theorem sl_ln {w:World} {b:Nat} {e:Ln} {t:TypeId} {fr:Nat×Nat} (h:w.heap[b]?=some (.cells #[.string e.1, .slice e.2.1 e.2.2.1 e.2.2.2] t fr)):Sl w 2 lnC (some ⟨b,0,none⟩) [e]:=fun _=>⟨b,0,rfl,zab h,fun k y hy j u hu=>by
 have hk:k=0:=Mcx;subst hk;simp only[List.getElem?_cons_zero,Option.some.injEq]at hy;subst hy;match j,hu with
 |0,hu=>simp[lnC]at hu;simp[World.cell?,h,<-hu]
 |1,hu=>simp[lnC]at hu;simp[World.cell?,h,<-hu]
 |j+2,hu=>simp[lnC]at hu⟩
theorem HeirAt.keep {n h b C m:Nat} {W W':World} {law:Law} {who:ByteArray} (hh:HeirAt W h b law who C m) (hB:Below n W W') (hn:W.heap.size<=n:=by first|exact Nat.le_refl _|omega):HeirAt W' h b law who C m:=
 (hB.block h (Nat.lt_of_lt_of_le (zab hh) hn)).trans hh
theorem zlB (base b h C m:Nat) (s:St) (law:Law) (who:ByteArray) (jv: ∀c∈s.children,noB c.2=false) (hl:s.children.length<=1000): ∀(f:Nat) (n:ByteArray) (w:World),PeoAt base w b s->HeirAt w h b law who C m->Deep s f n->
 Calls Tryz.prog 71 #[.pointer (some ⟨h,0,none⟩), .string n] w (LinesPost w f (zb2 s law.stems who f n))
 |0,n,w,_,_,hd=>hd.elim
 |f+1,n,w,hW,hH,hd=>by
  have IH:=zHi (fun(c:ByteArray) (W:World) (hc:c∈zai s n) (h1:PeoAt base W b s) (h2:HeirAt W h b law who C m)=>zlB base b h C m s law who jv hl f c W h1 h2 (hd c hc));have HW:=zHi hW;have HH:=zHi hH;obtain⟨B,d,c,p,wl,r,mv,tv,la,co,h1,h2⟩:=hW;have hb:=zab h1;have hh:=zab hH;unfold WldC at h1;unfold HeirAt at hH;obtain⟨-,c1⟩:=cF2 h1;obtain⟨e0,-,e2⟩:=cF3 hH;obtain⟨KA,kc,eB,fN,iq⟩:=zi1 h2 n;have xn:=eB w (Below.refl _ _);rw[zf7];have bV:(zai s n).length<=1000:=by
   exact Mbe
  have I4:=zHi (fun c (hc:c∈zai s n)=>jv (n,c) (zdr.1 hc));have ii:=zHi iq;generalize iS:zai s n=ks at*;clear h1 h2 hH eB iq hd iS;go_enter Tryz.func71,Tryz.ntmps71
  go_wp2_with fail
  go_loopw [5,19] (fun v i wr=> ∃(k:Nat) (es:List Ln),k<=ks.length/\i= .int .i64 k/\OwnS wr w.heap.size 160 2 lnC v es/\Hid (ItemsN wr (fun j=>w.heap.size<=j/\za7 v≠some j) (f+1) es ((ks.take k).filterMap (zcQ s law.stems who f)))/\Below w.heap.size w wr/\es.length<=k) (fun _ i _=>ks.length-(intOf i).toNat)
  case atStart=>exact⟨0,[],Nat.zero_le _,rfl,OwnS.nil,⟨rfl,fun k e t h1=>by simp at h1⟩,Below.refl _ _,Nat.le_refl _⟩
  case round=>
   obtain⟨k,es,hk,rfl,ae,HI,hB,hel⟩:=hrel;obtain⟨VA,vc,rfl,jk,kC⟩:=ae.sl zjP;clear jk;have HO:=zHi ae;by_cases aa:k<ks.length
   ·obtain⟨b',off,rfl,cK,hc⟩:=(ii.o.keep hB).at aa;have oz:=zjn (zcQ s law.stems who f) ks aa;have bI:ks[k]∈ks:=List.getElem_mem aa;have fZ:=I4.o ks[k] bI;have bJ:=fun W=>IH.o ks[k] W bI
    generalize ks[k]=ch at*;have i0:wr.cell? ⟨b',off+k,none⟩=some (.string ch):=Mdu;have HF:=zHi oz;have HC:=zHi bJ;have cI:zcQ s law.stems who f ch=if ziF s ch who then some (.leaf ch)else if law.stems&&!(zb2 s law.stems who f ch).isEmpty then some (.node (zb2 s law.stems who f ch))else none:=by
     unfold zcQ;rw[able_q,fZ];simp
    have fH:=zHi cI;have ar:(k:Int)<(ks.length:Int):=Mcl;have aT:(0:Int)<=(k:Int):=Mcl;have K6:(k:Int)<=(kc:Int):=Mcl;have E2:wr.cell? ⟨h,2,none⟩=some (.bool law.stems):=(zah hB hh).trans e2;have JT:h<wr.heap.size:=Nat.lt_of_lt_of_le hh hB.size;have E8:=zHi (HW.o.keep (n:=w.heap.size) hB);have DT:=zHi (HH.o.keep (n:=w.heap.size) hB);have kG:=zHi hB;clear hc oz bI fZ bJ cI ae;have uk:=zHi (fun W (oo:Below wr.heap.size wr W)=>zk6 base b h C m s law who ch W (E8.o.keep oo) (DT.o.keep oo));generalize ziF s ch who=ab at*;have aK:=hB.size;have eT:=zHi hel;clear hB hel;cases ab
    ·go_upto_region 8 with(first
      |(go_at_call 68;refine(uk.o _ Bw).mono ?_;rintro e wq ⟨rfl,z,rfl⟩)
      |(go_at_call 71
        refine(HC.o _ (E8.o.keep (n:=wr.heap.size) Bw) (DT.o.keep (n:=wr.heap.size) Bw)).mono ?_;rintro e wq ⟨v2,es2,rfl,o1,o2,o3,o4⟩
        obtain⟨A2,c2,rfl,_,cA⟩:=o1.sl zjP))
     have E2q:wq.cell? ⟨h,2,none⟩=some (.bool law.stems):=(zah o3 Mcu).trans ((za5 _ _ _ _ JT).trans E2);have jE:=o3.size;simp only[zag]at jE;have hhq:h<wq.heap.size:=Mcl;have O2L:=zHi o2.len;have O1:=zHi o1;have O2:=zHi o2;have O3:=zHi o3;have tp:Hid (Below wr.heap.size wr wq):=(zam wr z).trans (o3.mono Mdh);clear o1 o2 o3;have li:=fH.o;simp only[Bool.false_eq_true,if_false]at li;generalize am:law.stems=st at*;by_cases hcond:st=true/\es2.length≠0
     ·obtain⟨rfl,ai⟩:=hcond;have oJ:(zb2 s true who f ch).isEmpty=false:=by
       cases ht:zb2 s true who f ch with
       |nil=>have:=O2L.o;rw[ht]at this;simp at this;rw[this]at ai;simp at ai
       |cons x l=>rfl
      have mL:zcQ s true who f ch=some (.node (zb2 s true who f ch)):=by rw[li,oJ];rfl
      have lZ: ∃ad,A2=some ad/\w.heap.size<=ad.block/\wr.heap.size<=ad.block/\ad.block<wq.heap.size:=by
       rcases O1.o with⟨e,h0⟩|⟨g,o,cap,cur,e,hg,iR,_⟩
       ·rw[h0]at ai;simp at ai
       ·simp only[Value.slice.injEq]at e;refine⟨⟨g,o,none⟩,e.1,?_,?_,zab iR⟩
        ·simp[zag]at hg;show _<=g;omega
        ·simp[zag]at hg;show _<=g;omega
      obtain⟨ad,rfl,Cj,Ck,Cl⟩:=lZ;have eM:(0:Int)<(es2.length:Int):=Mcl;have AM:=zHi mL;have AX:=zHi oJ;clear oJ mL li
      go_wp2_with (at_builtin
                   go_loud(refine zav (v:= .slice VA es.length vc) (n:=es.length) (m:=1) rfl _ _ rfl elLine zjP ln_one rfl (HO.o.keep (n:=wr.heap.size) (zac tp.o _)) rfl rfl rfl (sl_ln (e:=(⟨#[]⟩,some ad,es2.length,c2)) (zar _ _ _ rfl)) (by have:=eT.o;simp[maxLen];omega) (by have:=eT.o;omega) Mcq ?_)
                   intro v3 w3 h1 h2 h3)
      have vJ:ItemsN w3 (fun j=>w.heap.size<=j/\za7 v3≠some j) (f+1) es ((ks.take k).filterMap (zcQ s true who f)):=by
       refine ItemsN.turn ?_ ?_ ((HI.o.keep (n:=wr.heap.size) tp.o).keep (n:=wq.heap.size) (zac (Below.refl _ _) (.cells #[.string ⟨#[]⟩, .slice (some ad) es2.length c2] 160)))
       ·exact fun j hj hQ=>h2.block j hj (fun e=>hQ.2 e.symm)
       ·exact Mbf
      have nM: ∀j,wr.heap.size<=j->za7 (.slice VA es.length vc)≠some j:=fun j hj e=>by have:=(HO.o.ge j e).2;omega
      have dF: ∀j,wr.heap.size<=j->j<wq.heap.size->za7 v3≠some j:=fun j hj FE e=>by
       rcases h3 j e with h|h
       ·exact nM j hj h
       ·simp at h;omega
      have oN:Ro w3 160 lnC (some ad) es2:=by
       intro pH;obtain⟨b2,off2,cur2,fr2,qQ,bS,eR⟩:=O1.o.ro' pH;have bF:ad.block=b2:=by simp only[Option.some.injEq]at qQ;rw[qQ]
       have Cn:=(Array.getElem?_eq_some_iff.1 bS).1;refine⟨b2,off2,cur2,fr2,qQ,?_,eR⟩;rw[h2.block b2 Mcq (fun e=>nM b2 Mcl e.symm)];exact(Below.heap_alloc wq _ b2 Cn).trans bS
      have ER:ItemsN w3 (fun j=>w.heap.size<=j/\za7 v3≠some j) f es2 (zb2 s true who f ch):=by
       refine ItemsN.turn ?_ ?_ (O2.o.keep (n:=wq.heap.size) (zac (Below.refl _ _) (.cells #[.string ⟨#[]⟩, .slice (some ad) es2.length c2] 160)))
       ·exact fun j hj hQ=>h2.block j hj (fun e=>nM j (by simp[zag]at hQ;omega) e.symm)
       ·exact fun j hj hQ=>⟨by simp[zag]at hQ;omega,fun e=>(h3 j e).elim (nM j (by simp[zag]at hQ;omega)) (fun h=>by simp at h hj;omega)⟩
      have vK:=vJ.snoc (e:=(⟨#[]⟩,some ad,es2.length,c2)) (t:= .node (zb2 s true who f ch)) (.inr ⟨_,ad,c2,es2,rfl,by rw[O2L.o],by rw[<-O2L.o];exact cA,(by intro e;have:=AX.o;rw[e]at this;cases this),⟨Cj,dF _ Ck Cl⟩,oN,ER⟩);have eZ:Below w.heap.size w w3:=Below.grown (a:=w) (B:=w.heap.size) (zac (kG.o.trans (tp.o.mono Mcl)) (.cells #[.string ⟨#[]⟩, .slice (some ad) es2.length c2] 160)) h2 Mcq (fun j hj=>(HO.o.ge j hj).1);have m9:=HF.o;rw[AM.o]at m9;have mY:=zHi m9;have kI:=zHi vK;have aJ:=zHi eZ;have H1:=zHi h1;clear vJ vK ER eZ oN nM dF m9 h1 h2 h3;go_wp2_with fail
      go_round
      case rel=>exact⟨k+1,es++[(⟨#[]⟩,some ad,es2.length,c2)],by omega,by go_num,H1.o,by rw[am,mY.o];exact kI.o,aJ.o,by have:=eT.o;simp;omega⟩
      case measure=>simp[intOf];omega
     ·have mL:zcQ s st who f ch=none:=by
       rw[li];cases br:st
       ·rfl
       ·have rS:es2.length=0:=Classical.byContradiction fun h=>hcond ⟨br,h⟩
        have ua:zb2 s true who f ch=[]:=List.eq_nil_of_length_eq_zero (by have:=O2L.o;rw[br]at this;omega);rw[ua];rfl
      have m9:=HF.o;rw[mL]at m9;have mY:=zHi m9;have dS:=zHi hcond;have eZ:Below w.heap.size w wq:=kG.o.trans (tp.o.mono Mcl);have aJ:=zHi eZ;have nh:=zHi (HO.o.keep (n:=wr.heap.size) tp.o);have Hl:=zHi (HI.o.keep (n:=wr.heap.size) tp.o);clear mL m9 eZ li;by_cases eM:(0:Int)<(es2.length:Int)
      ·have oO:st=false:=by
        cases br:st
        ·rfl
        ·exact absurd ⟨br,by omega⟩ dS.o
       clear hcond;subst oO;exact MX
      ·clear hcond;cases st
       ·exact MX
       ·exact MX
    ·go_wp2_with (first
      |(go_at_call 68;refine(uk.o _ Bw).mono ?_;rintro e wq ⟨rfl,z,rfl⟩)
      |(at_builtin;go_loud(refine zav (v:= .slice VA es.length vc) (n:=es.length) (m:=1) rfl _ _ rfl elLine zjP ln_one rfl (HO.o.keep (n:=wr.heap.size) Bw) rfl rfl rfl (sl_ln (e:=(ch,none,0,0)) (zar _ _ _ Mdh)) (by have:=eT.o;simp[maxLen];omega) (by have:=eT.o;omega) Mcu ?_);intro v3 w3 h1 h2 h3))
     have vJ:ItemsN w3 (fun j=>w.heap.size<=j/\za7 v3≠some j) (f+1) es ((ks.take k).filterMap (zcQ s law.stems who f)):=by
      refine ItemsN.turn ?_ ?_ ((HI.o.keep (n:=wr.heap.size) (zam wr z)).keep (n:=(wr.ext z).heap.size) (zac (Below.refl _ _) (.cells #[.string ch, .slice none 0 0] 160)))
      ·exact fun j hj hQ=>h2.block j hj (fun e=>hQ.2 e.symm)
      ·exact Mbf
     have vK:=vJ.snoc (e:=(ch,none,0,0)) (t:= .leaf ch) (.inl ⟨ch,rfl,rfl⟩);have eZ:Below w.heap.size w w3:=Below.grown (a:=w) (B:=w.heap.size) (zac (zbc kG.o z) (.cells #[.string ch, .slice none 0 0] 160)) h2 Mcu (fun j hj=>(HO.o.ge j hj).1);have tk:zcQ s law.stems who f ch=some (.leaf ch):=by rw[fH.o];rfl
     have m9:=HF.o;rw[tk]at m9;have mY:=zHi m9;have kI:=zHi vK;have aJ:=zHi eZ;have H1:=zHi h1;clear vJ vK eZ tk m9 h1 h2 h3;go_wp2_with fail
     go_round
     case rel=>exact⟨k+1,es++[(ch,none,0,0)],by omega,by go_num,H1.o,by rw[mY.o];exact kI.o,aJ.o,by have:=eT.o;simp;omega⟩
     case measure=>simp[intOf];omega
   ·rw[List.take_of_length_le Mcl]at HI;have ar: ¬(k:Int)<(ks.length:Int):=Mcl;go_wp2_with fail
    go_ret
    exact⟨_,es,rfl,HO.o,HI.o.turn (fun _ _ _=>rfl) (fun _ _ h=>h.1),hB,by omega⟩
end Go.Proofs.YtckkbkdcdkhglaaGreatDoor

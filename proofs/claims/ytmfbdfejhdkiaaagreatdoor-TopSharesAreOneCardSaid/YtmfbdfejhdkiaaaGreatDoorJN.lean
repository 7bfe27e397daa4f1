/- Walk of chapter 5's renewal; plain part of surrender. -/
import Derived.Test.YtmfbdfejhdkiaaaGreatDoorJY
import Derived.Deep.RegionHeld3
set_option linter.all false
set_option maxRecDepth 100000
set_option maxHeartbeats 4000000
namespace Go.Proofs.YtmfbdfejhdkiaaaGreatDoor
open Go.RowKit Go.Shelf
attribute [local go_sem] World.cell?_alloc_mark zae za4 zao za8 zav zaw zax zay zaz za0 za1
attribute [local go_sem] zap zac
theorem zln{base:Nat}{W:World}{B:List Nat}{d c p wl r:Nat}{mv:Value}{s:St}(h:PplAt base W B d c p wl r mv s)(n:ByteArray):
 ∃A cc,(∀W',Qa W W'->(Instr.lookup 80 (.map (some c)) (.string n) false).run Tryz.prog W'=.ok (.slice A (zaj s n).length cc) W')/\(zaj s n).length<=cc/\Sl W 1 sC A (zaj s n):=by
 obtain⟨mc,mp,k1,k2,k3,k4,k5,k6⟩:=h.rows;have hl:=fun W' (hB:Qa W W')=>zcp zmB (k1.below hB).at n
 rcases k3 n with⟨h1,h2⟩|⟨v,h1,h2⟩
 ·rw[h1]at hl;refine⟨none,0,fun W' hB=>?_,by rw[h2];exact Qc,by rw[h2];exact Sl.nil⟩;rw[h2];exact hl W' hB
 ·rw[h1]at hl;obtain⟨A,cc,rfl,hS,hc⟩:=h2.sl zaH;exact⟨A,cc,hl,hc,hS⟩
def outM(out:List ByteArray):List (ByteArray×Bool):=out.map fun n=>(n,true)
theorem out_put{out:List ByteArray}{n:ByteArray}(h:n∉out):mput eqS n true (outM out)=outM (out++[n]):=by
 induction out with
 |nil=>rfl
 |cons x out ih=>
  have hx:eqS n x=false:=zci.2 fun e=>h (by simp[e])
  rw[outM,List.map_cons,mput];simp only[hx,Bool.false_eq_true,if_false];have:=ih (fun e=>h (by simp[e]));simp only[outM]at this;rw[this];rfl
theorem out_get(out:List ByteArray)(n:ByteArray):(mget eqS n (outM out)).getD false=out.any (zaf n):=zhN n out
theorem zdX{w:World}{b:Nat}{x:ByteArray}{t:TypeId}{fr:Nat×Nat}(h:w.heap[b]?=some (.cells #[.string x] t fr)):Sl w 1 sC (some ⟨b,0,none⟩) [x]:=fun _=>⟨b,0,rfl,zab h,fun k y hy j u hu=>by
 have hk:k=0:=McD;subst hk;simp only[List.getElem?_cons_zero,Option.some.injEq]at hy;subst hy;match j,hu with
 |0,hu=>simp[sC]at hu;simp[World.cell?,h,<-hu]
 |j+1,hu=>simp[sC]at hu⟩
def DescPost(w:World)(s:St)(nm:ByteArray)(e:Ending)(w':World):Prop:=
 ∃out:List ByteArray,e=.returned (.map (some w.heap.size))/\MapS w' w.heap.size ekS evB (outM out)/\Found s nm out []/\Qa w w'
theorem desc_any(base b:Nat)(s:St)(nm:ByteArray)(w:World)(hW:PeoAt base w b s)(hl:s.children.length<=100000):
 Calls Tryz.prog 148 #[.pointer (some ⟨b,0,none⟩),.string nm] w (DescPost w s nm):=by
 obtain⟨B,d,c,p,wl,r,mv,tv,la,co,h1,h2⟩:=hW;have hb:=zab h1;unfold WldC at h1;have c1:w.cell? ⟨b,1,none⟩=some (.map (some c)):=by simp[World.cell?,h1]
 obtain⟨HP,H1⟩:=yH2 h2 h1;clear h1 h2;have dO:∀x,(zaj s x).length<=100000:=fun x=>by
  have:(zaj s x).length<=s.children.length:=by unfold zaj;rw[List.length_map];exact List.length_filter_le _ _
  omega
 go_enter Tryz.func148,Tryz.ntmps148
 have fC:= @run_makeMap Tryz.prog;go_upto_region 3 with fail
 clear fC;have hcw:=c1;go_loopg [6] (s.children.length+1) (fun gg v wr=>∃out xs:List ByteArray,OwnS wr w.heap.size 9 1 sC v xs/\MapS wr w.heap.size ekS evB (outM out)/\Qa w wr/\w.heap.size+1<=wr.heap.size/\Hid (Found s nm out xs)/\(s.children.length-out.length)+xs.length<=gg/\xs.length<=out.length+1)
 case atStart=>
  refine⟨[],[nm],.inr ⟨w.heap.size+1,0,1,#[.string nm],rfl,by omega,zat _ _ _ Mcv,Qc,by simp[maxLen],by simp,fun j u hj=>?_⟩,?_,Bw,by simp,zm3 s nm,by simp,by simp⟩
  ·match j,hj with
   |0,hj=>simpa[sC]using hj
   |j+1,hj=>simp[sC]at hj
  ·exact(MapS.new w).below (n:=w.heap.size+1) (zad Qb _ Mcv) Mcv
 case round=>
  obtain⟨out,xs,ac,hm,hB,hsz,HF,bl,bX⟩:=hrel;cases xs with
  |nil=>
   obtain⟨A,cc,rfl,hS,hc⟩:=ac.sl zaH;clear ac hS;go_wp2_with fail
   go_ret
   exact⟨out,rfl,hm,HF.o,hB⟩
  |cons x xs=>
   rcases ac with⟨rfl,h0⟩|⟨g,o,cap,cur,rfl,kw,hg,bj,ky,aQ,hx⟩
   ·cases h0
   have ac:OwnS wr w.heap.size 9 1 sC (.slice (some ⟨g,o,none⟩) (x::xs).length cap) (x::xs):=.inr ⟨g,o,cap,cur,rfl,kw,hg,bj,ky,aQ,hx⟩;obtain⟨_,h1c,bT,xA⟩:=ac.tail zaH;have La:wr.cell? ⟨g,o,none⟩=some (.string x):=xA 0 _ rfl;have nP:wr.cell? ⟨b,1,none⟩=some (.map (some c)):=(hB.cell (p:=⟨b,1,none⟩) hb).trans c1;obtain⟨KA,kc,fL,jY,jR⟩:=zln HP.o x;have xP:=fL wr hB;have HK:Hid (∀W',Qa w W'->Sl W' 1 sC KA (zaj s x)):=fun W' h=>jR.keep h
   have wD:Hid (Look s nm x 0 out xs):=found_pop HF.o;have lk:=dO x;have NE:(0:Int)<((x::xs).length:Int):=by simp only[List.length_cons];omega
   have zi:(1:Int)<=((x::xs).length:Int):=Mcq;have zj:(1:Int)<=(xs.length:Int)+1:=Mcq;have pY:(1:Int)<=(cap:Int):=Mcq;obtain⟨hT,hM⟩:=yH2 bT hm;generalize iZ:zaj s x=ks at xP HK lk jY;have ii:=zHi iZ;clear iZ;have xi:=bj;have DP:=aQ;have HG:=zHi hg;clear fL jR hx hg ac xA bT hm HF aQ ky bj;have Dn:Hid (cap=1->OwnS wr w.heap.size 9 1 sC (.slice (some ⟨g,o,none⟩) xs.length 0) xs):=fun e=>by
    have dG:xs=[]:=List.eq_nil_of_length_eq_zero (by simp at xi;omega);subst dG;exact .inr ⟨g,o,0,cur,rfl,kw,HG.o,Qc,Nat.zero_le _,by omega,fun j u hj=>by simp at hj⟩
   clear xi DP;go_upto_region 5 with fail
   go_cut [6]from 13 to 42 (fun v wc=>OwnS wr w.heap.size 9 1 sC v xs/\wr=wc)
   case first=>
    by_cases ao:cap=1
    ·go_wp2_with fail
     all_goals go_meet
     all_goals exact⟨Dn.o ao,rfl⟩
    ·go_wp2_with fail
     all_goals go_meet
     all_goals exact⟨hT.o,rfl⟩
   case rest=>
    obtain⟨ac,rfl⟩:=hcut;clear hT Dn La;have fj:=ac;obtain⟨QA,qc,rfl,Kz,hQc⟩:=fj.sl zaH;clear Kz fj;have HO:=zHi ac;clear ac;go_upto_region 7 with fail
    go_loopg [6,28] ks.length (fun gi v i wi=>∃(j:Nat) (out2 xs2:List ByteArray),j<=ks.length/\ks.length-j<=gi/\i=.int .i64 j/\OwnS wi w.heap.size 9 1 sC v xs2/\MapS wi w.heap.size ekS evB (outM out2)/\Qa w wi/\w.heap.size+1<=wi.heap.size/\Hid (Look s nm x j out2 xs2)/\(s.children.length-out2.length)+xs2.length+1<=gk/\xs2.length<=out2.length)
    case atStart=>exact⟨0,out,xs,Nat.zero_le _,Qc,rfl,HO.o,hM.o,hB,hsz,wD,by simp at bl;omega,by simp at bX;omega⟩
    case round=>
     obtain⟨j,out2,xs2,hj,aK,rfl,mZ,fB,bx,nk,fF,E6,zi⟩:=hrel;have hof:=out_few fF.o.nd fF.o.desc;by_cases aa:j<ks.length
     ·obtain⟨kb,koff,rfl,qj,xI⟩:=(HK.o wr bx).at aa;obtain⟨ch,Av⟩:=Qd (ks[j])
      have c9:wr.cell? ⟨kb,koff+j,none⟩=some (.string ch):=by rw[Av];have:=xI 0 _ rfl;simpa using this
      have dE:=zcp mapSB fB.at ch;rw[out_get]at dE;have xS:(Instr.lookup 79 (.map (some w.heap.size)) (.string ch) false).run Tryz.prog wr=.ok (.bool (out2.any (zaf ch))) wr:=dE;clear dE;have bM:(j:Int)<(ks.length:Int):=Mcq;have sW:(0:Int)<=(j:Int):=Mcq;have Ei:j<(zaj s x).length:=by rw[ii.o];exact aa
      have xm:(zaj s x)[j]=ch:=by rw[Av];simp only[ii.o]
      obtain⟨pK,IJ,dm,pM⟩:=yH4 xm Av mZ fB;clear xI Av xm mZ fB;cases aM:out2.any (zaf ch)
      ·have yu:ch∉out2:=fun h=>by rw[zf1.2 h]at aM;cases aM
       obtain⟨cu,vE⟩:=yH2 aM yu;rw[aM]at xS;clear aM yu;obtain⟨es,c00,AO,Hz⟩:=pM.o;have C1:=zHi AO;clear AO Hz
       go_wp2_with (first
        |(at_mapUpdate;obtain⟨w1,hrun,cM,cK,ee⟩:=zdl mapSB pM.o ch true;go_loud(refine zel rfl _ _ _ rfl _ _ _ rfl rfl rfl w1 hrun ?_))
        |(at_builtin;go_loud(refine zas (v:=u6) (n:=xs2.length) (m:=1) rfl _ _ rfl zbJ zaH zbI rfl ((dm.o.keptM cK C1.o).keep (n:=w1.heap.size) (zad Qb _)) rfl rfl rfl (zdX (zat _ _ _ ee.symm)) McK Mcq Mcw ?_);intro v3 w3 h1 h2 h3))
       go_roundg (ks.length-(j+1))
       case measure=>omega
       case rel=>
        refine⟨j+1,out2++[ch],xs2++[ch],by omega,Qc,by go_num,h1,?_,?_,?_,?_,?_,?_⟩
        ·have K2:MapS (w1.alloc (.cells #[.string ch] 9)) w.heap.size ekS evB (outM (out2++[ch])):=by
          have:=cM.below (n:=w1.heap.size) (zad Qb (.cells #[.string ch] 9));rwa [out_put vE.o]at this
         exact K2.grown h2 (fun e=>by
          have aO:OwnS w1 w.heap.size 9 1 sC _ xs2:=dm.o.keptM cK C1.o;obtain⟨es1,c01,Eo,_⟩:=cM;rcases aO with⟨e1,_⟩|⟨g1,o1,cp1,cur1,e1,_,mK,_⟩
          ·rw[e1]at e;cases e
          ·rw[e1]at e;simp only[za6,Option.some.injEq]at e;subst e;rw[Eo]at mK
           simp at mK)
        ·have eP:Qa w (w1.alloc (.cells #[.string ch] 9)):=zad (bx.grown cK bx.size (fun k e=>by cases e;exact Qc)) _;exact eP.grown h2 eP.size (fun k e=>(dm.o.ge k e).1)
        ·have:=h2.size;simp at this;omega
        ·have:=znE fF.o Ei (by rw[pK.o];exact vE.o);rwa [pK.o]at this
        ·have cR:=znE fF.o Ei (by rw[pK.o];exact vE.o);rw[pK.o]at cR;have:=out_few cR.nd cR.desc;simp at this⊢;omega
        ·simp;omega
      ·have yu:ch∈out2:=zf1.1 aM;have vE:=zHi yu;rw[aM]at xS;clear aM yu;go_wp2_with fail
       go_roundg (ks.length-(j+1))
       case measure=>omega
       case rel=>exact⟨j+1,out2,xs2,by omega,Qc,by go_num,dm.o,pM.o,bx,nk,look_old fF.o Ei (by rw[pK.o];exact vE.o),E6,zi⟩
     ·have bM:¬(j:Int)<(ks.length:Int):=Mcq;have eI:j=(zaj s x).length:=by rw[ii.o];omega
      have vj:Hid (Found s nm out2 xs2):=look_end (by rw[<-eI];exact fF.o);clear eI;go_wp2_with fail
      go_roundg ((s.children.length-out2.length)+xs2.length)
      case measure=>omega
      case rel=>exact⟨out2,xs2,mZ,fB,bx,nk,vj,Qc,by omega⟩
open Classical in
theorem zlo(base b:Nat)(s:St)(nm of:ByteArray)(w:World)(hW:PeoAt base w b s)(hl:s.children.length<=100000):
 Calls Tryz.prog 99 #[.pointer (some ⟨b,0,none⟩),.string nm,.string of] w (Ret w (.bool (decide (Desc s of nm)))):=by
 go_enter Tryz.func99,Tryz.ntmps99
 go_wp2_with (go_at_call 148
              refine(desc_any base b s of _ hW hl).mono ?_;rintro e wq ⟨out,rfl,hm,hf,hB⟩;have dE:(Instr.lookup 79 (.map (some w.heap.size)) (.string nm) false).run Tryz.prog wq=.ok (.bool (out.any (zaf nm))) wq:=by
               have:=zcp mapSB hm.at nm;rw[out_get]at this
               exact this)
 go_ret
 refine Ret.of (zaR ?_) hB;rw[Bool.eq_iff_iff,zf1,decide_eq_true_eq];exact found_end hf nm
theorem ix_step{gs:List Grave}{f:Grave->Bool}{k:Nat}(h:k<gs.length):((gs.drop k).findIdx? f).map (· +k)=if f gs[k]then some k else((gs.drop (k+1)).findIdx? f).map (· +(k+1)):=by
 rw[List.drop_eq_getElem_cons h,List.findIdx?_cons];split
 ·simp
 ·rw[Option.map_map];congr 1
  funext x
  show x+1+k=x+(k+1);omega
theorem ix_end{gs:List Grave}{f:Grave->Bool}{k:Nat}(h:gs.length<=k):((gs.drop k).findIdx? f).map (· +k)=none:=by
 rw[List.drop_eq_nil_of_le h];rfl
theorem ix_start(gs:List Grave)(f:Grave->Bool):gs.findIdx? f=((gs.drop 0).findIdx? f).map (· +0):=by
 rw[List.drop_zero];cases gs.findIdx? f<;>rfl
def zkp(ps:List Nat)(i:Option Nat):Value:=.pointer (i.map fun i=>⟨ps.getD i 0,0,none⟩)
theorem zjD(base b:Nat)(s:St)(la co:Int)(place:ByteArray)(day:Int)(w:World){B ps:List Nat}{d c p wl r:Nat}{mv tv:Value}(hC:WldC w b d c p wl r mv tv la co)(hT:TombsAt base w B tv ps s.graves)(hl:s.graves.length<=100000):
 Calls Tryz.prog 31 #[.pointer (some ⟨b,0,none⟩),.string place,.int .i64 day] w (Ret w (zkp ps (zaS s place day))):=by
 obtain⟨A,cc,rfl,hS,ah⟩:=hT.own.sl zcK;have hb:=zab hC;unfold WldC at hC;have c6:w.cell? ⟨b,6,none⟩=some (.slice A ps.length cc):=by simp[World.cell?,hC]
 have ci:=hT.len;obtain⟨HT,HS⟩:=yH2 hT.all hS;clear hC hT hS;have hR:zaS s place day=((s.graves.drop 0).findIdx? fun g=>zaf g.place place&&zaO g day).map (· +0):=ix_start _ _;generalize zaS s place day=R at*;generalize s.graves=gs at*;have HR:=zHi hR;clear hR;go_enter Tryz.func31,Tryz.ntmps31
 go_wp2_with fail
 go_loopw [14] (fun i wr=>∃k:Nat,k<=ps.length/\i=.int .i64 k/\Hid (R=((gs.drop k).findIdx? fun g=>zaf g.place place&&zaO g day).map (· +k))/\∃z,wr=w.ext z) (fun i _=>ps.length-(intOf i).toNat)
 case atStart=>exact⟨0,Nat.zero_le _,rfl,HR.o,zaU Qb⟩
 case round=>
  obtain⟨k,hk,rfl,HX,z,rfl⟩:=hrel;by_cases aa:k<ps.length
  ·obtain⟨b',off,rfl,cI,hc⟩:=(HS.o.keep (zaq w z)).at aa;have cg:k<gs.length:=Mcq;obtain⟨H,aI,D,dc,fr,t1,t2,t3,t4,t5,t6,t7⟩:=(HT.o k _ _ (List.getElem?_eq_getElem aa) (List.getElem?_eq_getElem cg)).keep (zaq w z);have ai:=HX.o.trans (ix_step cg);have aA:=zHi ai;have ia:ps.getD k 0=ps[k]:=Mdd;have Jo:=zHi ia;clear ai ia t5 t6 t7;generalize ps[k]=T at*;generalize gs[k]=g at*;have cZ:=zab t1;unfold zb1 at t1;have k0:(w.ext z).cell? ⟨T,0,none⟩=some (.string g.place):=Meq;have k3:(w.ext z).cell? ⟨T,3,none⟩=some (.int .i64 g.fin):=Meq;have k4:(w.ext z).cell? ⟨T,4,none⟩=some (.slice H g.holders.length aI):=Meq;have cp:(w.ext z).cell? ⟨b',off+k,none⟩=some (.pointer (some ⟨T,0,none⟩)):=Md6;obtain⟨K3,K4⟩:=yH2 k3 k4;have ar:(k:Int)<(ps.length:Int):=Mcq;have aR:(0:Int)<=(k:Int):=Mcq;clear t1 hc k3 k4;go_wp2_with (go_at_call 62;refine(ziu g H aI T day _ K3.o K4.o).mono ?_;intro e wq hq;rcases Ret.bools hq with⟨zq,rfl,⟨hb,rfl⟩|⟨hb,rfl⟩⟩<;>clear hq)
   all_goals first
    |(go_ret
      have cP:R=some k:=by rw[aA.o];simp[zei,ze3, *]
      rw[cP];refine Ret.of ?_ Bw;show _=Value.pointer (some ⟨ps.getD k 0,0,none⟩);rw[Jo.o]
      rfl)
    |(go_round
      case rel=>exact⟨k+1,by omega,by go_num,(by rw[aA.o];simp[zei,ze3, *]:_=_),zaU Bw⟩
      case measure=>simp[intOf];omega)
  ·have ar:¬(k:Int)<(ps.length:Int):=Mcq;have he:=HX.o.trans (ix_end (f:=fun g=>zaf g.place place&&zaO g day) (by omega:gs.length<=k));have HE:=zHi he;clear he;go_wp2_with fail
   go_ret
   exact Ret.of (by rw[HE.o];rfl) Bw
theorem TombAt.kept{base k T:Nat}{W W':World}{B:List Nat}{g:Grave}{cs:Array Value}{t:TypeId}{fr:Nat×Nat}(h:TombAt W base B T g)(hg:W.grownBy W' (some k))(hx:W.heap[k]?=some (.cells cs t fr))(ag:T≠k)(h1:t≠59)(h2:t≠9):TombAt W' base B T g:=by
 obtain⟨H,hc,D,dc,fr',t1,t2,t3,t4,t5,t6,t7⟩:=h;exact⟨H,hc,D,dc,fr',(hg.block T (zab t1) (fun e=>ag MdP)).trans t1,t2,t3,t4,t5.kept hg hx h1,t6.kept hg hx h2,t7⟩
theorem TombAt.ne{base k T:Nat}{W:World}{B:List Nat}{g:Grave}{cs:Array Value}{t:TypeId}{fr:Nat×Nat}(h:TombAt W base B T g)(hx:W.heap[k]?=some (.cells cs t fr))(h1:t≠90):T≠k:=by
 obtain⟨H,hc,D,dc,fr',t1,t2,_⟩:=h;rintro rfl;rw[t1]at hx;simp only[Option.some.injEq,Obj.cells.injEq]at hx;exact h1 hx.2.1.symm
theorem TombsAt.mem{base:Nat}{W:World}{B ps:List Nat}{tv:Value}{gs:List Grave}(h:TombsAt base W B tv ps gs){T:Nat}(hT:T∈ps):∃g,TombAt W base B T g:=by
 obtain⟨i,hi,rfl⟩:=List.getElem_of_mem hT;exact⟨_,h.all i _ _ (List.getElem?_eq_getElem hi) (List.getElem?_eq_getElem (by have:=h.len;omega))⟩
theorem TombsAt.lt{base:Nat}{W:World}{B ps:List Nat}{tv:Value}{gs:List Grave}(h:TombsAt base W B tv ps gs){T:Nat}(hT:T∈ps):T<W.heap.size:=by
 obtain⟨g,H,hc,D,dc,fr',t1,_⟩:=h.mem hT;exact zab t1
theorem TombsAt.kept{base k:Nat}{W W':World}{B ps:List Nat}{tv:Value}{gs:List Grave}{cs:Array Value}{t:TypeId}{fr:Nat×Nat}(h:TombsAt base W B tv ps gs)(hg:W.grownBy W' (some k))(hx:W.heap[k]?=some (.cells cs t fr))(h1:t≠59)(h2:t≠9)(h3:t≠90)(h4:t≠88):TombsAt base W' B tv ps gs:=
 ⟨h.own.kept hg hx h4,h.len,h.nd,fun i T g e1 e2=>(h.all i T g e1 e2).kept hg hx ((h.all i T g e1 e2).ne hx h3) h1 h2⟩
theorem wldC_set6{W:World}{b d c p wl r:Nat}{mv tv:Value}{la co:Int}(h:WldC W b d c p wl r mv tv la co)(v':Value):WldC (W.setCell ⟨b,6,none⟩ v') b d c p wl r mv v' la co:=by
 unfold WldC at*;have:=Joins.block_setCell (i:=6) h v';simpa using this
theorem wld_push{base b:Nat}{W w1:World}{B ps:List Nat}{d c p wl r T:Nat}{mv tv v':Value}{s:St}{g:Grave}{la co:Int}(hb:base<=b)(hC:WldC W b d c p wl r mv tv la co)(hP:PplAt base W B d c p wl r mv s)(hT:TombsAt base W B tv ps s.graves)
 (hN:TombAt W base B T g)(hn:T∉ps)(h1:OwnS w1 base 88 1 ptrC v' (ps++[T]))(h2:W.grownBy w1 (za6 tv))(h3:∀k,za6 v'=some k->za6 tv=some k\/W.heap.size<=k):
 WldAt base (w1.setCell ⟨b,6,none⟩ v') b {s with graves:=s.graves++[g]} la co/\WldC w1 b d c p wl r mv tv la co:=by
 have cJ:=zab hC;have ac:=hT.own;have aQ:∀k,za6 tv=some k->∃cs fr,W.heap[k]?=some (.cells cs 88 fr):=fun k hk=>by
  exact Ma5
 have jq:za6 tv≠some b:=fun e=>by
  obtain⟨cs,fr,hx⟩:=aQ b e;exact MbR
 have cG:WldC w1 b d c p wl r mv tv la co:=(h2.block b cJ (fun e=>jq e.symm)).trans hC;have Kv:PplAt base w1 B d c p wl r mv s:=by
  cases hk:za6 tv with
  |none=>rw[hk]at h2;exact hP.keep (n:=W.heap.size) ⟨h2.os,h2.tape,h2.output,h2.size,fun i hi=>h2.block i hi Mcv⟩
  |some k=>
   obtain⟨cs,fr,hx⟩:=aQ k hk;rw[hk]at h2;exact hP.kept h2 hx Mcu Mcu Mcu
 have aH:∀ {T':Nat} {g':Grave},TombAt W base B T' g'->TombAt w1 base B T' g':=fun {T' g'} h=>by
  cases hk:za6 tv with
  |none=>rw[hk]at h2;exact h.keep (n:=W.heap.size) ⟨h2.os,h2.tape,h2.output,h2.size,fun i hi=>h2.block i hi Mcv⟩
  |some k=>
   obtain⟨cs,fr,hx⟩:=aQ k hk;rw[hk]at h2;exact h.kept h2 hx (h.ne hx Mcu) Mcu Mcu
 refine⟨?_,cG⟩;have aD:=za2 w1 b 6 v';refine⟨B,d,c,p,wl,r,mv,v',ps++[T],hb,wldC_set6 cG v',?_,?_⟩
 ·have:=Kv.kept aD cG Mcu Mcu Mcu;exact⟨this.nd,this.ge,this.dead,this.rows,this.marr,this.wills,this.ren⟩
 ·refine⟨h1.kept aD cG Mcu,by simp[hT.len],?_,fun i T' g' e1 e2=>?_⟩
  ·rw[List.nodup_append];exact⟨hT.nd,by simp,fun a ha b' cI e=>by rw[List.mem_singleton.1 cI]at e;exact hn (e▸ha)⟩
  ·have fV:TombAt w1 base B T' g':=by
    by_cases hi:i<ps.length
    ·have Lw:i<s.graves.length:=by have:=hT.len;omega
     rw[List.getElem?_append_left hi]at e1;rw[List.getElem?_append_left Lw]at e2;exact aH (hT.all i T' g' e1 e2)
    ·have qi:i=ps.length:=by have:=(List.getElem?_eq_some_iff.1 e1).1;simp at this;omega
     subst qi;simp at e1;rw[hT.len]at e2;simp at e2;subst e1 e2;exact aH hN
   exact fV.kept aD cG (fV.ne cG Mcu) Mcu Mcu
def KeepD(w w':World):Prop:= ∀(k:Nat) (cur:Array Value) (fr:Nat×Nat),w.heap[k]?=some (.cells cur 28 fr)->w'.heap[k]?=w.heap[k]?
section
variable {w w' w2:World}
theorem KeepD.below(h:Qa w w'):KeepD w w':=fun k _ _ hk=>h.block k (zab hk)
theorem KeepD.trans(h:KeepD w w')(h2:KeepD w' w2):KeepD w w2:=fun k cur fr hk=>by
 have e:=h k cur fr hk;exact(h2 k cur fr (e.trans hk)).trans e
theorem KeepD.cells{g:Nat}{cs:Array Value}{t:TypeId}{fr:Nat×Nat}(hg:w.grownBy w' (some g))(hx:w.heap[g]?=some (.cells cs t fr))(ag:t≠28):KeepD w w':=fun k cur f hk=>
 hg.block k (zab hk) (fun e=>by
  simp only[Option.some.injEq]at e;subst e;rw[hx]at hk;simp only[Option.some.injEq,Obj.cells.injEq]at hk
  exact ag hk.2.1)
theorem KeepD.map{g:Nat}{es:Array MapEntry}{c:Nat}(hg:w.grownBy w' (some g))(hx:w.heap[g]?=some (.map es c)):KeepD w w':=fun k cur f hk=>
 hg.block k (zab hk) (fun e=>by
  simp only[Option.some.injEq]at e;subst e;rw[hx]at hk
  simp at hk)
theorem KeepD.own{α:Type}{base:Nat}{e:TypeId}{size:Nat}{f:α->List Value}{v:Value}{xs:List α}(h:OwnS w base e size f v xs)(hg:w.grownBy w' (za6 v))(ag:e≠28):KeepD w w':=by
 rcases h with⟨rfl,_⟩|⟨g,o,c,cur,rfl,_,hx,_⟩
 ·exact fun k cur f hk=>hg.block k (zab hk) Mde
 ·exact KeepD.cells hg hx ag
end
def zbC(base b:Nat)(x:St×Int)(la co:Int)(w:World)(e:Ending)(w':World):Prop:=
 e=.returned (.int .i64 x.2)/\WldAt base w' b x.1 la co/\Below base w w'/\KeepD w w'
def Deed.v(d:Deed)(B:Option Addr)(c:Nat):Value:=.agg #[.int .i64 d.kind,.int .i64 d.day,.string d.place,.string d.frm,.slice B d.to.length c,.int .i64 d.cls,.int .i64 d.years]
theorem zi0{p:RPart}(h:zaA 16 p.num p.den=true):p.rat.num=p.num/\(p.rat.den:Int)=p.den:=⟨(zbl h).1,(zbl h).2.1⟩
theorem zo3(l:List RPart){k:Nat}(h:k<l.length):zbe (l.take (k+1)) []=za5 (zbe (l.take k) []) l[k].name l[k].rat:=by
 rw[List.take_succ_eq_append_getElem h];unfold zbe;rw[List.foldl_append];rfl
theorem sl_ptr{w:World}{b T:Nat}{t:TypeId}{fr:Nat×Nat}(h:w.heap[b]?=some (.cells #[.pointer (some ⟨T,0,none⟩)] t fr)):Sl w 1 ptrC (some ⟨b,0,none⟩) [T]:=fun _=>⟨b,0,rfl,zab h,fun k y hy j u hu=>by
 have hk:k=0:=McD;subst hk;simp only[List.getElem?_cons_zero,Option.some.injEq]at hy;subst hy;match j,hu with
 |0,hu=>simp[ptrC]at hu;simp[World.cell?,h,<-hu]
 |j+1,hu=>simp[ptrC]at hu⟩
theorem zh2:∀ {l:List RPart} {out:Parts} {seen:List ByteArray},zda l seen=true->(∀p∈out,p.1∈seen)->∀k (h:k<l.length),zag (zbe (l.take k) out) l[k].name=0
 | [],_,_,_,_,_,h=>absurd h Mcv
 |p::l,out,seen,hf,ho,0,_=>by
  rw[zda,Bool.and_eq_true]at hf;have h1:p.name∉seen:=by
   have:=hf.1;simp only[Bool.not_eq_true']at this;intro h;rw[zf1.2 h]at this;cases this
  exact(zdM fun q hq e=>h1 (by have e':q.1=p.name:=e;rw[<-e'];exact ho q hq)).1
 |p::l,out,seen,hf,ho,k+1,h=>by
  rw[zda,Bool.and_eq_true]at hf
  exact zh2 (l:=l) (out:=za5 out p.name p.rat) hf.2 (fun q hq=>by
   rcases zfb hq with e|hq
   ·rw[e];simp
   ·exact List.mem_cons_of_mem _ (ho q hq)) k Mdn
theorem zbK{base b:Nat}{s:St}{x:St×Int}{la co er:Int}{w w':World}(hW:WldAt base w b s la co)(hB:Qa w w')(hx:x=(s,er)):zbC base b x la co w (.returned (.int .i64 er)) w':=by
 rw[hx];exact⟨rfl,hW.keep hB,hB.mono (by have:=hW.lt;omega),KeepD.below hB⟩
theorem zmF{shares all:Bool}{frm:ByteArray}{l:List RPart}(h:zcA shares all frm l=true):zda l []=true/\∀p∈l,zaf p.name frm=false:=by
 unfold zcA at h;simp only[Bool.and_eq_true,List.all_eq_true,Bool.not_eq_true']at h;exact⟨h.1.1,h.1.2⟩
theorem set_lit(base T:Nat)(xs:Parts)(v:Value)(pl:ByteArray)(cl fr en:Int)(dv:Value)(p:RPart)(w:World)(hp:zaA 16 p.num p.den=true)(hT:zb1 w T pl cl fr en v dv)(sy:base<=T)(ac:OwnS w base 59 3 zaa v xs)(hA:AscP xs)(hl:xs.length<=90000):
 Calls Tryz.prog 88 #[.pointer (some ⟨T,0,none⟩),.string p.name,.agg #[.int .i64 p.num,.int .i64 p.den]] w (zkm w base T pl cl fr en dv v (setP xs p.name p.rat)):=by
 have h:=ziw base T xs v pl cl fr en dv p.name p.rat w hT sy ac hA hl;rw[(zi0 hp).1,(zi0 hp).2]at h;exact h
theorem good_take{l:List RPart}(h:∀p∈l,0<p.rat/\IsN 720720 p.rat/\zaA 16 p.num p.den=true)(k:Nat):GoodParts (zbe (l.take k) []):=
 (zil (l:=l.take k) zdt Mcv fun p hp=>⟨(h p (List.mem_of_mem_take hp)).1,(h p (List.mem_of_mem_take hp)).2.1⟩).1
theorem zc0(n:ByteArray)(q:Rat):∀l:Parts,(za5 l n q).length<=l.length+1
 | []=>by unfold za5;split<;>simp
 |p::l=>by
  have:=zc0 n q l;unfold za5;split
  ·simp
  ·split
   ·simpa using this
   ·split<;>simp<;>omega
theorem zfk:∀(l:List RPart) (out:Parts),(zbe l out).length<=out.length+l.length
 | [],out=>by simp[zbe]
 |p::l,out=>by
  have h1:=zfk l (za5 out p.name p.rat);have h2:=zc0 p.name p.rat out;show(zbe l (za5 out p.name p.rat)).length<=_;simp;omega
theorem grant_any(base b:Nat)(s:St)(la co:Int)(d:Deed)(B:Option Addr)(c:Nat)(w:World)(hW:WldAt base w b s la co)(hL:LensIn w)(hd:OkD d)(hk:d.kind=0)(ae:s.graves.length<=1000)(ao:d.to.length<=c)(hS:Sl w 3 RPart.cells B d.to):
 Calls Tryz.prog 50 #[.pointer (some ⟨b,0,none⟩),d.v B c] w (zbC base b (zcT s d) la co w):=by
 have am:=hW;obtain⟨Bk,dd,cc,pp,wl,rr,mv,tv,ps,aN,hC,hP,hT⟩:=hW;have hp:=(hd.parts (.inl hk)).2;have bJ:=(zee hp).1;have AA:=(zmF hp).1;have bS:=hd.day;have dM:=hd.years;have br:=hd.len;clear hp hd hk;obtain⟨kd,dy,pl,fr,ts,cl,yr⟩:=d;simp only at*;have cJ:=zab hC;obtain⟨cu,uQ,ak,HW,jh,IU,HC,HP⟩:=yH8 (fun W (hB:Qa w W)=>zjD base b s la co pl dy W (hC.keep hB) (hT.keep hB) Mcq) (fun W (hB:Qa w W)=>zix base b s ts B _ c W rfl Mcq (am.peo.keep hB) (hS.keep hB)) (fun W (hB:Qa w W)=>zjA dy yr W (hL.keep hB) bS.1 bS.2 dM.1 dM.2) am bJ AA hC hP;obtain⟨HT,HS⟩:=yH2 hT hS;clear am hC hP hT hS bJ AA hL;unfold Deed.v;simp only;go_enter Tryz.func50,Tryz.ntmps50
 go_upto_block 0 with fail
 cases bf:zaS s pl dy with
 |some i=>
  rw[bf]at cu;have HG:Hid (zcT s ⟨kd,dy,pl,fr,ts,cl,yr⟩=(s,13)):=by show _=_;simp[zcT,bf]
  clear bf;go_wp2_with (go_at_call 31;refine(cu.o _ Bw).mono ?_;rintro e wq ⟨rfl,z,rfl⟩;simp only[zkp,Option.map_some])
  go_ret
  exact zbK HW.o Bw HG.o
 |none=>
  rw[bf]at cu;have BQ:=zHi bf;clear bf;go_cut [5]from 9 (fun v wc=>v=.int .i64 (if decide (0<yr)then zcg dy yr else-1)/\Hid (zcT s ⟨kd,dy,pl,fr,ts,cl,yr⟩=({s with graves:=s.graves++[⟨pl,cl,if decide (0<yr)then zcg dy yr else-1,zbe ts [],[]⟩]},0))/\Qa w wc/\w.heap.size<wc.heap.size/\wc.heap[w.heap.size]?=some (.cells #[.int .i64 kd,.int .i64 dy,.string pl,.string fr,.slice B ts.length c,.int .i64 cl,.int .i64 yr] 28))
  case first=>
   generalize hR:zcg dy yr=R at*;have HR:=zHi hR;clear hR
   go_wp2_with (first
    |(go_at_call 31;refine(cu.o _ Bw).mono ?_;rintro e wq ⟨rfl,z,rfl⟩;simp only[zkp,Option.map_none])
    |(go_at_call 86;refine(uQ.o _ Bw).mono ?_;intro e wq hq;rcases Ret.bools hq with⟨zq,rfl,⟨hb,rfl⟩|⟨hb,rfl⟩⟩<;>clear hq)
    |(go_at_call 87;refine(ak.o _ Bw).mono ?_;rintro e wq ⟨rfl,z2,rfl⟩))
   all_goals first
    |(go_ret
      exact zbK HW.o Bw (by simp[zcT,BQ.o,HR.o, *]))
    |(go_meet
      refine⟨(by first|(simp[*];done)|(simp[*];omega)),(by first|(simp[zcT,BQ.o,HR.o, *];done)|(simp[zcT,BQ.o,HR.o, *];omega):_=_),Bw,by simp[zae];omega,?_⟩
      repeat(first|exact zat _ _ _ rfl|with_reducible refine zby ?_|with_reducible refine zal ?_))
  case rest=>
   obtain⟨rfl,HG,hB,hsz,g0⟩:=hcut;generalize(if decide (0<yr)=true then zcg dy yr else-1)=en at*;clear cu uQ ak;obtain⟨d0,d1,d2,d3,d4,d5,d6⟩:=cF7 g0;have ag:w.heap.size≠wc.heap.size:=Mcq;have sy:base<=wc.heap.size:=Mcq;have cT:wc.heap.size∉ps:=fun h=>by have:=HT.o.lt h;omega
   have G0:=zHi g0;clear g0;go_wp2_with fail
   go_loopw [45] (fun i wr=>∃(k:Nat) (v:Value),k<=ts.length/\i=.int .i64 k/\zb1 wr wc.heap.size pl cl dy en v (.slice none 0 0)/\OwnS wr wc.heap.size 59 3 zaa v (zbe (ts.take k) [])/\Qa wc wr) (fun i _=>ts.length-(intOf i).toNat)
   case atStart=>exact⟨0,.slice none 0 0,Nat.zero_le _,rfl,zat _ _ _ rfl,OwnS.nil,Bw⟩
   case round=>
    obtain⟨k,v,hk,rfl,wR,wL,nL⟩:=hrel;have io:Qa w wr:=hB.trans (nL.mono Mcq);have qF:=nL.size;have cZ:=zab wR;have bL:=good_take jh.o k;have cg:=zfk (ts.take k) [];have Lp:(ts.take k).length<=8:=Mdm;have zF:=zHi bL;simp only[List.length_nil,Nat.zero_add]at cg;clear bL;by_cases aa:k<ts.length
    ·obtain⟨b',off,rfl,cI,hc⟩:=(HS.o.keep io).at aa;have ck:=zh2 (out:=[]) IU.o Mcv k aa;have gU:=jh.o ts[k] (List.getElem_mem aa);have aD:=zo3 ts aa;generalize ts[k]=p at*;obtain⟨pn,pu,pd⟩:=p;have h0:wr.cell? ⟨b',off+k*3,none⟩=some (.string pn):=hc 0 _ rfl;have h1:wr.cell? ⟨b',off+k*3+1,none⟩=some (.int .i64 pu):=hc 1 _ rfl;have h2:wr.cell? ⟨b',off+k*3+2,none⟩=some (.int .i64 pd):=hc 2 _ rfl;have HN:Hid (setP (zbe (ts.take k) []) pn (RPart.rat ⟨pn,pu,pd⟩)=zbe (ts.take (k+1)) []):=by
      show _=_;have:=zip zF.o (n:=pn) (q:=RPart.rat ⟨pn,pu,pd⟩) (by have:=gU.1;grind);simp only at ck;rw[ck,Rat.zero_add]at this;rw[this,aD]
     have gy:=zHi (fun W (jP:Qa wr W)=>set_lit wc.heap.size wc.heap.size (zbe (ts.take k) []) v pl cl dy en (.slice none 0 0) ⟨pn,pu,pd⟩ W gU.2.2 ((jP.block _ cZ).trans wR) Qc (wL.keep jP) zF.o.asc Mcq);have ar:(k:Int)<(ts.length:Int):=Mcq;have aR:(0:Int)<=(k:Int):=Mcq;have jY:(k:Int)<=(c:Int):=Mcq;clear hc ck gU aD wR wL;go_wp2_with (go_at_call 88;refine(gy.o _ Bw).mono ?_;rintro e wq ⟨rfl,v',t1,t2,t3,_⟩)
     go_round
     case rel=>exact⟨k+1,v',by omega,by go_num,t1,by rw[<-HN.o];exact t2,Below.trans Bw t3⟩
     case measure=>simp[intOf];omega
    ·have ar:¬(k:Int)<(ts.length:Int):=Mcq;rw[List.take_of_length_le Mcq]at wL;obtain⟨HA,pX,rfl,uz,dZ⟩:=wL.ro;have hN:TombAt wr base Bk wc.heap.size ⟨pl,cl,en,zbe ts [],[]⟩:=⟨HA,pX,none,0,dy,wR,sy,uz,Qc,dZ,Ro.nil,by simp⟩
     have HN:=zHi hN;have Aa:WldC wr b dd cc pp wl rr mv tv la co:=HC.o.keep io;unfold WldC at Aa;obtain⟨-,-,-,-,-,-,c6⟩:=cF7 Aa;have DK:b<wr.heap.size:=zab Aa;have kI:ps.length<=1000:=by rw[HT.o.len];exact ae
     have fA:=HT.o.own.ge;have IX:=zHi fA;clear wR wL dZ hN Aa fA
     go_wp2_with (at_builtin
                  go_loud(refine zas (v:=tv) (n:=ps.length) (m:=1) rfl _ _ rfl elTomb zcK znL rfl (HT.o.own.keep (n:=w.heap.size) Bw) rfl rfl rfl (sl_ptr (zat _ _ _ rfl)) McK Mcq Mcw ?_)
                  intro v3 w3 h1 h2 h3;obtain⟨A3,q3,Il,_,_⟩:=h1.sl zcK;rw[List.length_append]at Il;subst Il;go_loud(obtain⟨qw,mC⟩:=wld_push aN (HC.o.keep (n:=w.heap.size) Bw) (HP.o.keep (n:=w.heap.size) Bw) (HT.o.keep (n:=w.heap.size) Bw) (HN.o.keep (n:=wr.heap.size) Bw) cT h1 h2 h3)
                  have gZ:=zHi qw;go_loud(have av:=Below.grown (B:=base) (a:=w) (Below.mono (B:=w.heap.size) Bw Mcq) h2 Mcw (fun j hj=>(IX.o j hj).1))
                  go_loud(have cC:=((KeepD.below (w:=w) Bw).trans (KeepD.own (HT.o.own.keep (n:=w.heap.size) Bw) h2 Mcu)).trans (KeepD.cells (za2 w3 b 6 (.slice A3 (ps.length+[wc.heap.size].length) q3)) mC Mcu))
                  have kT:=zHi cC;unfold WldC at mC;have k6:w3.cell? ⟨b,6,none⟩=some tv:=(by simp only[World.cell?,mC];rfl)
                  have f6:w3.frozen? ⟨b,6,none⟩=false:=(by simp only[World.frozen?,mC];rfl)
                  have aJ:=zHi av
                  clear qw mC av h1 h2 h3 cC)
     go_ret
     rw[HG.o];exact⟨rfl,gZ.o,zaN aJ.o aN _,kT.o⟩
def zfl{α:Type}(w:World)(e:TypeId)(size:Nat)(f:α->List Value)(xs:List α)(en:Ending)(w':World):Prop:=
 ∃v,en=.returned v/\OwnS w' w.heap.size e size f v xs/\Qa w w'
theorem zeB(xs:List (ByteArray×Rat))(L:Option Addr)(n lc:Nat)(w:World)(hn:n=xs.length)(hl:xs.length<=100000)(hS:Sl w 3 zaa L xs):
 Calls Tryz.prog 56 #[.slice L n lc] w (zfl w 59 3 zaa xs):=by
 have HM:=zHi hn;have q22:∀(w:World) (a:Option Addr) (n c n' c':Nat),(binOp .eql 26 (.slice a n c) (.slice none n' c')).run Tryz.prog w=.ok (.bool a.isNone) w:=fun w a n c n' c'=>Lib.run_eql_slice_nil w _ _ a n c n' c' Tryz.underlying26
 clear hn;go_enter Tryz.func56,Tryz.ntmps56
 cases L with
 |none=>
  exact ML
 |some ad=>
  go_wp2_with (at_builtin;refine zcm rfl _ _ rfl zdW zai zcb rfl (World.ownsRow_made w #[] 0 Qc (Nat.zero_le _) Mcv) rfl HM.o (hS.keep Bw) ?q1 ?q2 Mcv ?_)
  case q1=>simp[maxLen,HM.o];omega
  case q2=>simp[HM.o];omega
  intro v' w' h1 h2 h3;go_wp2_with fail
  go_ret
  refine⟨v',rfl,OwnS.of_own zai MdV,Below.grown Bw h2 Mcv Mc6⟩
theorem zlp(xs:List ByteArray)(L:Option Addr)(n lc:Nat)(w:World)(hn:n=xs.length)(hl:xs.length<=100000)(hS:Sl w 1 sC L xs):
 Calls Tryz.prog 96 #[.slice L n lc] w (zfl w 9 1 sC xs):=by
 have HM:=zHi hn;have q22:∀(w:World) (a:Option Addr) (n c n' c':Nat),(binOp .eql 32 (.slice a n c) (.slice none n' c')).run Tryz.prog w=.ok (.bool a.isNone) w:=fun w a n c n' c'=>Lib.run_eql_slice_nil w _ _ a n c n' c' Tryz.underlying32
 clear hn;go_enter Tryz.func96,Tryz.ntmps96
 cases L with
 |none=>
  exact ML
 |some ad=>
  go_wp2_with (at_builtin;refine zcm rfl _ _ rfl zbJ zaH zbI rfl (World.ownsRow_made w #[] 0 Qc (Nat.zero_le _) Mcv) rfl HM.o (hS.keep Bw) ?q1 ?q2 Mcv ?_)
  case q1=>simp[maxLen,HM.o];omega
  case q2=>simp[HM.o];omega
  intro v' w' h1 h2 h3;go_wp2_with fail
  go_ret
  refine⟨v',rfl,OwnS.of_own zaH MdV,Below.grown Bw h2 Mcv Mc6⟩
def MarkAt(W:World)(C:Nat)(f:Bool):Prop:=W.heap[C]?=some (.cells #[.bool f] 133)
theorem MarkAt.drew{W:World}{C:Nat}{f:Bool}(h:MarkAt W C f):MarkAt W.drew C f:=h
theorem MarkAt.ext{W:World}{C:Nat}{f:Bool}(h:MarkAt W C f)(z:Ez):MarkAt (W.ext z) C f:=zby h
theorem MarkAt.alloc{W:World}{C:Nat}{f:Bool}(h:MarkAt W C f)(o:Obj):MarkAt (W.alloc o) C f:=zal h
theorem MarkAt.keep{n:Nat}{W W':World}{C:Nat}{f:Bool}(h:MarkAt W C f)(hB:Below n W W')(hn:C<n):MarkAt W' C f:=(hB.block C hn).trans h
theorem MarkAt.grown{W W':World}{C:Nat}{f:Bool}{k:Nat}(h:MarkAt W C f)(hg:W.grownBy W' (some k))(hn:C≠k):MarkAt W' C f:=(hg.block C (zab h) (fun e=>hn MdP)).trans h
theorem zah{n b o:Nat}{w W:World}(h:Below n w W)(hb:b<n):W.cell? ⟨b,o,none⟩=w.cell? ⟨b,o,none⟩:=h.cell (p:=⟨b,o,none⟩) hb
theorem zbd{k b o:Nat}{w W:World}(h:w.grownBy W (some k))(hb:b<w.heap.size)(hk:b≠k):W.cell? ⟨b,o,none⟩=w.cell? ⟨b,o,none⟩:=
 World.cell?_of_block (w:=w) (h.block b hb (fun e=>hk MdP))
def zeC(w:World)(C:Nat)(f:Bool)(r:Rat)(e:Ending)(w':World):Prop:=
 e=.returned (zaD (zbi r))/\MarkAt w' C (f||bigQ r)/\w.grownBy w' (some C)
theorem zlq(w:World)(z:Ez)(row:Option Nat):w.grownBy (w.ext z) row:=zkU (zc3 w row) z
theorem zi1{w w':World}{C:Nat}{f:Bool}{r:Rat}{e:Ending}(hC:MarkAt w C f)(h:ze2 w C r e w'):zeC w C f r e w':=by
 unfold MarkAt at hC;rcases h with⟨hd,rfl,z,rfl⟩|⟨hd,rfl,z,rfl⟩
 ·have hb:bigQ r=false:=by unfold bigQ;simp;omega
  refine⟨by rw[zfd hb],?_,zlq _ _ _⟩;rw[hb,Bool.or_false];exact zby hC
 ·have hb:bigQ r=true:=by unfold bigQ;simp;omega
  refine⟨by unfold zbi;rw[hb];rfl,?_,zkU (za2 _ _ _ _) z⟩;rw[hb,Bool.or_true];refine zby ?_;have:=Joins.block_setCell (i:=0) hC (.bool true);simpa using this
theorem zbR{w:World}{C:Nat}{f:Bool}(hC:MarkAt w C f):w.cell? ⟨C,0,none⟩=some (.bool f)/\C<w.heap.size/\w.frozen? ⟨C,0,none⟩=false:=by
 have h:=zab hC;unfold MarkAt at hC;exact⟨by simp[World.cell?,hC],h,by simp[World.frozen?,hC]⟩
theorem zhO(C:Nat)(f:Bool)(w:World)(hC:MarkAt w C f)(p q:Rat)(hp:zaL p)(hq:zaL q):Calls Tryz.prog 91 #[.pointer (some ⟨C,0,none⟩),zaD p,zaD q] w (zeC w C f (p*q)):=
 (cmul5_any C f w (zbR hC).1 (zbR hC).2.1 (zbR hC).2.2 p q hp hq).mono fun _ _ h=>zi1 hC h
theorem zhP(C:Nat)(f:Bool)(w:World)(hC:MarkAt w C f)(p q:Rat)(hp:zaL p)(hq:zaL q):Calls Tryz.prog 92 #[.pointer (some ⟨C,0,none⟩),zaD p,zaD q] w (zeC w C f (p+q)):=
 (cadd5_any C f w (zbR hC).1 (zbR hC).2.1 (zbR hC).2.2 p q hp hq).mono fun _ _ h=>zi1 hC h
theorem znO(C:Nat)(f:Bool)(w:World)(hC:MarkAt w C f)(p q:Rat)(hp:zaL p)(hq:zaL q)(h0:0<q):Calls Tryz.prog 93 #[.pointer (some ⟨C,0,none⟩),zaD p,zaD q] w (zeC w C f (p/q)):=
 (cquo5_any C f w (zbR hC).1 (zbR hC).2.1 (zbR hC).2.2 p q hp hq h0).mono fun _ _ h=>zi1 hC h
theorem zi2{base b i T:Nat}{W W':World}{B ps:List Nat}{d c p wl r:Nat}{mv tv:Value}{s:St}{g':Grave}{la co:Int}{cs:Array Value}{fr:Nat×Nat}(hb:base<=b)(hC:WldC W b d c p wl r mv tv la co)(hP:PplAt base W B d c p wl r mv s)(hT:TombsAt base W B tv ps s.graves)
 (hi:ps[i]?=some T)(hx:W.heap[T]?=some (.cells cs 90 fr))(hg:W.grownBy W' (some T))(hN:TombAt W' base B T g'):WldAt base W' b (s.withGrave i g') la co:=by
 have sy:b≠T:=fun e=>by
  subst e;exact MbR
 have cB:WldC W' b d c p wl r mv tv la co:=(hg.block b (zab hC) (fun e=>sy MdP)).trans hC;refine⟨B,d,c,p,wl,r,mv,tv,ps,hb,cB,?_,?_⟩
 ·have:=hP.kept hg hx Mcu Mcu Mcu;exact⟨this.nd,this.ge,this.dead,this.rows,this.marr,this.wills,this.ren⟩
 ·refine⟨hT.own.kept hg hx Mcu,by simp[St.withGrave,hT.len],hT.nd,fun j T' g e1 e2=>?_⟩;simp only[St.withGrave]at e2;by_cases hj:i=j
  ·subst hj;rw[hi]at e1;have fg:i<s.graves.length:=MdN;exact Mbs
  ·exact Mat
theorem zex{base:Nat}{W:World}{B ps:List Nat}{tv:Value}{s:St}{place:ByteArray}{day:Int}{i:Nat}(hT:TombsAt base W B tv ps s.graves)(h:zaS s place day=some i):
 ∃T g,ps[i]?=some T/\ps.getD i 0=T/\s.graves[i]?=some g/\s.graves.getD i zjj=g/\TombAt W base B T g/\zaO g day=true:=by
 obtain⟨g,h1,h2,h3⟩:=zch h;have hi:i<ps.length:=by have:=(List.getElem?_eq_some_iff.1 h1).1;have:=hT.len;omega
 refine⟨ps[i],g,List.getElem?_eq_getElem hi,by rw[List.getD_eq_getElem?_getD,List.getElem?_eq_getElem hi];rfl,h1,zgv h1,hT.all i _ g (List.getElem?_eq_getElem hi) h1,h3⟩
theorem zi3{W:World}{T:Nat}{cs0 cs1 cs2 cs3 cs4 cs5:Value}{fr:Nat×Nat}(h:W.heap[T]?=some (.cells #[cs0,cs1,cs2,cs3,cs4,cs5] 90 fr))(a0 a1 a2 a3 a4 a5:Value):
 ((((((W.setCell ⟨T,0,none⟩ a0).setCell ⟨T,1,none⟩ a1).setCell ⟨T,2,none⟩ a2).setCell ⟨T,3,none⟩ a3).setCell ⟨T,4,none⟩ a4).setCell ⟨T,5,none⟩ a5).heap[T]?=some (.cells #[a0,a1,a2,a3,a4,a5] 90 fr):=by
 have:=Joins.block_setCell (i:=5) (Joins.block_setCell (i:=4) (Joins.block_setCell (i:=3) (Joins.block_setCell (i:=2) (Joins.block_setCell (i:=1) (Joins.block_setCell (i:=0) h a0) a1) a2) a3) a4) a5;simpa using this
theorem zca(W:World)(T:Nat)(a0 a1 a2 a3 a4 a5:Value):W.grownBy ((((((W.setCell ⟨T,0,none⟩ a0).setCell ⟨T,1,none⟩ a1).setCell ⟨T,2,none⟩ a2).setCell ⟨T,3,none⟩ a3).setCell ⟨T,4,none⟩ a4).setCell ⟨T,5,none⟩ a5) (some T):=
 zbo (zbo (zbo (zbo (zbo (za2 _ _ _ _) (za2 _ _ _ _)) (za2 _ _ _ _)) (za2 _ _ _ _)) (za2 _ _ _ _)) (za2 _ _ _ _)
def zeD(l:List RPart):Rat:=1-sumQ (zan l)
theorem zlr(l:List RPart){k:Nat}(h:k<l.length):zeD (l.take (k+1))=zeD (l.take k)-l[k].rat:=by
 have hs:∀a b:Parts,sumQ (a++b)=sumQ a+sumQ b:=fun a b=>by
  exact Mbo
 unfold zeD;rw[List.take_succ_eq_append_getElem h];unfold zan;rw[List.map_append,hs];simp only[List.map_cons,List.map_nil,sumQ];grind
theorem znP{l:List RPart}(h:∀p∈l,0<p.rat):∀k,0<=sumQ (zan (l.take k))/\sumQ (zan (l.take k))<=sumQ (zan l):=fun k=>by
 have hs:∀a b:Parts,sumQ (a++b)=sumQ a+sumQ b:=fun a b=>by
  exact Mbo
 have hp:∀m:List RPart,(∀p∈m,0<p.rat)->0<=sumQ (zan m):=fun m hm=>zbu fun p hp=>by
  obtain⟨q,hq,rfl⟩:=List.mem_map.1 hp;have:=hm q hq;show 0<=q.rat;grind
 refine⟨hp _ fun p hp=>h p (List.mem_of_mem_take hp),?_⟩;have h2:=hp (l.drop k) fun p hp=>h p (List.mem_of_mem_drop hp)
 have e:zan l=zan (l.take k)++zan (l.drop k):=by
  unfold zan;rw[<-List.map_append,List.take_append_drop]
 rw[e,hs];grind
theorem zi4{l:List RPart}(h:∀p∈l,0<p.rat/\IsN 720720 p.rat/\zaA 16 p.num p.den=true):∀k,Fits (zeD (l.take k))
 |0=>by
  show Fits (1-0);rw[show(1:Rat)-0=1 by grind];exact fits_one
 |k+1=>by
  by_cases hk:k<l.length
  ·rw[zlr l hk];exact(zi4 h k).sub (zeq (h _ (List.getElem_mem hk)).2.2)
  ·rw[show l.take (k+1)=l.take k by rw[List.take_of_length_le Mcq,List.take_of_length_le Mcq]];exact zi4 h k
theorem subS_any(s:Rat)(a b:Int)(W:World)(hs:zaL s)(h:zaA 16 a b=true):Calls Tryz.prog 90 #[.agg #[.int .i64 s.num,.int .i64 s.den],.agg #[.int .i64 a,.int .i64 b]] W (Ret W (zaD (s-Rat.divInt a b))):=by
 obtain⟨h1,h2,h3,h4⟩:=zbl h;have:=zhE s (Rat.divInt a b) W hs ((zeq h).small (Rat.le_trans Mcu h3) (Rat.le_trans h4 Mcu));unfold zaD at this⊢;rw[h1,h2]at this;exact this
theorem mulS_any(C:Nat)(f:Bool)(w:World)(hC:MarkAt w C f)(p:Rat)(a b:Int)(hp:zaL p)(h:zaA 16 a b=true):Calls Tryz.prog 91 #[.pointer (some ⟨C,0,none⟩),.agg #[.int .i64 p.num,.int .i64 p.den],.agg #[.int .i64 a,.int .i64 b]] w (zeC w C f (p*Rat.divInt a b)):=by
 obtain⟨h1,h2,h3,h4⟩:=zbl h;have:=zhO C f w hC p (Rat.divInt a b) hp ((zeq h).small (Rat.le_trans Mcu h3) (Rat.le_trans h4 Mcu));unfold zaD at this;rw[h1,h2]at this;exact this
theorem zls{s:St}{d:Deed}{i:Nat}{g:Grave}(bf:zaS s d.place d.day=some i)(hg:s.graves.getD i zjj=g)(hG:GoodG g)(hp:∀p∈zan d.to,0<=p.2)(h1:sumQ (zan d.to)<=1):
 zbs s d=if g.cls==4 then(s,15)else if zag g.holders d.frm==0 then(s,19)else if ze1 s d.to then(s,28)else
  if(zcy g.holders d.frm (zan d.to)).2 then(s,8)else(s.withGrave i {g with holders:=(zcy g.holders d.frm (zan d.to)).1},0):=by
 have hs:=zkk (frm:=d.frm) hG.good hG.small hp h1;unfold zbs;rw[bf];simp only[hg];cases hb:bigQ (zag g.holders d.frm*(1-sumQ (zan d.to)))
 ·rw[hb]at hs;simp only[Bool.false_eq_true,if_false]at hs⊢;rw[hs];cases(zcy g.holders d.frm (zan d.to)).2<;>rfl
 ·rw[hb]at hs;simp only[if_true]at hs⊢;cases ht:(zcy g.holders d.frm (zan d.to)).2
  ·rw[ht]at hs;simp at hs
  ·rfl
theorem OwnS.base_le{α:Type}{W:World}{base base':Nat}{e:TypeId}{size:Nat}{f:α->List Value}{v:Value}{xs:List α}(h:OwnS W base e size f v xs)(hb:base'<=base):OwnS W base' e size f v xs:=by
 rcases h with h|⟨g,o,cap,cur,rfl,h1,h2⟩
 ·exact .inl h
 ·exact .inr ⟨g,o,cap,cur,rfl,Nat.le_trans hb h1,h2⟩
theorem zjE{a b:Rat}(ha:0<=a)(oO:a<=1)(hb:0<=b)(aO:b<=1):a*b<=1:=by
 have:=Rat.mul_nonneg ha (show 0<=1-b by grind);grind
theorem OwnS.sl'{α:Type}{W:World}{base:Nat}{e:TypeId}{size n c:Nat}{f:α->List Value}{A:Option Addr}{xs:List α}(ae:∀x,(f x).length=size)(h:OwnS W base e size f (.slice A n c) xs):Sl W size f A xs:=by
 obtain⟨A2,c2,e,hs,_⟩:=h.sl ae;cases e;exact hs
theorem OwnS.ro'{α:Type}{W:World}{base:Nat}{e:TypeId}{size n c:Nat}{f:α->List Value}{A:Option Addr}{xs:List α}(h:OwnS W base e size f (.slice A n c) xs):Ro W e f A xs:=by
 obtain⟨A2,c2,e,_,hs⟩:=h.ro;cases e;exact hs
theorem Bd.up{out:Parts}{t u:Rat}(h:Bd out t)(hu:t<=u):Bd out u:=⟨h.good,h.small,Rat.le_trans h.le hu⟩
theorem zi5{g:Grave}{frm:ByteArray}{ts:List RPart}(hG:GoodG g)(h:∀p∈ts,0<p.rat/\IsN 720720 p.rat/\zaA 16 p.num p.den=true)(h1:sumQ (zan ts)<=1):
 0<=zag g.holders frm/\zaL (zag g.holders frm)/\zag g.holders frm<=1/\∀k,Bd (zej (zag g.holders frm) (zan (ts.take k)) (setP g.holders frm (zbi (zag g.holders frm*zeD ts)),bigQ (zag g.holders frm*zeD ts))).1 1:=by
 have ho:=zb7 hG.good frm;have bu:=zdz hG.good frm;have dS:sumQ g.holders<=1:=by
  rcases hG.one with h|h
  ·rw[h];decide
  ·rw[h];exact Rat.le_refl
 have ai:=fun k=>znP (fun p hp=>(h p hp).1) (l:=ts) k
 have h0:=(ai 0)
 have Gt:0<=sumQ (zan ts):=Rat.le_trans h0.1 h0.2;have hr:0<=zag g.holders frm*zeD ts:=Rat.mul_nonneg ho (by unfold zeD;grind);have hb:Bd (setP g.holders frm (zbi (zag g.holders frm*zeD ts))) (1-zag g.holders frm*sumQ (zan ts)):=by
  refine⟨zhK hG.good (zcx hr),zet hG.small (zg0 _),?_⟩;rw[zm5 hG.good];have:=zhi hr;unfold zeD at*;grind
 refine⟨ho,zbZ ho McN (zcQ frm hG.small),by grind,fun k=>?_⟩
 have:=zm6 ho (l:=zan (ts.take k)) (f:=bigQ (zag g.holders frm*zeD ts)) (fun p hp=>by
  obtain⟨q,hq,rfl⟩:=List.mem_map.1 hp;have:=(h q (List.mem_of_mem_take hq)).1;show 0<=q.rat
  grind) hb
 refine this.up ?_;have h3:=Rat.mul_nonneg ho (show 0<=sumQ (zan ts)-sumQ (zan (ts.take k)) by have:=(ai k).2;grind);grind
theorem gain_snoc(own:Rat)(ts:List RPart)(x:Parts×Bool){k:Nat}(h:k<ts.length):zej own (zan (ts.take (k+1))) x=zfe own (ts[k].name,ts[k].rat) (zej own (zan (ts.take k)) x):=by
 rw[List.take_succ_eq_append_getElem h];unfold zan;rw[List.map_append,zff];rfl
theorem rest_none(ts:List RPart):zeD (ts.take 0)=1:=by
 show(1:Rat)-0=1;grind
def zbw(q:Rat):Obj:=.cells #[.int .i64 q.num,.int .i64 q.den] 57
theorem zlt(base b:Nat)(s:St)(la co last:Int)(d:Deed)(B:Option Addr)(c:Nat)(w:World)(hW:WldAt base w b s la co)(jm:GoodSt s last)(hd:OkD d)(hk:d.kind=1)(ae:s.graves.length<=1000)(cg:∀g∈s.graves,g.holders.length<=10000)(ao:d.to.length<=c)(hS:Sl w 3 RPart.cells B d.to):
 Calls Tryz.prog 51 #[.pointer (some ⟨b,0,none⟩),d.v B c] w (zbC base b (zbs s d) la co w):=by
 have hp:=(hd.parts (.inr (.inl hk))).2;obtain⟨bJ,dS,_,_⟩:=zee hp;have br:=hd.len;clear hp hd hk
 have se:=fun i g h1 h2 h3=>zls (s:=s) (d:=d) (i:=i) (g:=g) h1 h2 h3 (fun p hp=>by
  obtain⟨q,hq,rfl⟩:=List.mem_map.1 hp;have:=(bJ q hq).1;show 0<=q.rat
  grind) dS
 have am:=hW;obtain⟨Bk,dd,cc,pp,wl,rr,mv,tv,ps,aN,hC,hP,hT⟩:=hW;have cJ:=zab hC;obtain⟨kd,dy,pl,fr,ts,cl,yr⟩:=d;simp only at*;obtain⟨cu,uQ,HW,jh,pP,HC,HP,HS⟩:=yH8 (fun W (hB:Qa w W)=>zjD base b s la co pl dy W (hC.keep hB) (hT.keep hB) Mcq) (fun W (hB:Qa w W)=>zix base b s ts B _ c W rfl Mcq (am.peo.keep hB) (hS.keep hB)) am bJ dS hC hP hS;cases bf:zaS s pl dy with
 |none=>
  rw[bf]at cu;have HG:Hid (zbs s ⟨kd,dy,pl,fr,ts,cl,yr⟩=(s,6)):=by show _=_;simp[zbs,bf]
  clear bf se am hC hP hT hS bJ dS;unfold Deed.v;simp only;go_enter Tryz.func51,Tryz.ntmps51
  exact Mab
 |some i=>
  obtain⟨T,g,ib,ia,aK,bL,jS,kB⟩:=zex hT bf;have rV:=jm.graves g (List.mem_of_getElem? aK);have mM:=cg g (List.mem_of_getElem? aK);have g9:=se i g bf bL rV;obtain⟨j9,iE,lm,dp⟩:=zi5 (frm:=fr) rV bJ dS;have ip:∀W,Qa w W->Calls Tryz.prog 31 #[.pointer (some ⟨b,0,none⟩),.string pl,.int .i64 dy] W (Ret W (.pointer (some ⟨T,0,none⟩))):=fun W hB=>by
   exact MaW
  have kS:=zHi ip;obtain⟨H,aI,D,dc,frm,t1,t2,t3,t4,t5,t6,t7⟩:=jS;have cZ:=zab t1;obtain⟨dJ,oy,kZ,nI,eu,dh,ej,HT⟩:=yH8 t1 t5 t6 t7 g9 dp rV hT;have rq:=zHi ib;clear ip cu t1 t5 t6 t7 g9 dp rV hT ib ia bL aK kB bf se jm cg am hC hP hS bJ dS;obtain⟨gpl,gcl,gfin,ghs,gdi⟩:=g;simp only at*;unfold zb1 at dJ;have k1:w.cell? ⟨T,1,none⟩=some (.int .i64 gcl):=Md2;have k4:w.cell? ⟨T,4,none⟩=some (.slice H ghs.length aI):=Md2;obtain⟨own,ac⟩:=Qd (zag ghs fr)
  have eO:=zHi (fun W (hB:Qa w W)=>zev ghs H aI T fr W ((hB.cell (p:=⟨T,4,none⟩) cZ).trans k4) (Nat.lt_of_lt_of_le cZ hB.size) Mcq ej.o.good.asc (Ro.sl zai (oy.o.keep hB)));have JA:=dJ;rw[<-ac]at eO j9 iE lm dh;have jE:=eu.o;clear eu;simp only[<-ac,numZ]at jE;have eu:=zHi jE;clear jE;have eo:=zHi ac;clear ac;unfold zaD at eO;unfold Deed.v;simp only;go_enter Tryz.func51,Tryz.ntmps51
  go_upto_region 11 with(first
   |(go_at_call 31;refine(kS.o _ Bw).mono ?_;rintro e wq ⟨rfl,z,rfl⟩)
   |(go_at_call 89;refine(eO.o _ Bw).mono ?_;rintro e wq ⟨rfl,z2,rfl⟩)
   |(go_at_call 86;refine(uQ.o _ Bw).mono ?_;intro e wq hq;rcases Ret.bools hq with⟨zq,rfl,⟨hb,rfl⟩|⟨hb,rfl⟩⟩<;>clear hq))
  all_goals(try(go_ret;exact zbK HW.o Bw (by rw[eu.o];simp[*];done)))
  have HG:Hid (zbs s ⟨kd,dy,pl,fr,ts,cl,yr⟩=if(zcy ghs fr (zan ts)).2 then(s,8)else(s.withGrave i ⟨gpl,gcl,gfin,(zcy ghs fr (zan ts)).1,gdi⟩,0)):=by
   show _=_;rw[eu.o];simp[*];done
  clear eu kS uQ eO;go_cut [5,6,7]from 8 (fun v5 v6 v7 wc=>v5=.pointer (some ⟨T,0,none⟩)/\∃O R,v6=.pointer (some ⟨O,0,none⟩)/\v7=.pointer (some ⟨R,0,none⟩)/\Qa w wc/\w.heap.size<O/\O<R/\R<wc.heap.size/\wc.heap[w.heap.size]?=some (.cells #[.int .i64 kd,.int .i64 dy,.string pl,.string fr,.slice B ts.length c,.int .i64 cl,.int .i64 yr] 28)/\wc.heap[O]?=some (zbw own)/\wc.heap[R]?=some (zbw (zeD (ts.take 0))))
  case first=>
   go_wp2_with fail
   go_meet
   refine⟨rfl,_,_,rfl,rfl,Bw,by omega,?_,?_,?_,?_,?_⟩
   ·exact Ma7
   ·exact Ma7
   ·exact Mbx
   ·exact Mbq
   ·rw[rest_none];exact zat _ _ _ MdF
  case rest=>
   obtain⟨rfl,O,R,rfl,rfl,hB,hO,hR,Dj,g0,g1,g2⟩:=hcut;obtain⟨d0,d1,d2,d3,d4,d5,d6⟩:=cF7 g0;have D4:=zHi d4;clear d0 d1 d2 d5 d6;go_wp2_with fail
   go_loopw [45] (fun i wr=>∃k:Nat,k<=ts.length/\i=.int .i64 k/\Qa w wr/\R<wr.heap.size/\wr.heap[w.heap.size]?=some (.cells #[.int .i64 kd,.int .i64 dy,.string pl,.string fr,.slice B ts.length c,.int .i64 cl,.int .i64 yr] 28)/\wr.heap[O]?=some (zbw own)/\wr.heap[R]?=some (zbw (zeD (ts.take k)))) (fun i _=>ts.length-(intOf i).toNat)
   case atStart=>exact⟨0,Nat.zero_le _,rfl,hB,Dj,g0,g1,g2⟩
   case round=>
    clear hB Dj g0 g1 g2 d3 d4;obtain⟨k,hk,rfl,hB,Dj,g0,g1,g2⟩:=hrel;have dN:=zi4 jh.o k;have ai:=znP (fun p hp=>(jh.o p hp).1) (l:=ts) k;have be:zaL (zeD (ts.take k)):=dN.small (by unfold zeD;have:=pP.o;grind) (by unfold zeD;grind);have Ck:=zHi be;clear dN ai be;by_cases aa:k<ts.length
    ·obtain⟨b',off,rfl,cI,hc⟩:=(HS.o.keep hB).at aa;have gU:=(jh.o ts[k] (List.getElem_mem aa)).2.2;have lq:=zlr ts aa;generalize ts[k]=p at*;obtain⟨pn,pu,pd⟩:=p;generalize zeD (ts.take k)=q at*;have h0:wr.cell? ⟨b',off+k*3,none⟩=some (.string pn):=hc 0 _ rfl;have h1:wr.cell? ⟨b',off+k*3+1,none⟩=some (.int .i64 pu):=hc 1 _ rfl;have h2:wr.cell? ⟨b',off+k*3+2,none⟩=some (.int .i64 pd):=hc 2 _ rfl;obtain⟨pO,Cq⟩:=yH2 lq (fun W=>subS_any q pu pd W Ck.o gU);have r0:wr.cell? ⟨R,0,none⟩=some (.int .i64 q.num):=by simp only[World.cell?,g2,zbw];rfl
     have r1:wr.cell? ⟨R,1,none⟩=some (.int .i64 q.den):=by simp only[World.cell?,g2,zbw];rfl
     have r2:wr.frozen? ⟨R,0,none⟩=false:=by simp only[World.frozen?,g2,zbw];rfl
     have r3:wr.frozen? ⟨R,1,none⟩=false:=by simp only[World.frozen?,g2,zbw];rfl
     have ar:(k:Int)<(ts.length:Int):=Mcq;have aR:(0:Int)<=(k:Int):=Mcq;have jY:(k:Int)<=(c:Int):=Mcq;have Dh:R≠wr.heap.size:=Mcq;have hOR:O≠R:=Mcq;have hwR:w.heap.size≠R:=Mcq;obtain⟨G0,G1,G2⟩:=yH3 g0 g1 g2;clear hc gU lq g0 g1 g2;go_wp2_with (go_at_call 90;refine(Cq.o _).mono ?_;rintro e wq ⟨rfl,z,rfl⟩;simp only[zaD])
     go_round
     case rel=>
      have g0:=G0.o;have g1:=G1.o;refine⟨k+1,by omega,by go_num,?_,by simp[zae];omega,by repeat(first|assumption|with_reducible refine zal ?_|with_reducible refine zby ?_|with_reducible refine J_ne Mcq ?_),by repeat(first|assumption|with_reducible refine zal ?_|with_reducible refine zby ?_|with_reducible refine J_ne Mcq ?_),?_⟩
      ·exact Bw
      ·rw[pO.o];(repeat(first|with_reducible refine zal ?_|with_reducible refine zby ?_))
       exact zeO G2.o
     case measure=>simp[intOf];omega
    ·have ar:¬(k:Int)<(ts.length:Int):=Mcq;rw[List.take_of_length_le Mcq]at g2;obtain⟨W1,rfl⟩:∃x,x=wr:=⟨_,rfl⟩
     have t1:=(hB.block T cZ).trans dJ.o;obtain⟨m0,m1,m2,m3,m4,m5⟩:=cF6 t1;have KJ:T<W1.heap.size:=zab t1;have KF:T≠W1.heap.size:=Mcq;have Dn:T≠W1.heap.size+1:=Mcq;obtain⟨G0,G1,G2,JF⟩:=yH4 g0 g1 g2 t1;have bZ:=zHi (fun W (hW:Qa W1 W)=>zeB ghs H ghs.length aI W rfl Mcq (Ro.sl zai ((oy.o.keep hB).keep hW)));clear g0 g1 g2 t1;go_upto_region 19 with fail
     go_cut [11]from 12 (fun v wc2=>v=.pointer (some ⟨W1.heap.size+1,0,none⟩)/\∃hv,MarkAt wc2 W1.heap.size false/\zb1 wc2 (W1.heap.size+1) gpl gcl frm gfin hv (.slice D gdi.length dc)/\OwnS wc2 (W1.heap.size+1) 59 3 zaa hv ghs/\Qa W1 wc2)
     case first=>
      go_wp2_with (go_at_call 56
                   refine(bZ.o _ Bw).mono ?_;rintro e wq ⟨hv,rfl,o1,o2⟩;obtain⟨A1,c1,tF,_,_⟩:=o1.sl zai;subst tF;have x1:wq.heap[W1.heap.size+1]?=some (.cells #[.string gpl,.int .i64 gcl,.int .i64 frm,.int .i64 gfin,.slice H ghs.length aI,.slice D gdi.length dc] 90):=(o2.block _ Mcv).trans (zat _ _ _ Mcv);have x2:MarkAt wq W1.heap.size false:=(o2.block _ Mcw).trans (zal (zat _ _ _ rfl));have x3:=zab x1;have x4:wq.frozen? ⟨W1.heap.size+1,4,none⟩=false:=(by simp only[World.frozen?,x1];rfl)
                   have x5:wq.cell? ⟨W1.heap.size+1,4,none⟩=some (.slice H ghs.length aI):=(by simp only[World.cell?,x1];rfl)
                   obtain⟨X1,X2,O1,O2⟩:=yH4 x1 x2 o1 o2
                   clear x1 x2 o1 o2)
      go_meet
      have bC:Qa W1 wq:=Below.trans (zad (zad Qb _) _ Mcv) (O2.o.mono Mcw);refine⟨rfl,_,J_ne Mcq X2.o,zg7 (show zb1 wq _ gpl gcl frm gfin (.slice H ghs.length aI) (.slice D gdi.length dc) from X1.o) _,?_,zaN bC Mcv _⟩;refine OwnS.base_le (OwnS.grown O1.o (za2 _ _ _ _) (.inr fun e=>?_)) Mcv;have:=(O1.o.ge _ e).1;simp at this;omega
     case rest=>
      obtain⟨rfl,hv,hm,cq,ez,bx⟩:=hcut;have bk:=bx.size;have bX:=zab cq;have e3:wc.cell? ⟨w.heap.size,3,none⟩=some (.string fr):=(zah bx Mcq).trans Md7;have e4:wc.cell? ⟨w.heap.size,4,none⟩=some (.slice B ts.length c):=(zah bx Mcq).trans Md7;have o0:wc.cell? ⟨O,0,none⟩=some (.int .i64 own.num):=(zah bx Mcq).trans Mdp;have o1:wc.cell? ⟨O,1,none⟩=some (.int .i64 own.den):=(zah bx Mcq).trans Mdp;have dO:ts.take k=ts:=List.take_of_length_le Mcq;rw[dO]at Ck;generalize hq:zeD ts=q at*;have r0:wc.cell? ⟨R,0,none⟩=some (.int .i64 q.num):=(zah bx Mcq).trans (by simp only[World.cell?,G2.o,zbw];rfl);have r1:wc.cell? ⟨R,1,none⟩=some (.int .i64 q.den):=(zah bx Mcq).trans (by simp only[World.cell?,G2.o,zbw];rfl);obtain⟨HQ,HM,ft,dV,aC⟩:=yH5 hq hm cq ez bx;clear hq hm cq ez dO m0 m1 m2 m3 m4 m5 bZ;go_wp2_with fail
      go_region_held3 (fun w'=>w'.cell? ⟨w.heap.size,3,none⟩=some (.string fr)/\w'.cell? ⟨O,0,none⟩=some (.int .i64 own.num)/\w'.cell? ⟨O,1,none⟩=some (.int .i64 own.den)/\w'.cell? ⟨R,0,none⟩=some (.int .i64 q.num)/\w'.cell? ⟨R,1,none⟩=some (.int .i64 q.den))
       ((refine⟨?_,?_,?_,?_,?_⟩<;>first|assumption|(simp[go_sem,e3,o0,o1,r0,r1];done)))
       (first
         |(go_at_call 91
           go_loud(refine(zhO W1.heap.size false _ HM.o.drew own q iE Ck.o).mono ?_)
           rintro e wq ⟨rfl,m1,m2⟩;have p3:wq.cell? ⟨w.heap.size,3,none⟩=some (.string fr):=(by rw[zbd m2 Mcw Mcq];simpa[go_sem]using e3)
           have p0:wq.cell? ⟨O,0,none⟩=some (.int .i64 own.num):=(by rw[zbd m2 Mcw Mcq];simpa[go_sem]using o0)
           have p1:wq.cell? ⟨O,1,none⟩=some (.int .i64 own.den):=(by rw[zbd m2 Mcw Mcq];simpa[go_sem]using o1)
           have q0:wq.cell? ⟨R,0,none⟩=some (.int .i64 q.num):=(by rw[zbd m2 Mcw Mcq];simpa[go_sem]using r0)
           have q1:wq.cell? ⟨R,1,none⟩=some (.int .i64 q.den):=(by rw[zbd m2 Mcw Mcq];simpa[go_sem]using r1)
           obtain⟨M1,M2⟩:=yH2 m1 m2
           clear m1 m2)
         |(go_at_call 88
           refine(ziw (W1.heap.size+1) (W1.heap.size+1) ghs hv gpl gcl frm gfin (.slice D gdi.length dc) fr (zbi (own*q)) _ ?q1 Qc ?q2 ej.o.good.asc Mcq).mono ?_
           case q1=>exact(M2.o.block _ Mcw Mcv).trans ft.o
           case q2=>exact OwnS.grown (W:=wc.drew) dV.o M2.o (.inr fun e=>by have:=(dV.o.ge _ e).1;omega)
           rintro e wz ⟨rfl,v',t1,t2,t3,_⟩;have s3:wz.cell? ⟨w.heap.size,3,none⟩=some (.string fr):=(zah t3 Mcq).trans p3;have s0:wz.cell? ⟨O,0,none⟩=some (.int .i64 own.num):=(zah t3 Mcq).trans p0;have s1:wz.cell? ⟨O,1,none⟩=some (.int .i64 own.den):=(zah t3 Mcq).trans p1;have u0:wz.cell? ⟨R,0,none⟩=some (.int .i64 q.num):=(zah t3 Mcq).trans q0;have u1:wz.cell? ⟨R,1,none⟩=some (.int .i64 q.den):=(zah t3 Mcq).trans q1;obtain⟨T1,T2,T3⟩:=yH3 t1 t2 t3
           clear t1 t2 t3))
      have M:=zHi (show MarkAt wz W1.heap.size (bigQ (own*q)) by have:=M1.o.keep T3.o Mcq;simpa using this);have s4:wz.cell? ⟨w.heap.size,4,none⟩=some (.slice B ts.length c):=(zah T3.o Mcq).trans ((zbd M2.o Mcw Mcq).trans (by simpa[go_sem]using e4));have F6:=zHi (Below.trans (zbp (zaF aC.o) M2.o Qc) (T3.o.mono Mcq));have qm:=zis (n:=fr) (q:=zbi (own*q)) (l:=ghs);have pL:=zHi qm;clear M1 M2 T3 ft dV HM aC e3 e4 o0 o1 r0 r1 p3 p0 p1 q0 q1 s3 s0 s1 u0 u1 qm;go_wp2_with fail
      go_loopw [72] (fun i wr=>∃(k:Nat) (v:Value) (out:Parts) (fl:Bool),k<=ts.length/\i=.int .i64 k/\Hid ((out,fl)=zej own (zan (ts.take k)) (setP ghs fr (zbi (own*q)),bigQ (own*q)))/\Hid (out.length<=ghs.length+1+k)/\MarkAt wr W1.heap.size fl/\zb1 wr (W1.heap.size+1) gpl gcl frm gfin v (.slice D gdi.length dc)/\OwnS wr (W1.heap.size+1) 59 3 zaa v out/\Qa W1 wr/\W1.heap.size+1<wr.heap.size) (fun i _=>ts.length-(intOf i).toNat)
      case atStart=>exact⟨0,v',_,_,Nat.zero_le _,rfl,rfl,pL.o,M.o,T1.o,T2.o,F6.o,zab T1.o⟩
      case round=>
       clear pL M T1 T2 F6 s4 bk bX;obtain⟨k2,v,out,fl,sX,rfl,HX,cv,hm,cq,ez,hJ,be⟩:=hrel;obtain⟨A1,c1,rfl,rZ,pY⟩:=ez.sl zai;have aY:Qa w wr:=hB.trans (hJ.mono Mcq);have dp:Bd out 1:=by have:=dh.o k2;rw[<-HX.o]at this;exact this
       obtain⟨HD,HM,ft,dV,Jm,tN⟩:=yH6 dp hm cq ez rZ hJ;have qH:wr.cell? ⟨W1.heap.size+1,4,none⟩=some (.slice A1 out.length c1):=Mc8;clear hm cq ez rZ dp;by_cases cA:k2<ts.length
       ·obtain⟨b',off,rfl,cI,hc⟩:=(HS.o.keep aY).at cA;obtain⟨kH,gT,gU⟩:=jh.o ts[k2] (List.getElem_mem cA);have aD:=gain_snoc own ts (setP ghs fr (zbi (own*q)),bigQ (own*q)) cA;rw[<-HX.o]at aD;generalize ts[k2]=p at*;obtain⟨pn,pu,pd⟩:=p;obtain⟨_,_,sr0,sr1⟩:=zbl gU;have i0:wr.cell? ⟨b',off+k2*3,none⟩=some (.string pn):=hc 0 _ rfl;have i1:wr.cell? ⟨b',off+k2*3+1,none⟩=some (.int .i64 pu):=hc 1 _ rfl;have i2:wr.cell? ⟨b',off+k2*3+2,none⟩=some (.int .i64 pd):=hc 2 _ rfl;have o0:wr.cell? ⟨O,0,none⟩=some (.int .i64 own.num):=(zah tN.o Mcq).trans Mdp;have o1:wr.cell? ⟨O,1,none⟩=some (.int .i64 own.den):=(zah tN.o Mcq).trans Mdp;have xx:zaL (zbi (own*Rat.divInt pu pd)):=zbZ (zcx (Rat.mul_nonneg j9 sr0)) (Rat.le_trans (zhi (Rat.mul_nonneg j9 sr0)) (zjE j9 lm sr0 sr1)) (zg0 _);obtain⟨dl,rh⟩:=yH2 aD xx;have ar:(k2:Int)<(ts.length:Int):=Mcq;have aR:(0:Int)<=(k2:Int):=Mcq;have jY:(k2:Int)<=(c:Int):=Mcq;have hOn:O≠wr.heap.size:=Mcq;have wK:O<wr.heap.size:=Mcq;have pf:out.length<=90000:=by have:=cv.o;omega
        clear hc aD xx kH gT sr0 sr1
        go_wp2_with (go_at_call 91
                     refine(mulS_any W1.heap.size fl _ (HM.o.alloc _) own pu pd iE gU).mono ?_;rintro e wq ⟨rfl,m1,m2⟩;have jJ:=m2.size;have y0:wq.heap[wr.heap.size]?=some (.cells #[.string pn,.int .i64 pu,.int .i64 pd] 59):=(m2.block _ Mcv Mcw).trans (zat _ _ _ rfl);have y1:wq.cell? ⟨wr.heap.size,0,none⟩=some (.string pn):=(by simp only[World.cell?,y0];rfl)
                     have y3:wr.heap.size<wq.heap.size:=zab y0;obtain⟨M1,M2⟩:=yH2 m1 m2;clear m1 m2 y0
                     simp only[zaD])
        have wI:OwnS wq (W1.heap.size+1) 59 3 zaa (.slice A1 out.length c1) out:=OwnS.grown (W:=wr.alloc _) (dV.o.keep (n:=wr.heap.size) (zad Qb _)) M2.o (.inr fun e=>by have:=(dV.o.ge _ e).1;omega);have mj:zb1 wq (W1.heap.size+1) gpl gcl frm gfin (.slice A1 out.length c1) (.slice D gdi.length dc):=(M2.o.block _ Mcw Mcv).trans (zal ft.o);have o8:wq.cell? ⟨W1.heap.size+1,4,none⟩=some (.slice A1 out.length c1):=by unfold zb1 at mj;simp only[World.cell?,mj];rfl
        have bv:W1.heap.size+1<wq.heap.size:=zab mj;obtain⟨OQ,TQ⟩:=yH2 wI mj;have ni:zaL (zag out pn):=HD.o.share Rat.le_refl pn;generalize dD:zbi (own*Rat.divInt pu pd)=gt at*;generalize nX:zag out pn=sv at*;obtain⟨vp,eO,eN⟩:=yH3 dD nX ni;have kN:wr.heap.size≠wq.heap.size:=Mcq;have Ir:W1.heap.size+1≠wq.heap.size:=Mcq;clear wI mj ni dD nX i0 i1 i2 o0 o1;go_region_held3 (fun w'=>w'.cell? ⟨wr.heap.size,0,none⟩=some (.string pn)/\w'.cell? ⟨wq.heap.size,0,none⟩=some (.int .i64 gt.num)/\w'.cell? ⟨wq.heap.size,1,none⟩=some (.int .i64 gt.den))
         ((refine⟨?_,?_,?_⟩<;>first|assumption|(simp[go_sem,y1,y3];done)))
         (first
           |(go_at_call 89
             go_loud(refine(zev out A1 c1 (W1.heap.size+1) pn _ ?q1 ?q2 Mcq HD.o.good.asc (Sl.keep (OQ.o.sl' zai) (n:=wq.heap.size) Bw)).mono ?_)
             case q1=>simp[go_sem,o8,bv]
             case q2=>simp;omega
             rintro e w5 ⟨rfl,zs,rfl⟩;rw[eO.o]
             simp only[zaD])
           |(go_at_call 92
             go_loud(refine(zhP W1.heap.size (fl||bigQ (own*Rat.divInt pu pd)) _ ?q3 sv gt eN.o rh.o).mono ?_)
             case q3=>(repeat(first|exact M1.o|refine MarkAt.ext ?_ _|refine MarkAt.drew ?_|refine MarkAt.alloc ?_ _))
             rintro e w6 ⟨rfl,n1,n2⟩;have p3:w6.cell? ⟨wr.heap.size,0,none⟩=some (.string pn):=MdA;have p0:w6.cell? ⟨wq.heap.size,0,none⟩=some (.int .i64 gt.num):=McY;have p1:w6.cell? ⟨wq.heap.size,1,none⟩=some (.int .i64 gt.den):=McY;obtain⟨N1,N2⟩:=yH2 n1 n2;clear n1 n2
             simp only[zaD])
           |(go_at_call 88
             go_loud(refine(ziw (W1.heap.size+1) (W1.heap.size+1) out (.slice A1 out.length c1) gpl gcl frm gfin (.slice D gdi.length dc) pn (zbi (sv+gt)) _ ?q4 Qc ?q5 HD.o.good.asc pf).mono ?_)
             case q4=>exact(N2.o.block _ McA Mcv).trans Mdu
             case q5=>exact OwnS.grown (OQ.o.keep (n:=wq.heap.size) Bw) N2.o (.inr fun e=>by have:=(OQ.o.ge _ e).1;omega)
             rintro e wz ⟨rfl,v',t1,t2,t3,t4⟩;have s3:wz.cell? ⟨wr.heap.size,0,none⟩=some (.string pn):=(World.cell?_of_block (w:=w6) (t4 wr.heap.size McW Mcq (fun e=>by have:=(dV.o.ge _ e).2;omega))).trans p3;have s0:wz.cell? ⟨wq.heap.size,0,none⟩=some (.int .i64 gt.num):=(World.cell?_of_block (w:=w6) (t4 wq.heap.size McW Mcq (fun e=>by have:=(dV.o.ge _ e).2;omega))).trans p0;have s1:wz.cell? ⟨wq.heap.size,1,none⟩=some (.int .i64 gt.den):=(World.cell?_of_block (w:=w6) (t4 wq.heap.size McW Mcq (fun e=>by have:=(dV.o.ge _ e).2;omega))).trans p1;obtain⟨T1,T2,T3⟩:=yH3 t1 t2 t3
             clear t1 t2 t3))
        have BE:Hid (zfe own (pn,Rat.divInt pu pd) (out,fl)=(setP out pn (zbi (sv+gt)),fl||bigQ (own*Rat.divInt pu pd)||bigQ (sv+gt))):=by
         show _=_;unfold zfe;simp only[vp.o,eO.o]
        have bD:MarkAt wz W1.heap.size (fl||bigQ (own*Rat.divInt pu pd)||bigQ (sv+gt)):=N1.o.keep T3.o Mcq;have C5:=zHi bD;have iA:=zis (n:=pn) (q:=zbi (sv+gt)) (l:=out);have fF:=zHi iA;have eY:Qa W1 wz:=by
         have h1:Qa W1 wq:=zbp (zad tN.o _) M2.o Qc;have h2:Qa W1 w6:=zbp (W:=((wq.alloc (.cells #[.int .i64 gt.num,.int .i64 gt.den] 57)).drew).ext zs) Bw N2.o Qc;exact h2.trans (T3.o.mono Mcq)
        have dH:=zHi eY;have fm:=zab T1.o;clear bD iA eY p3 p0 p1 s3 s0 s1 y1;go_wp2_with fail
        go_round
        case rel=>
         have qe:=BE.o.symm.trans dl.o.symm;have jZ:(setP out pn (zbi (sv+gt))).length<=ghs.length+1+(k2+1):=by have:=fF.o;have:=cv.o;omega
         (repeat apply Exists.intro)
         exact⟨⟨k2+1,v',setP out pn (zbi (sv+gt)),_,by omega,by go_num,qe,jZ,C5.o,T1.o,T2.o,dH.o,fm⟩,rfl⟩
        case measure=>simp[intOf];omega
       ·have ar:¬(k2:Int)<(ts.length:Int):=Mcq;have nZ:(out,fl)=zcy ghs fr (zan ts):=by
         rw[HX.o,List.take_of_length_le Mcq];unfold zcy;rw[<-eo.o,show(1:Rat)-sumQ (zan ts)=q from HQ.o]
        have jq:=(aY.block T cZ).trans dJ.o;obtain⟨nB,aU⟩:=yH2 jq aY;have iU:wr.cell? ⟨W1.heap.size,0,none⟩=some (.bool fl):=(zbR HM.o).1;have fQ:=HG.o;rw[<-nZ]at fQ;clear nZ HX dh ej aY;cases fl
        ·have tS:=zHi fQ;have cq:=ft.o;unfold zb1 at cq;obtain⟨n0,n1,n2,n3,-,n5⟩:=cF6 cq;obtain⟨z0,z1,z2,z3,z4,z5⟩:=cF6 jq;have fz:∀j,wr.frozen? ⟨T,j,none⟩=false:=fun j=>by simp only[World.frozen?,jq];rfl
         clear fQ cq jq;go_wp2_with fail
         go_ret
         have aY:=aU.o;have dZ:Ro wr 59 zaa A1 out:=dV.o.ro';have hN:TombAt ((((((wr.setCell ⟨T,0,none⟩ (.string gpl)).setCell ⟨T,1,none⟩ (.int .i64 gcl)).setCell ⟨T,2,none⟩ (.int .i64 frm)).setCell ⟨T,3,none⟩ (.int .i64 gfin)).setCell ⟨T,4,none⟩ (.slice A1 out.length c1)).setCell ⟨T,5,none⟩ (.slice D gdi.length dc)) base Bk T ⟨gpl,gcl,gfin,out,gdi⟩:=
          ⟨A1,c1,D,dc,frm,zi3 nB.o _ _ _ _ _ _,t2,pY,t4,dZ.kept (zca _ _ _ _ _ _ _ _) nB.o Mcu,(kZ.o.keep aY).kept (zca _ _ _ _ _ _ _ _) nB.o Mcu,nI.o⟩
         have ai:=zi2 aN (HC.o.keep aY) (HP.o.keep aY) (HT.o.keep aY) rq.o nB.o (zca wr T _ _ _ _ _ _) hN;have eV:Below base w wr:=aY.mono Mcq;have mz:=zbp eV (zca wr T (.string gpl) (.int .i64 gcl) (.int .i64 frm) (.int .i64 gfin) (.slice A1 out.length c1) (.slice D gdi.length dc)) t2 Mcq;have bl:zbs s ⟨kd,dy,pl,fr,ts,cl,yr⟩=(s.withGrave i ⟨gpl,gcl,gfin,out,gdi⟩,0):=tS.o.trans (if_neg Mcv);exact MaU
        ·exact MaX
theorem tomb_set3{W:World}{T:Nat}{pl:ByteArray}{cl fr en:Int}{v dv:Value}{cs3:Int}(h:zb1 W T pl cl fr en v dv):zb1 (W.setCell ⟨T,3,none⟩ (.int .i64 cs3)) T pl cl fr cs3 v dv:=by
 unfold zb1 at*;have:=Joins.block_setCell (i:=3) h (.int .i64 cs3);simpa using this
theorem zmG(base b:Nat)(s:St)(la co last:Int)(d:Deed)(B:Option Addr)(c:Nat)(w:World)(hW:WldAt base w b s la co)(hL:LensIn w)(hd:OkD d)(ae:s.graves.length<=1000)(bH:∀g∈s.graves,g.fin<=200000):
 Calls Tryz.prog 53 #[.pointer (some ⟨b,0,none⟩),d.v B c] w (zbC base b (zdb s d) la co w):=by
 have dM:=hd.years;clear hd;have am:=hW;obtain⟨Bk,dd,cc,pp,wl,rr,mv,tv,ps,aN,hC,hP,hT⟩:=hW;have cJ:=zab hC;obtain⟨kd,dy,pl,fr,ts,cl,yr⟩:=d;simp only at*;obtain⟨cu,HW,HC,HP⟩:=yH4 (fun W (hB:Qa w W)=>zjD base b s la co pl dy W (hC.keep hB) (hT.keep hB) Mcq) am hC hP;cases bf:zaS s pl dy with
 |none=>
  rw[bf]at cu;have HG:Hid (zdb s ⟨kd,dy,pl,fr,ts,cl,yr⟩=(s,6)):=by show _=_;simp[zdb,bf]
  clear bf am hC hP hT hL;unfold Deed.v;simp only;go_enter Tryz.func53,Tryz.ntmps53
  exact Mab
 |some i=>
  obtain⟨T,g,ib,ia,aK,bL,jS,kB⟩:=zex hT bf;have Lm:=bH g (List.mem_of_getElem? aK);have ip:∀W,Qa w W->Calls Tryz.prog 31 #[.pointer (some ⟨b,0,none⟩),.string pl,.int .i64 dy] W (Ret W (.pointer (some ⟨T,0,none⟩))):=fun W hB=>by
   exact MaW
  have kS:=zHi ip;obtain⟨H,aI,D,dc,frm,t1,t2,t3,t4,t5,t6,t7⟩:=jS;have cZ:=zab t1;obtain⟨gpl,gcl,gfin,ghs,gdi⟩:=g;simp only at*;have g9:zdb s ⟨kd,dy,pl,fr,ts,cl,yr⟩=if decide (gfin<0)then(s,15)else if decide (zcg gfin yr<0)then(s,2)else(s.withGrave i ⟨gpl,gcl,zcg gfin yr,ghs,gdi⟩,0):=by
   unfold zdb;simp only[bf,bL]
  obtain⟨dJ,oy,kZ,nI,eu,HT,rq⟩:=yH7 t1 t5 t6 t7 g9 hT ib;unfold zb1 at t1;obtain⟨-,-,-,k3⟩:=cF4 t1;have fz:∀j,w.frozen? ⟨T,j,none⟩=false:=fun j=>by simp only[World.frozen?,t1];rfl
  have ak:=zHi (fun W (hB:Qa w W) (h0:0<=gfin)=>zjA gfin yr W (hL.keep hB) h0 Lm dM.1 dM.2);clear ip cu t1 t5 t6 t7 g9 hT ib ia bL aK kB bf am hC hP hL bH;unfold Deed.v;simp only;go_enter Tryz.func53,Tryz.ntmps53
  by_cases pm:gfin<0
  ·go_wp2_with (go_at_call 31;refine(kS.o _ Bw).mono ?_;rintro e wq ⟨rfl,z,rfl⟩)
   go_ret
   exact zbK HW.o Bw (by rw[eu.o];simp[pm])
  ·have cS:0<=gfin:=Mcq;go_upto_region 6 with(go_at_call 31;refine(kS.o _ Bw).mono ?_;rintro e wq ⟨rfl,z,rfl⟩)
   generalize hR:zcg gfin yr=R at*
   (refine zam Mcs Mcs ?_
    repeat(first|go_big_quiet_skip|(go_big_quiet_want;go_big_quiet_op;first|go_big_quiet_on|(apply Exists.intro;refine⟨fun _=>?_,?_⟩;(go_at_call 87;exact quietx (ak.o _ Bw cS));go_big_quiet_on)))
    refine wpQuiet_nil ?_
    rintro _ ⟨zq,rfl⟩)
   by_cases Dh:R<0
   ·go_wp2_with fail
    go_ret
    exact zbK HW.o Bw (by rw[eu.o];simp[pm,Dh])
   ·go_wp2_with fail
    go_ret
    have bl:zdb s ⟨kd,dy,pl,fr,ts,cl,yr⟩=(s.withGrave i ⟨gpl,gcl,R,ghs,gdi⟩,0):=by rw[eu.o];simp[show¬gfin<0 by omega,show¬R<0 by omega]
    rw[bl];obtain⟨Z,hZ⟩:=Qd (((w.alloc (.cells #[.int .i64 kd,.int .i64 dy,.string pl,.string fr,.slice B ts.length c,.int .i64 cl,.int .i64 yr] 28)).ext z).ext zq)
    have fU:Qa w Z:=by rw[hZ];exact Bw
    have wU:=(fU.block T cZ).trans dJ.o;have hN:TombAt (Z.setCell ⟨T,3,none⟩ (.int .i64 R)) base Bk T ⟨gpl,gcl,R,ghs,gdi⟩:=⟨H,aI,D,dc,frm,tomb_set3 (show zb1 Z T gpl gcl frm gfin _ _ from wU),t2,t3,t4,(oy.o.keep fU).kept (za2 Z T 3 _) wU Mcu,(kZ.o.keep fU).kept (za2 Z T 3 _) wU Mcu,nI.o⟩
    have ai:=zi2 aN (HC.o.keep fU) (HP.o.keep fU) (HT.o.keep fU) rq.o wU (za2 Z T 3 (.int .i64 R)) hN;have eV:Below base w (Z.setCell ⟨T,3,none⟩ (.int .i64 R)):=zaN (fU.mono Mcq) t2 _;have hE:Z.setCell ⟨T,3,none⟩ (.int .i64 R)=(((w.setCell ⟨T,3,none⟩ (.int .i64 R)).alloc (.cells #[.int .i64 kd,.int .i64 dy,.string pl,.string fr,.slice B ts.length c,.int .i64 cl,.int .i64 yr] 28)).ext z).ext zq:=by
     rw[hZ,zap _ _ _ _ _ McA,zap _ _ _ _ _ Mcw,zac _ _ _ _ _ cZ]
    have cC:=(KeepD.below fU).trans (KeepD.cells (za2 Z T 3 (.int .i64 R)) wU Mcu);rw[hE]at ai eV cC;exact⟨rfl,ai,eV,cC⟩

import Derived.Test.YtegdimedhfafjaaGreatDoorJY
import Derived.Test.YtegdimedhfafjaaGreatDoorJT
set_option linter.all false
set_option maxRecDepth 100000
set_option maxHeartbeats 4000000
namespace Go.Proofs.YtegdimedhfafjaaGreatDoor
open Go.RowKit Go.Shelf
attribute [local go_sem] World.cell?_alloc_mark zaf za5 zao za8 zav zaw zax zay zaz za0 za1
attribute [local go_sem] zaq zad
theorem ziz{base:Nat}{W:World}{B:List Nat}{d c p wl r:Nat}{mv:Value}{s:St}(h:PplAt base W B d c p wl r mv s)(n:ByteArray):
 ∃A cc,(∀W',Below W.heap.size W W'->(Instr.lookup 90 (.map (some c)) (.string n) false).run Tryz.prog W'=.ok (.slice A (zai s n).length cc) W')/\(zai s n).length<=cc/\Sl W 1 sC A (zai s n):=by
 obtain⟨mc,mp,k1,k2,k3,k4,k5,k6⟩:=h.rows;have hl:=fun W' (hB:Below W.heap.size W W')=>zb4 zmC (k1.below hB).at n
 rcases k3 n with⟨h1,h2⟩|⟨v,h1,h2⟩
 ·rw[h1]at hl;refine⟨none,0,fun W' hB=>?_,by rw[h2];exact Nat.le_refl _,by rw[h2];exact Sl.nil⟩;rw[h2];exact hl W' hB
 ·rw[h1]at hl;obtain⟨A,cc,rfl,hS,hc⟩:=h2.sl zaD;exact⟨A,cc,hl,hc,hS⟩
def outM(out:List ByteArray):List (ByteArray×Bool):=out.map fun n=>(n,true)
theorem out_put{out:List ByteArray}{n:ByteArray}(h:n∉out):mput eqS n true (outM out)=outM (out++[n]):=by
 induction out with
 |nil=>rfl
 |cons x out ih=>
  have hx:eqS n x=false:=zcm.2 fun e=>h (by simp[e])
  rw[outM,List.map_cons,mput];simp only[hx,Bool.false_eq_true,if_false];have:=ih (fun e=>h (by simp[e]));simp only[outM]at this;rw[this];rfl
theorem out_get(out:List ByteArray)(n:ByteArray):(mget eqS n (outM out)).getD false=out.any (zae n):=zhG n out
theorem zd4{w:World}{b:Nat}{x:ByteArray}{t:TypeId}{fr:Nat×Nat}(h:w.heap[b]?=some (.cells #[.string x] t fr)):Sl w 1 sC (some ⟨b,0,none⟩) [x]:=fun _=>⟨b,0,rfl,zab h,fun k y hy j u hu=>by
 have hk:k=0:=Mcy;subst hk;simp only[List.getElem?_cons_zero,Option.some.injEq]at hy;subst hy;match j,hu with
 |0,hu=>simp[sC]at hu;simp[World.cell?,h,<-hu]
 |j+1,hu=>simp[sC]at hu⟩
def DescPost(w:World)(s:St)(nm:ByteArray)(e:Ending)(w':World):Prop:=
 ∃out:List ByteArray,e=.returned (.map (some w.heap.size))/\MapS w' w.heap.size ekS evB (outM out)/\Found s nm out []/\Below w.heap.size w w'
theorem desc_any(base b:Nat)(s:St)(nm:ByteArray)(w:World)(hW:PeoAt base w b s)(hl:s.children.length<=100000):
 Calls Tryz.prog 70 #[.pointer (some ⟨b,0,none⟩),.string nm] w (DescPost w s nm):=by
 obtain⟨B,d,c,p,wl,r,mv,tv,la,co,h1,h2⟩:=hW;have hb:=zab h1;unfold WldC at h1;have c1:w.cell? ⟨b,1,none⟩=some (.map (some c)):=Meo;obtain⟨HP,H1⟩:=yH2 h2 h1;clear h1 h2;have bV:∀x,(zai s x).length<=100000:=fun x=>by
  have:(zai s x).length<=s.children.length:=by unfold zai;rw[List.length_map];exact List.length_filter_le _ _
  omega
 go_enter Tryz.func70,Tryz.ntmps70
 have cX:= @run_makeMap Tryz.prog;go_upto_region 3 with fail
 clear cX;have hcw:=c1;go_loopg [6] (s.children.length+1) (fun gg v wr=>∃out xs:List ByteArray,OwnS wr w.heap.size 9 1 sC v xs/\MapS wr w.heap.size ekS evB (outM out)/\Below w.heap.size w wr/\w.heap.size+1<=wr.heap.size/\Hid (Found s nm out xs)/\(s.children.length-out.length)+xs.length<=gg/\xs.length<=out.length+1)
 case atStart=>
  refine⟨[],[nm],.inr ⟨w.heap.size+1,0,1,#[.string nm],rfl,by omega,zas _ _ _ Mcp,Nat.le_refl _,by simp[maxLen],by simp,fun j u hj=>?_⟩,?_,Bw,by simp,zmI s nm,by simp,by simp⟩
  ·match j,hj with
   |0,hj=>simpa[sC]using hj
   |j+1,hj=>simp[sC]at hj
  ·exact(MapS.new w).below (n:=w.heap.size+1) (zac (Below.refl _ _) _ Mcp) Mcp
 case round=>
  obtain⟨out,xs,ae,hm,hB,hsz,HF,bf,bs⟩:=hrel;cases xs with
  |nil=>
   obtain⟨A,cc,rfl,hS,hc⟩:=ae.sl zaD;clear ae hS;go_wp2_with fail
   go_ret
   exact⟨out,rfl,hm,HF.o,hB⟩
  |cons x xs=>
   rcases ae with⟨rfl,h0⟩|⟨g,o,cap,cur,rfl,km,hg,bk,ko,bj,hx⟩
   ·cases h0
   have ae:OwnS wr w.heap.size 9 1 sC (.slice (some ⟨g,o,none⟩) (x::xs).length cap) (x::xs):=.inr ⟨g,o,cap,cur,rfl,km,hg,bk,ko,bj,hx⟩;obtain⟨_,h1c,cL,xp⟩:=ae.tail zaD;have Ku:wr.cell? ⟨g,o,none⟩=some (.string x):=xp 0 _ rfl;have kR:wr.cell? ⟨b,1,none⟩=some (.map (some c)):=(hB.cell (p:=⟨b,1,none⟩) hb).trans c1;obtain⟨KA,kc,fq,fD,iq⟩:=ziz HP.o x;have xE:=fq wr hB;have HK:Hid (∀W',Below w.heap.size w W'->Sl W' 1 sC KA (zai s x)):=fun W' h=>iq.keep h
   have vY:Hid (Look s nm x 0 out xs):=found_pop HF.o;have kW:=bV x;have LR:(0:Int)<((x::xs).length:Int):=by simp only[List.length_cons];omega
   have yU:(1:Int)<=((x::xs).length:Int):=Mcm;have yV:(1:Int)<=(xs.length:Int)+1:=Mcm;have oC:(1:Int)<=(cap:Int):=Mcm;obtain⟨hT,hM⟩:=yH2 cL hm;generalize iV:zai s x=ks at xE HK kW fD;have ii:=zHi iV;clear iV;have wX:=bk;have Dd:=bj;have HG:=zHi hg;clear fq iq hx hg ae xp cL hm HF bj ko bk;have CH:Hid (cap=1->OwnS wr w.heap.size 9 1 sC (.slice (some ⟨g,o,none⟩) xs.length 0) xs):=fun e=>by
    have fu:xs=[]:=List.eq_nil_of_length_eq_zero (by simp at wX;omega);subst fu;exact .inr ⟨g,o,0,cur,rfl,km,HG.o,Nat.le_refl _,Nat.zero_le _,by omega,fun j u hj=>by simp at hj⟩
   clear wX Dd;go_upto_region 5 with fail
   go_cut [6]from 13 to 42 (fun v wc=>OwnS wr w.heap.size 9 1 sC v xs/\wr=wc)
   case first=>
    by_cases ar:cap=1
    ·go_wp2_with fail
     all_goals go_meet
     all_goals exact⟨CH.o ar,rfl⟩
    ·go_wp2_with fail
     all_goals go_meet
     all_goals exact⟨hT.o,rfl⟩
   case rest=>
    obtain⟨ae,rfl⟩:=hcut;clear hT CH Ku;have eW:=ae;obtain⟨QA,qc,rfl,JU,hQc⟩:=eW.sl zaD;clear JU eW;have HO:=zHi ae;clear ae;go_upto_region 7 with fail
    go_loopg [6,28] ks.length (fun gi v i wi=>∃(j:Nat) (out2 xs2:List ByteArray),j<=ks.length/\ks.length-j<=gi/\i=.int .i64 j/\OwnS wi w.heap.size 9 1 sC v xs2/\MapS wi w.heap.size ekS evB (outM out2)/\Below w.heap.size w wi/\w.heap.size+1<=wi.heap.size/\Hid (Look s nm x j out2 xs2)/\(s.children.length-out2.length)+xs2.length+1<=gk/\xs2.length<=out2.length)
    case atStart=>exact⟨0,out,xs,Nat.zero_le _,Nat.le_refl _,rfl,HO.o,hM.o,hB,hsz,vY,by simp at bf;omega,by simp at bs;omega⟩
    case round=>
     obtain⟨j,out2,xs2,hj,aT,rfl,mN,ft,bx,oZ,fX,Dr,yU⟩:=hrel;have hof:=out_few fX.o.nd fX.o.desc;by_cases aa:j<ks.length
     ·obtain⟨kb,koff,rfl,mD,xx⟩:=(HK.o wr bx).at aa;obtain⟨ch,Ah⟩:∃ch,ch=ks[j]:=⟨_,rfl⟩
      have c9:wr.cell? ⟨kb,koff+j,none⟩=some (.string ch):=by rw[Ah];have:=xx 0 _ rfl;simpa using this
      have dC:=zb4 zo0 ft.at ch;rw[out_get]at dC;have xH:(Instr.lookup 89 (.map (some w.heap.size)) (.string ch) false).run Tryz.prog wr=.ok (.bool (out2.any (zae ch))) wr:=dC;clear dC;have cW:(j:Int)<(ks.length:Int):=Mcm;have sB:(0:Int)<=(j:Int):=Mcm;have DE:j<(zai s x).length:=by rw[ii.o];exact aa
      have x9:(zai s x)[j]=ch:=by rw[Ah];simp only[ii.o]
      obtain⟨pj,I7,d9,pw⟩:=yH4 x9 Ah mN ft;clear xx Ah x9 mN ft;cases aQ:out2.any (zae ch)
      ·have xW:ch∉out2:=fun h=>by rw[zfy.2 h]at aQ;cases aQ
       obtain⟨bX,vk⟩:=yH2 aQ xW;rw[aQ]at xH;clear aQ xW;obtain⟨es,c00,Ax,GC⟩:=pw.o;have Br:=zHi Ax;clear Ax GC
       go_wp2_with (first
        |(at_mapUpdate;obtain⟨w1,hrun,cm,cf,dq⟩:=zcs zo0 pw.o ch true;go_loud(refine zdf rfl _ _ _ rfl _ _ _ rfl rfl rfl w1 hrun ?_))
        |(at_builtin;go_loud(refine zau (v:=u6) (n:=xs2.length) (m:=1) rfl _ _ rfl zbM zaD zbL rfl ((d9.o.keptM cf Br.o).keep (n:=w1.heap.size) (zac (Below.refl _ _) _)) rfl rfl rfl (zd4 (zas _ _ _ dq.symm)) McL Mcm Mcr ?_);intro v3 w3 h1 h2 h3))
       go_roundg (ks.length-(j+1))
       case measure=>omega
       case rel=>
        refine⟨j+1,out2++[ch],xs2++[ch],by omega,Nat.le_refl _,by go_num,h1,?_,?_,?_,?_,?_,?_⟩
        ·have Jq:MapS (w1.alloc (.cells #[.string ch] 9)) w.heap.size ekS evB (outM (out2++[ch])):=by
          have:=cm.below (n:=w1.heap.size) (zac (Below.refl _ _) (.cells #[.string ch] 9));rwa [out_put vk.o]at this
         exact Jq.grown h2 (fun e=>by
          have aU:OwnS w1 w.heap.size 9 1 sC _ xs2:=d9.o.keptM cf Br.o;obtain⟨es1,c01,DJ,_⟩:=cm;rcases aU with⟨e1,_⟩|⟨g1,o1,cp1,cur1,e1,_,my,_⟩
          ·rw[e1]at e;cases e
          ·rw[e1]at e;simp only[za7,Option.some.injEq]at e;subst e;rw[DJ]at my
           simp at my)
        ·have eN:Below w.heap.size w (w1.alloc (.cells #[.string ch] 9)):=zac (bx.grown cf bx.size (fun k e=>by cases e;exact Nat.le_refl _)) _;exact eN.grown h2 eN.size (fun k e=>(d9.o.ge k e).1)
        ·have:=h2.size;simp at this;omega
        ·have:=znR fX.o DE (by rw[pj.o];exact vk.o);rwa [pj.o]at this
        ·have cR:=znR fX.o DE (by rw[pj.o];exact vk.o);rw[pj.o]at cR;have:=out_few cR.nd cR.desc;simp at this⊢;omega
        ·simp;omega
      ·have xW:ch∈out2:=zfy.1 aQ;have vk:=zHi xW;rw[aQ]at xH;clear aQ xW;go_wp2_with fail
       go_roundg (ks.length-(j+1))
       case measure=>omega
       case rel=>exact⟨j+1,out2,xs2,by omega,Nat.le_refl _,by go_num,d9.o,pw.o,bx,oZ,look_old fX.o DE (by rw[pj.o];exact vk.o),Dr,yU⟩
     ·have cW:¬(j:Int)<(ks.length:Int):=Mcm;have cy:j=(zai s x).length:=by rw[ii.o];omega
      have uP:Hid (Found s nm out2 xs2):=look_end (by rw[<-cy];exact fX.o);clear cy;go_wp2_with fail
      go_roundg ((s.children.length-out2.length)+xs2.length)
      case measure=>omega
      case rel=>exact⟨out2,xs2,mN,ft,bx,oZ,uP,Nat.le_refl _,by omega⟩
open Classical in
theorem zhu(base b:Nat)(s:St)(nm of:ByteArray)(w:World)(hW:PeoAt base w b s)(hl:s.children.length<=100000):
 Calls Tryz.prog 36 #[.pointer (some ⟨b,0,none⟩),.string nm,.string of] w (Ret w (.bool (decide (Desc s of nm)))):=by
 go_enter Tryz.func36,Tryz.ntmps36
 go_wp2_with (go_at_call 70
              refine(desc_any base b s of _ hW hl).mono ?_;rintro e wq ⟨out,rfl,hm,hf,hB⟩;have dC:(Instr.lookup 89 (.map (some w.heap.size)) (.string nm) false).run Tryz.prog wq=.ok (.bool (out.any (zae nm))) wq:=by
               have:=zb4 zo0 hm.at nm;rw[out_get]at this
               exact this)
 go_ret
 refine Ret.of (zaO ?_) hB;rw[Bool.eq_iff_iff,zfy,decide_eq_true_eq];exact found_end hf nm
theorem ix_step{gs:List Grave}{f:Grave->Bool}{k:Nat}(h:k<gs.length):((gs.drop k).findIdx? f).map (· +k)=if f gs[k]then some k else((gs.drop (k+1)).findIdx? f).map (· +(k+1)):=by
 rw[List.drop_eq_getElem_cons h,List.findIdx?_cons];split
 ·simp
 ·rw[Option.map_map];congr 1
  funext x
  show x+1+k=x+(k+1);omega
theorem ix_end{gs:List Grave}{f:Grave->Bool}{k:Nat}(h:gs.length<=k):((gs.drop k).findIdx? f).map (· +k)=none:=by
 rw[List.drop_eq_nil_of_le h];rfl
theorem ix_start(gs:List Grave)(f:Grave->Bool):gs.findIdx? f=((gs.drop 0).findIdx? f).map (· +0):=by
 rw[List.drop_zero];cases gs.findIdx? f<;>rfl
def zlp(ps:List Nat)(i:Option Nat):Value:=.pointer (i.map fun i=>⟨ps.getD i 0,0,none⟩)
theorem zjB(base b:Nat)(s:St)(la co:Int)(place:ByteArray)(day:Int)(w:World){B ps:List Nat}{d c p wl r:Nat}{mv tv:Value}(hC:WldC w b d c p wl r mv tv la co)(hT:TombsAt base w B tv ps s.graves)(hl:s.graves.length<=100000):
 Calls Tryz.prog 31 #[.pointer (some ⟨b,0,none⟩),.string place,.int .i64 day] w (Ret w (zlp ps (zaP s place day))):=by
 obtain⟨A,cc,rfl,hS,ah⟩:=hT.own.sl zcW;have hb:=zab hC;unfold WldC at hC;have c6:w.cell? ⟨b,6,none⟩=some (.slice A ps.length cc):=by simp[World.cell?,hC]
 have eE:=hT.len;obtain⟨HT,HS⟩:=yH2 hT.all hS;clear hC hT hS;have hR:zaP s place day=((s.graves.drop 0).findIdx? fun g=>zae g.place place&&zaT g day).map (· +0):=ix_start _ _;generalize zaP s place day=R at*;generalize s.graves=gs at*;have HR:=zHi hR;clear hR;go_enter Tryz.func31,Tryz.ntmps31
 go_wp2_with fail
 go_loopw [14] (fun i wr=>∃k:Nat,k<=ps.length/\i=.int .i64 k/\Hid (R=((gs.drop k).findIdx? fun g=>zae g.place place&&zaT g day).map (· +k))/\∃z,wr=w.ext z) (fun i _=>ps.length-(intOf i).toNat)
 case atStart=>exact⟨0,Nat.zero_le _,rfl,HR.o,zaV (Below.refl _ _)⟩
 case round=>
  obtain⟨k,hk,rfl,HX,z,rfl⟩:=hrel;by_cases aa:k<ps.length
  ·obtain⟨b',off,rfl,cC,hc⟩:=(HS.o.keep (zap w z)).at aa;have cx:k<gs.length:=Mcm;obtain⟨H,aJ,D,dc,fr,t1,t2,t3,t4,t5,t6,t7⟩:=(HT.o k _ _ (List.getElem?_eq_getElem aa) (List.getElem?_eq_getElem cx)).keep (zap w z);have aj:=HX.o.trans (ix_step cx);have aH:=zHi aj;have iF:ps.getD k 0=ps[k]:=Mde;have IJ:=zHi iF;clear aj iF t5 t6 t7;generalize ps[k]=T at*;generalize gs[k]=g at*;have cV:=zab t1;unfold zbz at t1;have k0:(w.ext z).cell? ⟨T,0,none⟩=some (.string g.place):=Mem;have k3:(w.ext z).cell? ⟨T,3,none⟩=some (.int .i64 g.fin):=Mem;have k4:(w.ext z).cell? ⟨T,4,none⟩=some (.slice H g.holders.length aJ):=Mem;have cp:(w.ext z).cell? ⟨b',off+k,none⟩=some (.pointer (some ⟨T,0,none⟩)):=MdC;obtain⟨K3,K4⟩:=yH2 k3 k4;have au:(k:Int)<(ps.length:Int):=Mcm;have aP:(0:Int)<=(k:Int):=Mcm;clear t1 hc k3 k4;go_wp2_with (go_at_call 67;refine(zir g H aJ T day _ K3.o K4.o).mono ?_;intro e wq hq;rcases Ret.bools hq with⟨zq,rfl,⟨hb,rfl⟩|⟨hb,rfl⟩⟩<;>clear hq)
   all_goals first
    |(go_ret
      have cO:R=some k:=by rw[aH.o];simp[zee,ze4, *]
      rw[cO];refine Ret.of ?_ Bw;show _=Value.pointer (some ⟨ps.getD k 0,0,none⟩);rw[IJ.o]
      rfl)
    |(go_round
      case rel=>exact⟨k+1,by omega,by go_num,(by rw[aH.o];simp[zee,ze4, *]:_=_),zaV Bw⟩
      case measure=>simp[intOf];omega)
  ·have au:¬(k:Int)<(ps.length:Int):=Mcm;have he:=HX.o.trans (ix_end (f:=fun g=>zae g.place place&&zaT g day) (by omega:gs.length<=k));have HE:=zHi he;clear he;go_wp2_with fail
   go_ret
   exact Ret.of (by rw[HE.o];rfl) Bw
theorem TombAt.kept{base k T:Nat}{W W':World}{B:List Nat}{g:Grave}{cs:Array Value}{t:TypeId}{fr:Nat×Nat}(h:TombAt W base B T g)(hg:W.grownBy W' (some k))(hx:W.heap[k]?=some (.cells cs t fr))(ai:T≠k)(h1:t≠62)(h2:t≠9):TombAt W' base B T g:=by
 obtain⟨H,hc,D,dc,fr',t1,t2,t3,t4,t5,t6,t7⟩:=h;exact⟨H,hc,D,dc,fr',(hg.block T (zab t1) (fun e=>ai MdN)).trans t1,t2,t3,t4,t5.kept hg hx h1,t6.kept hg hx h2,t7⟩
theorem TombAt.ne{base k T:Nat}{W:World}{B:List Nat}{g:Grave}{cs:Array Value}{t:TypeId}{fr:Nat×Nat}(h:TombAt W base B T g)(hx:W.heap[k]?=some (.cells cs t fr))(h1:t≠84):T≠k:=by
 obtain⟨H,hc,D,dc,fr',t1,t2,_⟩:=h;rintro rfl;rw[t1]at hx;simp only[Option.some.injEq,Obj.cells.injEq]at hx;exact h1 hx.2.1.symm
theorem TombsAt.mem{base:Nat}{W:World}{B ps:List Nat}{tv:Value}{gs:List Grave}(h:TombsAt base W B tv ps gs){T:Nat}(hT:T∈ps):∃g,TombAt W base B T g:=by
 obtain⟨i,hi,rfl⟩:=List.getElem_of_mem hT;exact⟨_,h.all i _ _ (List.getElem?_eq_getElem hi) (List.getElem?_eq_getElem (by have:=h.len;omega))⟩
theorem TombsAt.lt{base:Nat}{W:World}{B ps:List Nat}{tv:Value}{gs:List Grave}(h:TombsAt base W B tv ps gs){T:Nat}(hT:T∈ps):T<W.heap.size:=by
 obtain⟨g,H,hc,D,dc,fr',t1,_⟩:=h.mem hT;exact zab t1
theorem TombsAt.kept{base k:Nat}{W W':World}{B ps:List Nat}{tv:Value}{gs:List Grave}{cs:Array Value}{t:TypeId}{fr:Nat×Nat}(h:TombsAt base W B tv ps gs)(hg:W.grownBy W' (some k))(hx:W.heap[k]?=some (.cells cs t fr))(h1:t≠62)(h2:t≠9)(h3:t≠84)(h4:t≠81):TombsAt base W' B tv ps gs:=
 ⟨h.own.kept hg hx h4,h.len,h.nd,fun i T g e1 e2=>(h.all i T g e1 e2).kept hg hx ((h.all i T g e1 e2).ne hx h3) h1 h2⟩
theorem wldC_set6{W:World}{b d c p wl r:Nat}{mv tv:Value}{la co:Int}(h:WldC W b d c p wl r mv tv la co)(v':Value):WldC (W.setCell ⟨b,6,none⟩ v') b d c p wl r mv v' la co:=by
 unfold WldC at*;have:=Joins.block_setCell (i:=6) h v';simpa using this
theorem wld_push{base b:Nat}{W w1:World}{B ps:List Nat}{d c p wl r T:Nat}{mv tv v':Value}{s:St}{g:Grave}{la co:Int}(hb:base<=b)(hC:WldC W b d c p wl r mv tv la co)(hP:PplAt base W B d c p wl r mv s)(hT:TombsAt base W B tv ps s.graves)
 (hN:TombAt W base B T g)(hn:T∉ps)(h1:OwnS w1 base 81 1 ptrC v' (ps++[T]))(h2:W.grownBy w1 (za7 tv))(h3:∀k,za7 v'=some k->za7 tv=some k\/W.heap.size<=k):
 WldAt base (w1.setCell ⟨b,6,none⟩ v') b {s with graves:=s.graves++[g]} la co/\WldC w1 b d c p wl r mv tv la co:=by
 have cu:=zab hC;have ae:=hT.own;have bj:∀k,za7 tv=some k->∃cs fr,W.heap[k]?=some (.cells cs 81 fr):=fun k hk=>by
  exact Ma3
 have jt:za7 tv≠some b:=fun e=>by
  obtain⟨cs,fr,hx⟩:=bj b e;exact MbQ
 have cK:WldC w1 b d c p wl r mv tv la co:=(h2.block b cu (fun e=>jt e.symm)).trans hC;have wt:PplAt base w1 B d c p wl r mv s:=by
  cases hk:za7 tv with
  |none=>rw[hk]at h2;exact hP.keep (n:=W.heap.size) ⟨h2.os,h2.tape,h2.output,h2.size,fun i hi=>h2.block i hi Mcp⟩
  |some k=>
   obtain⟨cs,fr,hx⟩:=bj k hk;rw[hk]at h2;exact hP.kept h2 hx Mco Mco Mco
 have b9:∀ {T':Nat} {g':Grave},TombAt W base B T' g'->TombAt w1 base B T' g':=fun {T' g'} h=>by
  cases hk:za7 tv with
  |none=>rw[hk]at h2;exact h.keep (n:=W.heap.size) ⟨h2.os,h2.tape,h2.output,h2.size,fun i hi=>h2.block i hi Mcp⟩
  |some k=>
   obtain⟨cs,fr,hx⟩:=bj k hk;rw[hk]at h2;exact h.kept h2 hx (h.ne hx Mco) Mco Mco
 refine⟨?_,cK⟩;have aK:=zar w1 b 6 v';refine⟨B,d,c,p,wl,r,mv,v',ps++[T],hb,wldC_set6 cK v',?_,?_⟩
 ·have:=wt.kept aK cK Mco Mco Mco;exact⟨this.nd,this.ge,this.dead,this.rows,this.marr,this.wills,this.ren⟩
 ·refine⟨h1.kept aK cK Mco,by simp[hT.len],?_,fun i T' g' e1 e2=>?_⟩
  ·rw[List.nodup_append];exact⟨hT.nd,by simp,fun a ha b' cC e=>by rw[List.mem_singleton.1 cC]at e;exact hn (e▸ha)⟩
  ·have fN:TombAt w1 base B T' g':=by
    by_cases hi:i<ps.length
    ·have KR:i<s.graves.length:=by have:=hT.len;omega
     rw[List.getElem?_append_left hi]at e1;rw[List.getElem?_append_left KR]at e2;exact b9 (hT.all i T' g' e1 e2)
    ·have uc:i=ps.length:=by have:=(List.getElem?_eq_some_iff.1 e1).1;simp at this;omega
     subst uc;simp at e1;rw[hT.len]at e2;simp at e2;subst e1 e2;exact b9 hN
   exact fN.kept aK cK (fN.ne cK Mco) Mco Mco
def KeepD(w w':World):Prop:= ∀(k:Nat) (cur:Array Value) (fr:Nat×Nat),w.heap[k]?=some (.cells cur 28 fr)->w'.heap[k]?=w.heap[k]?
section
variable {w w' w2:World}
theorem KeepD.below(h:Below w.heap.size w w'):KeepD w w':=fun k _ _ hk=>h.block k (zab hk)
theorem KeepD.trans(h:KeepD w w')(h2:KeepD w' w2):KeepD w w2:=fun k cur fr hk=>by
 have e:=h k cur fr hk;exact(h2 k cur fr (e.trans hk)).trans e
theorem KeepD.cells{g:Nat}{cs:Array Value}{t:TypeId}{fr:Nat×Nat}(hg:w.grownBy w' (some g))(hx:w.heap[g]?=some (.cells cs t fr))(ai:t≠28):KeepD w w':=fun k cur f hk=>
 hg.block k (zab hk) (fun e=>by
  simp only[Option.some.injEq]at e;subst e;rw[hx]at hk;simp only[Option.some.injEq,Obj.cells.injEq]at hk
  exact ai hk.2.1)
theorem KeepD.map{g:Nat}{es:Array MapEntry}{c:Nat}(hg:w.grownBy w' (some g))(hx:w.heap[g]?=some (.map es c)):KeepD w w':=fun k cur f hk=>
 hg.block k (zab hk) (fun e=>by
  simp only[Option.some.injEq]at e;subst e;rw[hx]at hk
  simp at hk)
theorem KeepD.own{α:Type}{base:Nat}{e:TypeId}{size:Nat}{f:α->List Value}{v:Value}{xs:List α}(h:OwnS w base e size f v xs)(hg:w.grownBy w' (za7 v))(ai:e≠28):KeepD w w':=by
 rcases h with⟨rfl,_⟩|⟨g,o,c,cur,rfl,_,hx,_⟩
 ·exact fun k cur f hk=>hg.block k (zab hk) Mdf
 ·exact KeepD.cells hg hx ai
end
def zbH(base b:Nat)(x:St×Int)(la co:Int)(w:World)(e:Ending)(w':World):Prop:=
 e=.returned (.int .i64 x.2)/\WldAt base w' b x.1 la co/\Below base w w'/\KeepD w w'
def Deed.v(d:Deed)(B:Option Addr)(c:Nat):Value:=.agg #[.int .i64 d.kind,.int .i64 d.day,.string d.place,.string d.frm,.slice B d.to.length c,.int .i64 d.cls,.int .i64 d.years]
theorem zi0{p:RPart}(h:za9 16 p.num p.den=true):p.rat.num=p.num/\(p.rat.den:Int)=p.den:=⟨(zbk h).1,(zbk h).2.1⟩
theorem zoB(l:List RPart){k:Nat}(h:k<l.length):zbd (l.take (k+1)) []=za4 (zbd (l.take k) []) l[k].name l[k].rat:=by
 rw[List.take_succ_eq_append_getElem h];unfold zbd;rw[List.foldl_append];rfl
theorem sl_ptr{w:World}{b T:Nat}{t:TypeId}{fr:Nat×Nat}(h:w.heap[b]?=some (.cells #[.pointer (some ⟨T,0,none⟩)] t fr)):Sl w 1 ptrC (some ⟨b,0,none⟩) [T]:=fun _=>⟨b,0,rfl,zab h,fun k y hy j u hu=>by
 have hk:k=0:=Mcy;subst hk;simp only[List.getElem?_cons_zero,Option.some.injEq]at hy;subst hy;match j,hu with
 |0,hu=>simp[ptrC]at hu;simp[World.cell?,h,<-hu]
 |j+1,hu=>simp[ptrC]at hu⟩
theorem zhv:∀ {l:List RPart} {out:Parts} {seen:List ByteArray},zcU l seen=true->(∀p∈out,p.1∈seen)->∀k (h:k<l.length),zag (zbd (l.take k) out) l[k].name=0
 | [],_,_,_,_,_,h=>absurd h Mcp
 |p::l,out,seen,hf,ho,0,_=>by
  rw[zcU,Bool.and_eq_true]at hf;have h1:p.name∉seen:=by
   have:=hf.1;simp only[Bool.not_eq_true']at this;intro h;rw[zfy.2 h]at this;cases this
  exact(zdE fun q hq e=>h1 (by have e':q.1=p.name:=e;rw[<-e'];exact ho q hq)).1
 |p::l,out,seen,hf,ho,k+1,h=>by
  rw[zcU,Bool.and_eq_true]at hf
  exact zhv (l:=l) (out:=za4 out p.name p.rat) hf.2 (fun q hq=>by
   rcases zfa hq with e|hq
   ·rw[e];simp
   ·exact List.mem_cons_of_mem _ (ho q hq)) k Mc8
theorem zbP{base b:Nat}{s:St}{x:St×Int}{la co er:Int}{w w':World}(hW:WldAt base w b s la co)(hB:Below w.heap.size w w')(hx:x=(s,er)):zbH base b x la co w (.returned (.int .i64 er)) w':=by
 rw[hx];exact⟨rfl,hW.keep hB,hB.mono (by have:=hW.lt;omega),KeepD.below hB⟩
theorem zmJ{shares all:Bool}{frm:ByteArray}{l:List RPart}(h:zc6 shares all frm l=true):zcU l []=true/\∀p∈l,zae p.name frm=false:=by
 unfold zc6 at h;simp only[Bool.and_eq_true,List.all_eq_true,Bool.not_eq_true']at h;exact⟨h.1.1,h.1.2⟩
theorem set_lit(base T:Nat)(xs:Parts)(v:Value)(pl:ByteArray)(cl fr en:Int)(dv:Value)(p:RPart)(w:World)(hp:za9 16 p.num p.den=true)(hT:zbz w T pl cl fr en v dv)(rY:base<=T)(ae:OwnS w base 62 3 zaa v xs)(hA:AscP xs)(hl:xs.length<=90000):
 Calls Tryz.prog 86 #[.pointer (some ⟨T,0,none⟩),.string p.name,.agg #[.int .i64 p.num,.int .i64 p.den]] w (zko w base T pl cl fr en dv v (setP xs p.name p.rat)):=by
 have h:=zit base T xs v pl cl fr en dv p.name p.rat w hT rY ae hA hl;rw[(zi0 hp).1,(zi0 hp).2]at h;exact h
theorem good_take{l:List RPart}(h:∀p∈l,0<p.rat/\IsN 720720 p.rat/\za9 16 p.num p.den=true)(k:Nat):GoodParts (zbd (l.take k) []):=
 (zij (l:=l.take k) zd6 Mcp fun p hp=>⟨(h p (List.mem_of_mem_take hp)).1,(h p (List.mem_of_mem_take hp)).2.1⟩).1
theorem zcw(n:ByteArray)(q:Rat):∀l:Parts,(za4 l n q).length<=l.length+1
 | []=>by unfold za4;split<;>simp
 |p::l=>by
  have:=zcw n q l;unfold za4;split
  ·simp
  ·split
   ·simpa using this
   ·split<;>simp<;>omega
theorem zfj:∀(l:List RPart) (out:Parts),(zbd l out).length<=out.length+l.length
 | [],out=>by simp[zbd]
 |p::l,out=>by
  have h1:=zfj l (za4 out p.name p.rat);have h2:=zcw p.name p.rat out;show(zbd l (za4 out p.name p.rat)).length<=_;simp;omega
theorem grant_any(base b:Nat)(s:St)(la co:Int)(d:Deed)(B:Option Addr)(c:Nat)(w:World)(hW:WldAt base w b s la co)(hL:LensIn w)(hd:OkD d)(hk:d.kind=0)(ag:s.graves.length<=1000)(ar:d.to.length<=c)(hS:Sl w 3 RPart.cells B d.to):
 Calls Tryz.prog 51 #[.pointer (some ⟨b,0,none⟩),d.v B c] w (zbH base b (zcH s d) la co w):=by
 have ao:=hW;obtain⟨Bk,dd,cc,pp,wl,rr,mv,tv,ps,b8,hC,hP,hT⟩:=hW;have hp:=(hd.parts (.inl hk)).2;have bO:=(zea hp).1;have Am:=(zmJ hp).1;have bY:=hd.day;have dV:=hd.years;have bA:=hd.len;clear hp hd hk;obtain⟨kd,dy,pl,fr,ts,cl,yr⟩:=d;simp only at*;have cu:=zab hC;obtain⟨bX,uA,am,HW,ji,Ii,HC,HP⟩:=yH8 (fun W (hB:Below w.heap.size w W)=>zjB base b s la co pl dy W (hC.keep hB) (hT.keep hB) Mcm) (fun W (hB:Below w.heap.size w W)=>ziu base b s ts B _ c W rfl Mcm (ao.peo.keep hB) (hS.keep hB)) (fun W (hB:Below w.heap.size w W)=>zjA dy yr W (hL.keep hB) bY.1 bY.2 dV.1 dV.2) ao bO Am hC hP;obtain⟨HT,HS⟩:=yH2 hT hS;clear ao hC hP hT hS bO Am hL;unfold Deed.v;simp only;go_enter Tryz.func51,Tryz.ntmps51
 go_upto_block 0 with fail
 cases aX:zaP s pl dy with
 |some i=>
  rw[aX]at bX;have HG:Hid (zcH s ⟨kd,dy,pl,fr,ts,cl,yr⟩=(s,13)):=by show _=_;simp[zcH,aX]
  clear aX;go_wp2_with (go_at_call 31;refine(bX.o _ Bw).mono ?_;rintro e wq ⟨rfl,z,rfl⟩;simp only[zlp,Option.map_some])
  go_ret
  exact zbP HW.o Bw HG.o
 |none=>
  rw[aX]at bX;have kI:=zHi aX;clear aX;go_cut [5]from 9 (fun v wc=>v=.int .i64 (if decide (0<yr)then zce dy yr else-1)/\Hid (zcH s ⟨kd,dy,pl,fr,ts,cl,yr⟩=({s with graves:=s.graves++[⟨pl,cl,if decide (0<yr)then zce dy yr else-1,zbd ts [],[]⟩]},0))/\Below w.heap.size w wc/\w.heap.size<wc.heap.size/\wc.heap[w.heap.size]?=some (.cells #[.int .i64 kd,.int .i64 dy,.string pl,.string fr,.slice B ts.length c,.int .i64 cl,.int .i64 yr] 28))
  case first=>
   generalize hR:zce dy yr=R at*;have HR:=zHi hR;clear hR
   go_wp2_with (first
    |(go_at_call 31;refine(bX.o _ Bw).mono ?_;rintro e wq ⟨rfl,z,rfl⟩;simp only[zlp,Option.map_none])
    |(go_at_call 84;refine(uA.o _ Bw).mono ?_;intro e wq hq;rcases Ret.bools hq with⟨zq,rfl,⟨hb,rfl⟩|⟨hb,rfl⟩⟩<;>clear hq)
    |(go_at_call 85;refine(am.o _ Bw).mono ?_;rintro e wq ⟨rfl,z2,rfl⟩))
   all_goals first
    |(go_ret
      exact zbP HW.o Bw (by simp[zcH,kI.o,HR.o, *]))
    |(go_meet
      refine⟨(by first|(simp[*];done)|(simp[*];omega)),(by first|(simp[zcH,kI.o,HR.o, *];done)|(simp[zcH,kI.o,HR.o, *];omega):_=_),Bw,by simp[zaf];omega,?_⟩
      repeat(first|exact zas _ _ _ rfl|with_reducible refine zbv ?_|with_reducible refine zak ?_))
  case rest=>
   obtain⟨rfl,HG,hB,hsz,g0⟩:=hcut;generalize(if decide (0<yr)=true then zce dy yr else-1)=en at*;clear bX uA am;obtain⟨d0,d1,d2,d3,d4,d5,d6⟩:=cF7 g0;have ai:w.heap.size≠wc.heap.size:=Mcm;have rY:base<=wc.heap.size:=Mcm;have ej:wc.heap.size∉ps:=fun h=>by have:=HT.o.lt h;omega
   have G0:=zHi g0;clear g0;go_wp2_with fail
   go_loopw [45] (fun i wr=>∃(k:Nat) (v:Value),k<=ts.length/\i=.int .i64 k/\zbz wr wc.heap.size pl cl dy en v (.slice none 0 0)/\OwnS wr wc.heap.size 62 3 zaa v (zbd (ts.take k) [])/\Below wc.heap.size wc wr) (fun i _=>ts.length-(intOf i).toNat)
   case atStart=>exact⟨0,.slice none 0 0,Nat.zero_le _,rfl,zas _ _ _ rfl,OwnS.nil,Bw⟩
   case round=>
    obtain⟨k,v,hk,rfl,wC,wk,nz⟩:=hrel;have fe:Below w.heap.size w wr:=hB.trans (nz.mono Mcm);have qm:=nz.size;have cV:=zab wC;have bP:=good_take ji.o k;have cx:=zfj (ts.take k) [];have KJ:(ts.take k).length<=8:=Mc6;have zi:=zHi bP;simp only[List.length_nil,Nat.zero_add]at cx;clear bP;by_cases aa:k<ts.length
    ·obtain⟨b',off,rfl,cC,hc⟩:=(HS.o.keep fe).at aa;have cj:=zhv (out:=[]) Ii.o Mcp k aa;have gN:=ji.o ts[k] (List.getElem_mem aa);have aK:=zoB ts aa;generalize ts[k]=p at*;obtain⟨pn,pu,pd⟩:=p;have h0:wr.cell? ⟨b',off+k*3,none⟩=some (.string pn):=hc 0 _ rfl;have h1:wr.cell? ⟨b',off+k*3+1,none⟩=some (.int .i64 pu):=hc 1 _ rfl;have h2:wr.cell? ⟨b',off+k*3+2,none⟩=some (.int .i64 pd):=hc 2 _ rfl;have HN:Hid (setP (zbd (ts.take k) []) pn (RPart.rat ⟨pn,pu,pd⟩)=zbd (ts.take (k+1)) []):=by
      show _=_;have:=zim zi.o (n:=pn) (q:=RPart.rat ⟨pn,pu,pd⟩) (by have:=gN.1;grind);simp only at cj;rw[cj,Rat.zero_add]at this;rw[this,aK]
     have fZ:=zHi (fun W (f9:Below wr.heap.size wr W)=>set_lit wc.heap.size wc.heap.size (zbd (ts.take k) []) v pl cl dy en (.slice none 0 0) ⟨pn,pu,pd⟩ W gN.2.2 ((f9.block _ cV).trans wC) (Nat.le_refl _) (wk.keep f9) zi.o.asc Mcm);have au:(k:Int)<(ts.length:Int):=Mcm;have aP:(0:Int)<=(k:Int):=Mcm;have fD:(k:Int)<=(c:Int):=Mcm;clear hc cj gN aK wC wk;go_wp2_with (go_at_call 86;refine(fZ.o _ Bw).mono ?_;rintro e wq ⟨rfl,v',t1,t2,t3,_⟩)
     go_round
     case rel=>exact⟨k+1,v',by omega,by go_num,t1,by rw[<-HN.o];exact t2,Below.trans Bw t3⟩
     case measure=>simp[intOf];omega
    ·have au:¬(k:Int)<(ts.length:Int):=Mcm;rw[List.take_of_length_le Mcm]at wk;obtain⟨HA,pM,rfl,uf,dX⟩:=wk.ro;have hN:TombAt wr base Bk wc.heap.size ⟨pl,cl,en,zbd ts [],[]⟩:=⟨HA,pM,none,0,dy,wC,rY,uf,Nat.le_refl _,dX,Ro.nil,by simp⟩
     have HN:=zHi hN;have zH:WldC wr b dd cc pp wl rr mv tv la co:=HC.o.keep fe;unfold WldC at zH;obtain⟨-,-,-,-,-,-,c6⟩:=cF7 zH;have D8:b<wr.heap.size:=zab zH;have qe:ps.length<=1000:=by rw[HT.o.len];exact ag
     have dg:=HT.o.own.ge;have Et:=zHi dg;clear wC wk dX hN zH dg
     go_wp2_with (at_builtin
                  go_loud(refine zau (v:=tv) (n:=ps.length) (m:=1) rfl _ _ rfl elTomb zcW znO rfl (HT.o.own.keep (n:=w.heap.size) Bw) rfl rfl rfl (sl_ptr (zas _ _ _ rfl)) McL Mcm Mcr ?_)
                  intro v3 w3 h1 h2 h3;obtain⟨A3,q3,Hf,_,_⟩:=h1.sl zcW;rw[List.length_append]at Hf;subst Hf;go_loud(obtain⟨qf,mh⟩:=wld_push b8 (HC.o.keep (n:=w.heap.size) Bw) (HP.o.keep (n:=w.heap.size) Bw) (HT.o.keep (n:=w.heap.size) Bw) (HN.o.keep (n:=wr.heap.size) Bw) ej h1 h2 h3)
                  have jN:=zHi qf;go_loud(have aC:=Below.grown (B:=base) (a:=w) (Below.mono (B:=w.heap.size) Bw Mcm) h2 Mcr (fun j hj=>(Et.o j hj).1))
                  go_loud(have bQ:=((KeepD.below (w:=w) Bw).trans (KeepD.own (HT.o.own.keep (n:=w.heap.size) Bw) h2 Mco)).trans (KeepD.cells (zar w3 b 6 (.slice A3 (ps.length+[wc.heap.size].length) q3)) mh Mco))
                  have jM:=zHi bQ;unfold WldC at mh;have k6:w3.cell? ⟨b,6,none⟩=some tv:=(by simp only[World.cell?,mh];rfl)
                  have f6:w3.frozen? ⟨b,6,none⟩=false:=(by simp only[World.frozen?,mh];rfl)
                  have aL:=zHi aC
                  clear qf mh aC h1 h2 h3 bQ)
     go_ret
     rw[HG.o];exact⟨rfl,jN.o,zaL aL.o b8 _,jM.o⟩

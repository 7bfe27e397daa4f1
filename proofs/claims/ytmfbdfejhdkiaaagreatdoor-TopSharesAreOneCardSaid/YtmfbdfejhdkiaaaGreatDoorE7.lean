/- Walk of chapter 5's death. -/
import Derived.Test.YtmfbdfejhdkiaaaGreatDoorE6
import Derived.Test.YtmfbdfejhdkiaaaGreatDoorE1
import Derived.Test.YtmfbdfejhdkiaaaGreatDoorE3
set_option linter.all false
set_option maxRecDepth 100000
set_option maxHeartbeats 4000000
namespace Go.Proofs.YtmfbdfejhdkiaaaGreatDoor
open Go.RowKit Go.Shelf
attribute [local go_sem] World.cell?_alloc_mark zae za4 zao za8 zav zaw zax zay zaz za0 za1
attribute [local go_sem] zap zac
theorem estate_bd{s:St}{law:Law}{n:ByteArray}(hw:WillOk (zbx s n))(hl:zaA 16 law.num law.den=true):Bd (zck s law n).1 1:=by
 have hi:=zk4 (s:=s) (frm:=n) hw (zbx s n).length;rw[List.take_of_length_le Qc]at hi;unfold zck;generalize zdi s n (zbx s n) ([],false) 1=y at*;obtain⟨⟨o,f⟩,r⟩:=y;obtain⟨o1,o2,_,_⟩:=own_ok hi.isN hi.nn hi.le hl;have hb:=hi.bd;have hn:=hi.nn;simp only at*;split
 ·exact(zfB (fl:=f) hb hn).up6 McN
 ·split
  ·exact(zgK (fl:=f) hn hb).up6 McN
  ·exact(zgK (fl:=(zcU (zcq s n) (r*Rat.divInt law.num law.den) (o,f)).2) (show 0<=r-r*Rat.divInt law.num law.den by grind) (zfB (n:=zcq s n) (fl:=f) hb o1)).up6 McN
theorem death_bd{g:Grave}{n:ByteArray}{hs:Parts}(hG:GoodG g)(hE:Bd hs 1):0<=zag g.holders n/\zaL (zag g.holders n)/\zag g.holders n<=1/\∀(f:Bool) (k:Nat),Bd (zej (zag g.holders n) (hs.take k) (setP g.holders n 0,f)).1 1:=by
 have ho:=zb7 hG.good n;have bu:=zdz hG.good n;have dS:sumQ g.holders<=1:=by
  rcases hG.one with h|h
  ·rw[h];decide
  ·rw[h];exact Rat.le_refl
 have hb:Bd (setP g.holders n 0) (1-zag g.holders n):=by
  refine⟨zhK hG.good Mcu,zet hG.small Mcu,?_⟩;rw[zm5 hG.good];grind
 refine⟨ho,zbZ ho McN (zcQ n hG.small),by grind,fun f k=>?_⟩
 have h2:=zm6 ho (l:=hs.take k) (f:=f) (fun p hp=>by
  have:=hE.good.pos p (List.mem_of_mem_take hp)
  grind) hb
 refine h2.up ?_;have h3:=zl8 hs hE.good.pos k;have h4:=hE.le;have h5:=Rat.mul_nonneg ho (show 0<=1-sumQ (hs.take k) by grind);grind
theorem sum_mem{l:Parts}(h:∀p∈l,0<p.2){p:ByteArray×Rat}(hp:p∈l):p.2<=sumQ l:=by
 induction l with
 |nil=>cases hp
 |cons x l ih=>
  rw[sumQ];have h1:=zhf (l:=l) fun q hq=>h q MdE
  have h2:=h x Mcv;rcases List.mem_cons.1 hp with rfl|hp
  ·grind
  ·have:=ih (fun q hq=>h q MdE) hp;grind
theorem zdO{hs:Parts}(hE:Bd hs 1){p:ByteArray×Rat}(hp:p∈hs):0<p.2/\p.2<=1/\zaL p.2:=by
 have h0:=hE.good.pos p hp;have h1:p.2<=1:=by
  have:=hE.le;have h2:=sum_mem hE.good.pos hp;grind
 refine⟨h0,h1,zbZ McN h1 ?_⟩;have:=hE.small;unfold zaG at this;rw[List.any_eq_false]at this;simpa using this p hp
theorem zoK(own:Rat)(hs:Parts)(x:Parts×Bool){k:Nat}(h:k<hs.length):zej own (hs.take (k+1)) x=zfe own hs[k] (zej own (hs.take k) x):=by
 rw[List.take_succ_eq_append_getElem h,zff];rfl
theorem tomb_set5{W:World}{T:Nat}{pl:ByteArray}{cl fr en:Int}{v dv:Value}(h:zb1 W T pl cl fr en v dv)(v':Value):zb1 (W.setCell ⟨T,5,none⟩ v') T pl cl fr en v v':=by
 unfold zb1 at*;have:=Joins.block_setCell (i:=5) h v';simpa using this
theorem zkA{α:Type}{W:World}{base:Nat}{e t:TypeId}{size:Nat}{f:α->List Value}{v:Value}{xs:List α}{T:Nat}{cs:Array Value}{fr:Nat×Nat}(h:OwnS W base e size f v xs)(hT:W.heap[T]?=some (.cells cs t fr))(ag:t≠e):za6 v≠some T:=by
 exact M3
def zbL(n:ByteArray)(day:Int)(ps:List Nat)(gs:List Grave):List Nat:=(zbf n day 0 gs).map fun i=>ps.getD i 0
theorem zoL(a b:Int)(w:World):(Instr.field 57 (.agg #[.int .i64 a,.int .i64 b]) 0).run Tryz.prog w=.ok (.int .i64 a) w:=by kernel_rfl
abbrev Tm:=Grave×Int×(Option Addr×Nat)×(Option Addr×Nat)
def tmC(e:Tm):List Value:=[.string e.1.place,.int .i64 e.1.cls,.int .i64 e.2.1,.int .i64 e.1.fin,.slice e.2.2.1.1 e.1.holders.length e.2.2.1.2,.slice e.2.2.2.1 e.1.died.length e.2.2.2.2]
theorem zoa(e:Tm):(tmC e).length=6:=rfl
theorem tm_one(e:Tm):∀u∈tmC e,u.oneCell'=true:=by simp[tmC,Value.oneCell']
theorem elTm:ElTy Tryz.prog 137 90 6 88:=zdC (z:=.agg #[.string ⟨#[]⟩,.int .i64 0,.int .i64 0,.int .i64 0,.slice none 0 0,.slice none 0 0]) Mcs Mcs rfl Mcu
structure TmOk (W:World) (n0:Nat) (e:Tm):Prop where
 hs:Ro W 59 zaa e.2.2.1.1 e.1.holders
 hc:e.1.holders.length<=e.2.2.1.2
 ds:Ro W 9 sC e.2.2.2.1 e.1.died
 dc:e.1.died.length<=e.2.2.2.2
 ge:∀a,e.2.2.2.1=some a->n0<=a.block
theorem TmOk.same{W W':World}{n0:Nat}{e:Tm}(h:TmOk W n0 e)(hk:∀(k:Nat) (cur:Array Value) (t:TypeId) (f:Nat×Nat),W.heap[k]?=some (.cells cur t f)->t=59\/t=9->W'.heap[k]?=W.heap[k]?):TmOk W' n0 e:=
 ⟨h.hs.same fun b cur f hb _=>hk b cur _ f hb (.inl rfl),h.hc,h.ds.same fun b cur f hb _=>hk b cur _ f hb (.inr rfl),h.dc,h.ge⟩
theorem held_tomb{n:ByteArray}{day:Int}{ps:List Nat}{gs:List Grave}{base:Nat}{W:World}{B:List Nat}{tv:Value}(hT:TombsAt base W B tv ps gs){j:Nat}(hj:j<(zbL n day ps gs).length):
 ∃i g,(zbf n day 0 gs)[j]?=some i/\ps[i]?=some (zbL n day ps gs)[j]/\gs[i]?=some g/\(gs.filter (zc6 n day))[j]?=some g/\TombAt W base B (zbL n day ps gs)[j] g:=by
 have sV:j<(zbf n day 0 gs).length:=by unfold zbL at hj;simpa using hj
 obtain⟨_,g,h2,h3⟩:=znT n day gs 0 j _ (List.getElem?_eq_getElem sV);rw[Nat.sub_zero]at h2;have hi:(zbf n day 0 gs)[j]<ps.length:=by have:=(List.getElem?_eq_some_iff.1 h2).1;have:=hT.len;omega
 have hp:ps[(zbf n day 0 gs)[j]]?=some (zbL n day ps gs)[j]:=by
  have e:(zbL n day ps gs)[j]=ps.getD (zbf n day 0 gs)[j] 0:=by unfold zbL;simp
  rw[e,List.getElem?_eq_getElem hi,List.getD_eq_getElem?_getD,List.getElem?_eq_getElem hi];rfl
 exact⟨_,g,List.getElem?_eq_getElem sV,hp,h2,h3,hT.all _ _ _ hp h2⟩
theorem sl_tm{w:World}{b:Nat}{e:Tm}{t:TypeId}{fr:Nat×Nat}(h:w.heap[b]?=some (.cells (tmC e).toArray t fr)):Sl w 6 tmC (some ⟨b,0,none⟩) [e]:=fun _=>⟨b,0,rfl,zab h,fun k y hy j u hu=>by
 have hk:k=0:=McD;subst hk;simp only[List.getElem?_cons_zero,Option.some.injEq]at hy;subst hy;simp only[World.cell?,h,Nat.zero_mul,Nat.zero_add,Nat.add_zero]
 simpa using hu⟩
theorem ppl_rows{base:Nat}{W:World}{B:List Nat}{d c p wl r:Nat}{mv:Value}{s:St}(h:PplAt base W B d c p wl r mv s):∀g∈B,g<W.heap.size:=fun g hg=>by
 obtain⟨mc,mp,_,_,k3,k4,k5,_,kn1,kn2⟩:=h.rows;have key:∀ {m:List (ByteArray×Value)} {f:ByteArray->List ByteArray},(m.map (·.1)).Nodup->(∀n,RowIs W base m n (f n))->g∈zaY m->g<W.heap.size:=fun {m f} hk hr h=>by
  obtain⟨e,he,fA⟩:=zdf.1 h;have h1:=zhL hk (show(e.1,e.2)∈m from he);rcases hr e.1 with⟨h2,_⟩|⟨v,h2,h3⟩
  ·rw[h2]at h1;cases h1
  ·rw[h2]at h1;simp only[Option.some.injEq]at h1;rw[h1]at h3;exact(h3.ge g fA).2
 rw[k5,zc2,List.mem_append]at hg;rcases hg with hg|hg
 ·exact key kn1 k3 hg
 ·exact key kn2 k4 hg
theorem zmS{base i T:Nat}{W W':World}{B ps:List Nat}{tv:Value}{gs:List Grave}{g':Grave}{cs:Array Value}{fr:Nat×Nat}(hT:TombsAt base W B tv ps gs)
 (hi:ps[i]?=some T)(hx:W.heap[T]?=some (.cells cs 90 fr))(hg:W.grownBy W' (some T))(hN:TombAt W' base B T g'):TombsAt base W' B tv ps (gs.set i g'):=by
 refine⟨hT.own.kept hg hx Mcu,by simp[hT.len],hT.nd,fun j T' g e1 e2=>?_⟩;by_cases hj:i=j
 ·subst hj;rw[hi]at e1;have fg:i<gs.length:=MdN;exact Mbs
 ·exact Mat
theorem wldC_tomb{W W':World}{b d c p wl r T:Nat}{mv tv:Value}{la co:Int}{cs:Array Value}{fr:Nat×Nat}(h:WldC W b d c p wl r mv tv la co)(hx:W.heap[T]?=some (.cells cs 90 fr))(hg:W.grownBy W' (some T)):WldC W' b d c p wl r mv tv la co:=
 (hg.block b (zab h) (fun e=>by
   simp only[Option.some.injEq]at e;subst e;unfold WldC at h;rw[h]at hx
   simp at hx)).trans h
theorem zoM{w W W':World}{g n:Nat}(h:w.grownBy W (some g))(hb:Below n W W')(hn:w.heap.size<=n):w.grownBy W' (some g):=
 ⟨hb.os.trans h.os,hb.tape.trans h.tape,hb.output.trans h.output,Nat.le_trans h.size hb.size,fun k hk ag=>(hb.block k Mcq).trans (h.block k hk ag)⟩
theorem zjO{w W W':World}{g n:Nat}(hb:Below n w W)(hn:w.heap.size<=n)(h:W.grownBy W' (some g)):w.grownBy W' (some g):=
 ⟨h.os.trans hb.os,h.tape.trans hb.tape,h.output.trans hb.output,Nat.le_trans hb.size h.size,fun k hk ag=>(h.block k (Nat.lt_of_lt_of_le hk hb.size) ag).trans (hb.block k Mcq)⟩
theorem B_drop{w W:World}(h:Below w.drew.heap.size w.drew W):Qa w W:=⟨h.os,h.tape,h.output,h.size,h.block⟩
theorem death_any(base b:Nat)(s:St)(la co last:Int)(laws:List Law)(LA:Option Addr)(lc:Nat)(d:Deed)(B:Option Addr)(c:Nat)(w:World)(hW:WldAt base w b s la co)(jm:GoodSt s last)(hl:last<=d.day)(hk:d.kind=8)(fh:zaA 16 (zbc laws d.day).num (zbc laws d.day).den=true)(fM:laws.length<=10)(eT:Sl w 4 Law.cells LA laws)
 (li:s.graves.length<=1000)(dO:s.children.length<=1000)(kF:s.marriages.length<=1000)(bY:(zbx s d.frm).length<=1000)(cg:∀g∈s.graves,g.holders.length<=70000/\g.died.length<=1000):
 Calls Tryz.prog 54 #[.pointer (some ⟨b,0,none⟩),.slice LA laws.length lc,d.v B c] w (zbC base b (zdP laws s d) la co w):=by
 have hq:=deathP_eq jm hl fh;have FW:=estate_bd (s:=s) (law:=zbc laws d.day) (jm.wills d.frm) fh;have am:=hW;obtain⟨Bk,dd,cc,pp,wl,rr,mv,tv,ps,aN,hC,hP,hT⟩:=hW;have cJ:=zab hC;obtain⟨kd,dy,pl,fr,ts,cl,yr⟩:=d;simp only at*;clear hk;have HX:Hid (zdP laws s ⟨kd,dy,pl,fr,ts,cl,yr⟩=_):=hq;generalize zdP laws s ⟨kd,dy,pl,fr,ts,cl,yr⟩=X at*;obtain⟨TA,tc,rfl,_,uI⟩:=hT.own.sl zcK;have wS:=hT.own;obtain⟨nF,HC,HP,HT,HW,dl,om,dB⟩:=yH8 hT.len hC hP hT am jm cg eT;have qW:=zHi FW;unfold WldC at hC;obtain⟨c0,-,-,-,-,-,c6⟩:=cF7 hC;have lQ:=zHi (fun W (hB:Qa w W)=>zd0 (HP.o.keep hB) fr);have aR:∀q',_:=fun q'=>lQ.o ((w.alloc (.cells #[.int .i64 kd,.int .i64 dy,.string pl,.string fr,.slice B ts.length c,.int .i64 cl,.int .i64 yr] 28)).drewN q') (zeh Bw _)
 generalize qa:zaP s fr=dx at*;clear hC hP hT am jm cg eT hq FW;unfold Deed.v;simp only;go_enter Tryz.func54,Tryz.ntmps54
 go_upto_region 1 with fail
 cases dx
 ·go_quiet (fail)
  go_upto_block 0 with fail
  have bx:Qa w (((w.alloc (.cells #[.int .i64 kd,.int .i64 dy,.string pl,.string fr,.slice B ts.length c,.int .i64 cl,.int .i64 yr] 28)).drewN nq).alloc (.cells #[.bool false] 133)):=zad (zeh Bw _) _;have D2:(((w.alloc (.cells #[.int .i64 kd,.int .i64 dy,.string pl,.string fr,.slice B ts.length c,.int .i64 cl,.int .i64 yr] 28)).drewN nq).alloc (.cells #[.bool false] 133)).heap[w.heap.size]?=some (.cells #[.int .i64 kd,.int .i64 dy,.string pl,.string fr,.slice B ts.length c,.int .i64 cl,.int .i64 yr] 28):=zal (zat _ _ _ rfl);have M2:MarkAt (((w.alloc (.cells #[.int .i64 kd,.int .i64 dy,.string pl,.string fr,.slice B ts.length c,.int .i64 cl,.int .i64 yr] 28)).drewN nq).alloc (.cells #[.bool false] 133)) (w.heap.size+1) false:=zat _ _ _ (by simp[World.drewN]);have s2:(((w.alloc (.cells #[.int .i64 kd,.int .i64 dy,.string pl,.string fr,.slice B ts.length c,.int .i64 cl,.int .i64 yr] 28)).drewN nq).alloc (.cells #[.bool false] 133)).heap.size=w.heap.size+1+1:=by simp[World.drewN]
  generalize(((w.alloc (.cells #[.int .i64 kd,.int .i64 dy,.string pl,.string fr,.slice B ts.length c,.int .i64 cl,.int .i64 yr] 28)).drewN nq).alloc (.cells #[.bool false] 133))=W2 at*;obtain⟨aC,jL,pM,S2⟩:=yH4 bx D2 M2 s2;clear D2 M2 s2 aR;have bk:=bx.size;clear bx;go_cut [8,10,35]from 36 (fun v8 _ _ wc=>∃A n,v8=.slice A (zbL fr dy ps s.graves).length n/\OwnS wc W2.heap.size 88 1 ptrC v8 (zbL fr dy ps s.graves)/\Qa W2 wc)
  case first=>
   go_wp2_with fail
   go_loopw [8,35] (fun v i wr=>∃(k:Nat),k<=ps.length/\i=.int .i64 k/\OwnS wr W2.heap.size 88 1 ptrC v (zbL fr dy ps (s.graves.take k))/\Qa W2 wr) (fun _ i _=>ps.length-(intOf i).toNat)
   case atStart=>exact⟨0,Nat.zero_le _,rfl,OwnS.nil,Qb⟩
   case round=>
    obtain⟨k,hk,rfl,ac,hB⟩:=hrel;obtain⟨VA,vc,rfl,_,kf⟩:=ac.sl zcK;have aY:Qa w wr:=aC.o.trans (hB.mono bk);have hsz:=hB.size;obtain⟨HO,HB⟩:=yH2 ac hB;have e1:wr.cell? ⟨w.heap.size,1,none⟩=some (.int .i64 dy):=(zah hB MdQ).trans (by simp only[World.cell?,jL.o];rfl);have e3:wr.cell? ⟨w.heap.size,3,none⟩=some (.string fr):=(zah hB MdQ).trans (by simp only[World.cell?,jL.o];rfl);have br:w.heap.size<wr.heap.size:=MdQ;by_cases aa:k<ps.length
    ·have jW:k<s.graves.length:=Md8;have Dq:=(HT.o.keep aY).all k ps[k] s.graves[k] (List.getElem?_eq_getElem aa) (List.getElem?_eq_getElem jW);have bl:=dl.o.graves s.graves[k] (List.getElem_mem jW);have mM:=om.o s.graves[k] (List.getElem_mem jW)
     obtain⟨TB,toff,Ak,Dp,wV⟩:=(show Sl wr 1 ptrC TA ps from by
      obtain⟨A',c',e',h',_⟩:=(wS.keep aY).sl zcK;simp only[Value.slice.injEq]at e'
      rw[e'.1];exact h').at aa
     subst Ak;have bN:=held_snoc fr dy s.graves jW;have ia:ps.getD k 0=ps[k]:=Mdd;have i0:wr.cell? ⟨TB,toff+k,none⟩=some (.pointer (some ⟨ps[k],0,none⟩)):=by have:=wV 0 _ rfl;simpa using this
     have He:zbL fr dy ps (s.graves.take (k+1))=zbL fr dy ps (s.graves.take k)++if zc6 fr dy s.graves[k]then[ps[k]]else[]:=by
      unfold zbL;rw[bN,List.map_append];cases zc6 fr dy s.graves[k]
      ·rfl
      ·show _++[ps.getD k 0]=_;rw[ia];rfl
     generalize ps[k]=T at*;generalize s.graves[k]=g at*;have I9:zc6 fr dy g=(zaO g dy&&decide (0<(zag g.holders fr).num)):=rfl;obtain⟨H,aI,D,dc,frm,t1,t2,t3,t4,t5,t6,t7⟩:=Dq;have cZ:=zab t1;unfold zb1 at t1;obtain⟨-,-,-,g3,g4⟩:=cF5 t1;obtain⟨BP,jh,BM,zQ⟩:=yH4 (fun W (hW:Qa wr W)=>ziu g H aI T dy W ((zah hW cZ).trans g3) ((zah hW cZ).trans g4)) (fun W (hW:Qa wr W)=>zev g.holders H aI T fr W ((zah hW cZ).trans g4) (Nat.lt_of_lt_of_le cZ hW.size) Mcq bl.good.asc (Ro.sl zai (t5.keep hW))) He I9;generalize zaO g dy=fi at*;generalize zag g.holders fr=q at*;unfold zaD at jh;have ar:(k:Int)<(ps.length:Int):=Mcq;have aR:(0:Int)<=(k:Int):=Mcq;have jY:(k:Int)<=(tc:Int):=Mcq;have fL:(zbL fr dy ps (s.graves.take k)).length<=1000:=by
      unfold zbL;rw[List.length_map,zfC];exact MaV
     generalize zbL fr dy ps (s.graves.take k)=cT at*;have cv:=zHi fL;clear bl mM bN He I9 t1 t5 t6 t7 t2 t3 t4 wV ac hB aY fL ia g3 g4;have Az:=zoL q.num q.den;cases fi
     ·rw[Bool.false_and]at zQ;go_wp2_with (go_at_call 62;refine(BP.o _ Bw).mono ?_;rintro e wq ⟨rfl,z,rfl⟩)
      go_round
      case rel=>exact⟨k+1,by omega,by go_num,by rw[BM.o,zQ.o];simpa using HO.o.keep (n:=wr.heap.size) Bw,HB.o.trans ((Bw:Qa wr _).mono hsz)⟩
      case measure=>simp[intOf];omega
     ·by_cases hq:0<q.num
      ·have vK:Hid (zc6 fr dy g=true):=by show _=_;rw[zQ.o];simpa using hq
       go_wp2_with (first
        |(go_at_call 62;refine(BP.o _ Bw).mono ?_;rintro e wq ⟨rfl,z,rfl⟩)
        |(go_at_call 89;refine(jh.o _ Bw).mono ?_;rintro e wq2 ⟨rfl,z2,rfl⟩)
        |(at_builtin;go_loud(refine zas (v:=.slice VA cT.length vc) (n:=cT.length) (m:=1) rfl _ _ rfl elTomb zcK znL rfl (HO.o.keep (n:=wr.heap.size) Bw) rfl rfl rfl (sl_ptr (T:=T) (zat _ _ _ Mdi)) (by have:=cv.o;simp[maxLen];omega) (by have:=cv.o;omega) McA ?_);intro v3 w3 h1 h2 h3))
       have av:Qa W2 w3:=Below.grown (a:=W2) (B:=W2.heap.size) (HB.o.trans ((Bw:Qa wr _).mono hsz)) h2 McA (fun j hj=>(HO.o.ge j hj).1);obtain⟨aJ,H1⟩:=yH2 av h1;clear h1 h2 h3 av;go_wp2_with fail
       go_round
       case rel=>exact⟨k+1,by omega,by go_num,by rw[BM.o,vK.o];exact H1.o,aJ.o⟩
       case measure=>simp[intOf];omega
      ·have vK:Hid (zc6 fr dy g=false):=by show _=_;rw[zQ.o];simpa using hq
       go_wp2_with (first
        |(go_at_call 62;refine(BP.o _ Bw).mono ?_;rintro e wq ⟨rfl,z,rfl⟩)
        |(go_at_call 89;refine(jh.o _ Bw).mono ?_;rintro e wq2 ⟨rfl,z2,rfl⟩))
       go_round
       case rel=>exact⟨k+1,by omega,by go_num,by rw[BM.o,vK.o];simpa using HO.o.keep (n:=wr.heap.size) Bw,HB.o.trans ((Bw:Qa wr _).mono hsz)⟩
       case measure=>simp[intOf];omega
    ·have ar:¬(k:Int)<(ps.length:Int):=Mcq;have g9:zbL fr dy ps (s.graves.take k)=zbL fr dy ps s.graves:=by rw[List.take_of_length_le Md8]
     have eu:=zHi g9;clear g9 ac hB aY;go_wp2_with fail
     go_meet
     have hO:=HO.o;rw[eu.o]at hO⊢;exact⟨VA,vc,rfl,hO,HB.o⟩
  case rest=>
   obtain⟨HA,hn,rfl,ac,hB⟩:=hcut;have aY:Qa w wc:=aC.o.trans (hB.mono bk);have hD:wc.heap[w.heap.size]?=some (.cells #[.int .i64 kd,.int .i64 dy,.string pl,.string fr,.slice B ts.length c,.int .i64 cl,.int .i64 yr] 28):=(hB.block _ MdQ).trans jL.o;have hM:MarkAt wc (w.heap.size+1) false:=(hB.block _ MdQ).trans pM.o;have mw:(zbL fr dy ps s.graves).length=0->s.graves.any (zc6 fr dy)=false:=fun h=>by
    unfold zbL at h;rw[List.length_map,zfC]at h;rw[List.any_eq_false];intro g hg hq;have:g∈s.graves.filter (zc6 fr dy):=List.mem_filter.2 ⟨hg,hq⟩;rw[List.eq_nil_of_length_eq_zero h]at this;cases this
   obtain⟨lB,HO,aU,HD,HM⟩:=yH5 mw ac aY hD hM;clear mw ac aY hD hM;go_upto_if 58 with fail
   go_cut [11,12,14,15,16,18,19,20,21,58]from 59 (fun _ _ _ _ _ _ _ _ _ _ W=>∃gs,Hid (X=({s with graves:=gs,dead:=s.dead++[fr]},0))/\WldAt base W b {s with graves:=gs} la co/\Below base w W/\W.heap[w.heap.size]?=some (.cells #[.int .i64 kd,.int .i64 dy,.string pl,.string fr,.slice B ts.length c,.int .i64 cl,.int .i64 yr] 28)/\KeepD w W)
   case first=>
    by_cases hz:(zbL fr dy ps s.graves).length=0
    ·have ny:¬(0:Int)<((zbL fr dy ps s.graves).length:Int):=Mcq;have hX:=HX.o;rw[lB.o hz]at hX;have ax:=zHi hX;clear hz hX;go_wp2_with fail
     go_meet
     refine⟨s.graves,?_,HW.o.keep aU.o,aU.o.mono (by have:=HW.o.lt;omega),HD.o,KeepD.below aU.o⟩;show _=_;rw[ax.o];simp
    ·have ny:(0:Int)<((zbL fr dy ps s.graves).length:Int):=Mcq;have HZ:=zHi hz;have d1:wc.cell? ⟨w.heap.size,1,none⟩=some (.int .i64 dy):=by simp only[World.cell?,HD.o];rfl
     have d3:wc.cell? ⟨w.heap.size,3,none⟩=some (.string fr):=by simp only[World.cell?,HD.o];rfl
     have br:w.heap.size<wc.heap.size:=zab HD.o;have aW:=aU.o.size;have tQ:=zHi (show∃EF,EF=zck s (zbc laws dy) fr from⟨_,rfl⟩);obtain⟨EF,pV⟩:=tQ.o;rw[<-pV]at qW HX;have fY:EF.1.length<=3000:=by
      have h1:=qW.o.good;have h2:=ziF (s:=s) (law:=zbc laws dy) (n:=fr) (by rw[<-pV];exact h1);rw[<-pV]at h2;omega
     obtain⟨gw,HE⟩:=yH2 fY pV;clear hz pV tQ fY;go_upto_region 12 with fail
     clear ny;go_cut [11,58]from 59 (fun v11 _ W=>∃A n,v11=.slice A EF.1.length n/\OwnS W (w.heap.size+1+1) 59 3 zaa v11 EF.1/\MarkAt W (w.heap.size+1) EF.2/\wc.grownBy W (some (w.heap.size+1)))
     case first=>
      refine wp_region_held_drew (S:=(fun w'=>w'.cell? ⟨w.heap.size,1,none⟩=some (.int .i64 dy)/\w'.cell? ⟨w.heap.size,3,none⟩=some (.string fr))) Mcs ?hS ?hrest
      case hS=>exact⟨d1,d3⟩
      case hrest=>
       intro hHeld;refine TkH 0 ?_;refine TkH 1 ?_;refine TkH 2 ?_;refine TkH 3 ?_;refine TkH 4 ?_;refine TkH 5 ?_;refine TkH 7 ?_;refine TkH 8 ?_;refine OnH 6 fun K hK=>?_
       go_simp
       refine(zoo laws LA lc dy _ fM (dB.o.keep (aU.o.trans ((zaF Qb).mono aW)))).mono ?_;rintro e w5 ⟨rfl,z,rfl⟩;refine NxM hK (fun hHeld=>?_) (⟨(za4 _ _ _ _ br).trans d1,(za4 _ _ _ _ br).trans d3⟩);clear hK K;refine OnH 9 fun K hK=>?_
       go_simp
       refine(zoJ base b (w.heap.size+1) s last (zbc laws dy) fr _ ?q1 dl.o ?q2 dO kF bY fh).mono ?_
       case q1=>exact fun W hW=>HW.o.peo.keep (zbp (aU.o.trans ((zaZ (zaF Qb) z).mono aW)) hW Mcq)
       case q2=>exact HM.o.drew.ext z
       rintro e w6 ⟨v,rfl,n1,n2,n3⟩;rw[<-HE.o]at n1 n2;have n3':wc.grownBy w6 (some (w.heap.size+1)):=⟨n3.os,n3.tape,n3.output,Nat.le_trans Mdi n3.size,fun k hk ag=>(n3.block k McA ag).trans (zcL _ _ _ hk)⟩
       obtain⟨N1,N2,N3⟩:=yH3 n1 n2 n3';clear n1 n2 n3 n3';refine NxM hK (fun hHeld=>?_) (⟨(zbd N3.o br Mcq).trans d1,(zbd N3.o br Mcq).trans d3⟩);clear hK K;refine OnH 10 fun K hK=>?_
       go_simp
       refine NxM hK (fun hHeld=>?_) (⟨(zbd N3.o br Mcq).trans d1,(zbd N3.o br Mcq).trans d3⟩);clear hK K;refine wpAnyH_done Mcs ?_ _;go_wp2_with fail
       go_meet
       obtain⟨A9,n9,rfl,_,_⟩:=N1.o.sl zai;exact⟨A9,n9,rfl,OwnS.base_le N1.o (by have:=S2.o;have:=hB.size;simp[zae];omega),N2.o,N3.o⟩
     case rest=>
      obtain⟨EA,en,rfl,n1,n2,n3⟩:=hcut;have oI:Qa w wc:=zbp aU.o n3 Mcq Meb;have FT:wc.heap[w.heap.size]?=some (.cells #[.int .i64 kd,.int .i64 dy,.string pl,.string fr,.slice B ts.length c,.int .i64 cl,.int .i64 yr] 28):=(n3.block _ br Mcv).trans HD.o
      have Gp:OwnS wc (w.heap.size+1+1) 88 1 ptrC (.slice HA (zbL fr dy ps s.graves).length hn) (zbL fr dy ps s.graves):=(OwnS.base_le HO.o MdQ).grown n3 (by
       cases hb:za6 (.slice HA (zbL fr dy ps s.graves).length hn)with
       |none=>exact .inl rfl
       |some g=>exact .inr fun e=>by have:=(HO.o.ge g hb).1;have:=S2.o;simp at e;omega)
      obtain⟨kX,vf,ou,zw,vk⟩:=yH5 Gp n1 n2 FT oI;have ke:=n3.size;have hHL:(zbL fr dy ps s.graves).length<=1000:=by
       unfold zbL;rw[List.length_map,zfC];exact Nat.le_trans (List.length_filter_le _ _) li
      have f9:(zbL fr dy ps s.graves).length=(s.graves.filter (zc6 fr dy)).length:=by
       unfold zbL;rw[List.length_map,zfC]
      obtain⟨oh,rk⟩:=yH2 f9 (fun(W:World) (hB:Qa w W) j hj=>held_tomb (n:=fr) (day:=dy) (HT.o.keep hB) (j:=j) hj);have G9:∀g∈s.graves.filter (zc6 fr dy),GoodG g/\g.holders.length<=70000/\g.died.length<=1000:=fun g hg=>⟨dl.o.graves g (List.mem_filter.1 hg).1,om.o g (List.mem_filter.1 hg).1⟩
      have rh:=zHi G9;clear n1 n2 n3 Gp FT oI d1 d3 br f9 G9;generalize hHs:zbL fr dy ps s.graves=HL at*;generalize sR:s.graves.filter (zc6 fr dy)=aD at*;obtain⟨ig,jc⟩:=yH2 hHs sR;clear hHs sR;go_upto_block 2 with fail
      go_cut [12,14,15,16,18,19,71]from 72 (fun v12 _ _ _ _ _ _ W=>∃A n es,v12=.slice A HL.length n/\OwnS W (w.heap.size+1+1) 90 6 tmC v12 es/\es.map (·.1)=(zcY fr EF.1 aD EF.2).1/\(∀e∈es,TmOk W w.heap.size e)/\MarkAt W (w.heap.size+1) (zcY fr EF.1 aD EF.2).2/\Qa w W/\W.heap[w.heap.size]?=some (.cells #[.int .i64 kd,.int .i64 dy,.string pl,.string fr,.slice B ts.length c,.int .i64 cl,.int .i64 yr] 28)/\OwnS W (w.heap.size+1+1) 88 1 ptrC (.slice HA HL.length hn) HL)
      case first=>
       go_wp2_with fail
       go_loopw [12,71] (fun v i wr=>∃(j:Nat) (es:List Tm),j<=HL.length/\i=.int .i64 j/\OwnS wr (w.heap.size+1+1) 90 6 tmC v es/\Hid (es.map (·.1)=(zcY fr EF.1 (aD.take j) EF.2).1)/\Hid (∀e∈es,TmOk wr w.heap.size e)/\MarkAt wr (w.heap.size+1) (zcY fr EF.1 (aD.take j) EF.2).2/\Qa w wr/\wr.heap[w.heap.size]?=some (.cells #[.int .i64 kd,.int .i64 dy,.string pl,.string fr,.slice B ts.length c,.int .i64 cl,.int .i64 yr] 28)/\OwnS wr (w.heap.size+1+1) 88 1 ptrC (.slice HA HL.length hn) HL/\OwnS wr (w.heap.size+1+1) 59 3 zaa (.slice EA EF.1.length en) EF.1/\w.heap.size+1+1<=wr.heap.size) (fun _ i _=>HL.length-(intOf i).toNat)
       case atStart=>exact⟨0,[],Nat.zero_le _,rfl,OwnS.nil,rfl,fun e he=>by(cases he),ou.o,vk.o,zw.o,kX.o,vf.o,by have:=S2.o;have:=hB.size;omega⟩
       case round=>
        obtain⟨j,es,hj,rfl,ac,gW,cY,hm,hF,hD,hO,hE,hsz⟩:=hrel;obtain⟨NA,nc,rfl,_,Er⟩:=ac.sl zoa;have f9:=oh.o;have sK:es.length=j:=by
         have h1:=congrArg List.length gW.o;rw[List.length_map,zk0,List.length_take]at h1;omega
        obtain⟨HN,HM,HF,gu,dV,vh⟩:=yH6 ac hm hF hD hO hE;obtain⟨-,-,-,e3⟩:=cF4 hD;have br:=zab hD;by_cases aa:j<HL.length
        ·obtain⟨i,g,hi,ib,aK,E7,jS⟩:=rk.o wr hF j aa;obtain⟨bl,hgh,bL⟩:=rh.o g (List.mem_of_getElem? E7)
         obtain⟨cI,du,CY,sG,wA⟩:=(show Sl wr 1 ptrC HA HL from by
          obtain⟨A',c',e',h',_⟩:=hO.sl zcK;simp only[Value.slice.injEq]at e'
          rw[e'.1];exact h').at aa
         subst CY;have i0:wr.cell? ⟨cI,du+j,none⟩=some (.pointer (some ⟨HL[j],0,none⟩)):=by have:=wA 0 _ rfl;simpa using this
         have bN:=next_snoc fr EF.1 aD EF.2 (k:=j) Mcq;have xv:aD[j]' Mcq=g:=by
          have:=List.getElem?_eq_getElem (l:=aD) (i:=j) Mcq;rw[E7]at this;exact(Option.some.inj this).symm
         rw[xv]at bN;have dI:=zHi bN;generalize HL[j]=T at*;obtain⟨H,aI,D,dc,frm,t1,t2,t3,t4,t5,t6,t7⟩:=jS;have cZ:=zab t1;unfold zb1 at t1;obtain⟨m0,m1,m2,m3,m4,m5⟩:=cF6 t1;obtain⟨dJ,kZ,bZ⟩:=yH3 t1 t6 (fun W (hW:Qa wr W)=>zeB g.holders H g.holders.length aI W rfl Mcq (Ro.sl zai (t5.keep hW)));have KI:T≠wr.heap.size:=Mcq;have kN:w.heap.size≠wr.heap.size:=Mcq;have ar:(j:Int)<(HL.length:Int):=Mcq;have aR:(0:Int)<=(j:Int):=Mcq;have Ke:(HL.length:Int)<=(hn:Int):=by
          obtain⟨A',c',e',_,h'⟩:=hO.sl zcK;exact Mba
         generalize zcY fr EF.1 (aD.take j) EF.2=nx at*;obtain⟨lL,gx⟩:=yH2 f9 sK;clear f9 sK ac hm hF hD hO hE wA bN xv E7 aK ib hi t1 t5 t6 t7 t2 t3 t4;go_upto_region 18 with fail
         have zX:Qa wr (wr.alloc (.cells #[.string g.place,.int .i64 g.cls,.int .i64 frm,.int .i64 g.fin,.slice H g.holders.length aI,.slice D g.died.length dc] 90)):=Bw;have As:(wr.alloc (.cells #[.string g.place,.int .i64 g.cls,.int .i64 frm,.int .i64 g.fin,.slice H g.holders.length aI,.slice D g.died.length dc] 90)).heap[wr.heap.size]?=some (.cells #[.string g.place,.int .i64 g.cls,.int .i64 frm,.int .i64 g.fin,.slice H g.holders.length aI,.slice D g.died.length dc] 90):=zat _ _ _ rfl;have Gv:(wr.alloc (.cells #[.string g.place,.int .i64 g.cls,.int .i64 frm,.int .i64 g.fin,.slice H g.holders.length aI,.slice D g.died.length dc] 90)).heap.size=wr.heap.size+1:=Mcv;generalize wr.alloc (.cells #[.string g.place,.int .i64 g.cls,.int .i64 frm,.int .i64 g.fin,.slice H g.holders.length aI,.slice D g.died.length dc] 90)=WA at*;have y4:=(zah (o:=4) zX cZ).trans m4;obtain⟨Cy,qL,km⟩:=yH3 As zX Gv;have bj:=bZ.o WA zX;have oe:=zHi bj;clear As zX Gv bj bZ;have EK:Qa wr WA:=qL.o;go_cut [83]from 78 to 124 (fun _ W=>∃A1 c1,zb1 W wr.heap.size g.place g.cls frm g.fin (.slice A1 g.holders.length c1) (.slice D g.died.length dc)/\OwnS W wr.heap.size 59 3 zaa (.slice A1 g.holders.length c1) g.holders/\Qa wr W)
         case first=>
          clear rk rh cY gW HM lL gx dI HN vh dV gu HF kZ dJ kX vf ou zw vk ig jc HO aU HD lB aC jL pM S2 lQ qW dB om dl HW HT HP HC nF
          go_wp2_with (go_at_call 56
                       go_must(refine oe.o.mono ?_)
                       rintro e wq ⟨hv,rfl,o1,o2⟩;obtain⟨A1,c1,tF,_,_⟩:=o1.sl zai;subst tF;have x1:=(o2.block wr.heap.size (by have:=km.o;omega)).trans Cy.o;have x3:=zab x1;have x4:wq.frozen? ⟨wr.heap.size,4,none⟩=false:=(by simp only[World.frozen?,x1];rfl)
                       have x5:wq.cell? ⟨wr.heap.size,4,none⟩=some (.slice H g.holders.length aI):=(by simp only[World.cell?,x1];rfl)
                       obtain⟨X1,O1,O2⟩:=yH3 x1 o1 o2
                       clear x1 o1 o2)
          go_meet
          refine⟨A1,c1,zg7 (show zb1 wq wr.heap.size g.place g.cls frm g.fin (.slice H g.holders.length aI) (.slice D g.died.length dc) from X1.o) _,?_,zaN (qL.o.trans (O2.o.mono (by have:=km.o;omega))) Mcv _⟩;refine OwnS.base_le (OwnS.grown O1.o (za2 _ _ _ _) (.inr fun e=>?_)) (by have:=km.o;omega);have:=(O1.o.ge _ e).1;have:=km.o;omega
         case rest=>
          obtain⟨A1,c1,cq,ez,eE⟩:=hcut;have EM:=eE.size;have bX:=zab cq;have d3:wc.cell? ⟨w.heap.size,3,none⟩=some (.string fr):=(zah eE br).trans e3;have q5:wc.cell? ⟨T,5,none⟩=some (.slice D g.died.length dc):=(zah eE cZ).trans m5;have iI:=zHi (fun W (hW:Qa wc W)=>zlp g.died D g.died.length dc W rfl Mcq (Ro.sl zaH ((kZ.o.keep eE).keep hW)));obtain⟨ft,kl,au⟩:=yH3 cq ez eE;clear cq ez eE;go_upto_region 19 with fail
          go_cut [93]from 84 to 124 (fun _ W=>∃A2 c2,zb1 W wr.heap.size g.place g.cls frm g.fin (.slice A1 g.holders.length c1) (.slice A2 (g.died.length+[fr].length) c2)/\OwnS W wr.heap.size 9 1 sC (.slice A2 (g.died.length+[fr].length) c2) (g.died++[fr])/\OwnS W wr.heap.size 59 3 zaa (.slice A1 g.holders.length c1) g.holders/\Qa wr W)
          case first=>
           clear rk rh cY gW HM lL gx dI HN vh dV gu HF kZ dJ kX vf ou zw vk ig jc HO aU HD lB aC jL pM S2 lQ qW dB om dl HW HT HP HC nF oe Cy qL km;refine wp_region_held_drew (S:=(fun w'=>w'.cell? ⟨w.heap.size,3,none⟩=some (.string fr)/\w'.cell? ⟨T,5,none⟩=some (.slice D g.died.length dc))) Mcs ?hS ?hrest
           case hS=>exact⟨d3,q5⟩
           case hrest=>
            intro hHeld;refine TkH 0 ?_;refine TkH 1 ?_;refine TkH 2 ?_;refine TkH 3 ?_;refine TkH 5 ?_;refine TkH 6 ?_;refine wpAnyH_ready (rs:=[4,7]) Mcs Mcv (AllReadyH.cons (List.getElem?_toArray.trans rfl) (fun K hK=>?_) (AllReadyH.cons (List.getElem?_toArray.trans rfl) (fun K hK=>?_) AllReadyH.nil))
            ·go_simp
             refine(iI.o _ Bw).mono ?_;rintro e w5 ⟨hv,rfl,o1,o2⟩;obtain⟨A5,c5,tF,_,_⟩:=o1.sl zaH;subst tF;have z0:=o2.size;have z1:w.heap.size<w5.heap.size:=by simp at z0;omega
             have z2:T<w5.heap.size:=by simp at z0;omega
             have z3:w5.cell? ⟨w.heap.size,3,none⟩=some (.string fr):=(zah o2 Mcw).trans d3;have z5:w5.cell? ⟨T,5,none⟩=some (.slice D g.died.length dc):=(zah o2 Mcw).trans q5;refine NxM hK (fun hHeld=>?_) (⟨z3,z5⟩);clear hK K;refine OnH 7 fun K hK=>?_
             go_simp
             refine NxM hK (fun hHeld=>?_) (⟨(zah (zad Qb _) z1).trans z3,(zah (zad Qb _) z2).trans z5⟩);clear hK K;refine OnH 8 fun K hK=>?_
             have oK:Below wc.drew.heap.size wc.drew (w5.alloc (.cells #[.string fr] 9)):=(zad o2 _)
             refine zak (v:=.slice A5 g.died.length c5) (n:=g.died.length) (m:=1) rfl _ _ rfl zbJ zaH zbI rfl (xs:=g.died) (ys:=[fr]) (o1.keep (n:=w5.heap.size) Bw) rfl rfl rfl (zdX (zat w5 _ _ Mcv)) McK Mcq (by have:=z0;simp at this⊢;omega) ?_;exact Mt
            ·go_simp
             have wg:Qa wc (wc.drew.alloc (.cells #[.string fr] 9)):=zad (zaF Qb) _;refine NxM hK (fun hHeld=>?_) (⟨(zah wg Mcq).trans d3,(zah wg Mcq).trans q5⟩);clear hK K;refine OnH 4 fun K hK=>?_
             go_simp
             have D3:=d3;have Q5:=q5;have d3:=(zah wg Mcq).trans D3;have q5:=(zah wg Mcq).trans Q5;refine(iI.o _ Bw).mono ?_;rintro e w5 ⟨hv,rfl,o1,o2⟩;obtain⟨A5,c5,tF,_,_⟩:=o1.sl zaH;subst tF;have z0:=o2.size;have z1:w.heap.size<w5.heap.size:=by simp at z0;omega
             have z2:T<w5.heap.size:=by simp at z0;omega
             have z3:w5.cell? ⟨w.heap.size,3,none⟩=some (.string fr):=(zah o2 Mcw).trans d3;have z5:w5.cell? ⟨T,5,none⟩=some (.slice D g.died.length dc):=(zah o2 Mcw).trans q5;have d3:=D3;have q5:=Q5;have wh:=wg.trans (o2.mono Mcv);have Kq:=(o2.block wc.heap.size Mcv).trans (zat wc.drew _ _ rfl);refine NxM hK (fun hHeld=>?_) (⟨z3,z5⟩);clear hK K;refine OnH 8 fun K hK=>?_
             have oK:Below wc.drew.heap.size wc.drew (w5):=⟨wh.os,wh.tape,wh.output,wh.size,wh.block⟩
             refine zak (v:=.slice A5 g.died.length c5) (n:=g.died.length) (m:=1) rfl _ _ rfl zbJ zaH zbI rfl (xs:=g.died) (ys:=[fr]) (o1.keep (n:=w5.heap.size) Bw) rfl rfl rfl (zdX Kq) McK Mcq (by have:=z0;simp at this⊢;omega) ?_;exact Mt
          case rest=>
           obtain⟨A2,c2,cq,iX,ez,eE⟩:=hcut;obtain⟨W3,rfl⟩:∃x,x=wc:=⟨_,rfl⟩
           obtain⟨WR,rfl⟩:∃x,x=wr:=⟨_,rfl⟩
           have EM:=eE.size;have bX:=zab cq;have d3:W3.cell? ⟨w.heap.size,3,none⟩=some (.string fr):=(zah eE br).trans e3;have qH:W3.cell? ⟨WR.heap.size,4,none⟩=some (.slice A1 g.holders.length c1):=Mc8;obtain⟨j9,iE,lm,dp⟩:=death_bd (n:=fr) (hs:=EF.1) bl qW.o;have nX:∀W,Qa W3 W->_:=fun W hB=>zev g.holders A1 c1 WR.heap.size fr W ((zah hB bX).trans qH) (Nat.lt_of_lt_of_le bX hB.size) Mcq bl.good.asc (Ro.sl zai (ez.ro'.keep hB))
           have bP:∀W,zb1 W WR.heap.size g.place g.cls frm g.fin (.slice A1 g.holders.length c1) (.slice A2 (g.died.length+[fr].length) c2)->OwnS W WR.heap.size 59 3 zaa (.slice A1 g.holders.length c1) g.holders->Calls Tryz.prog 88 #[.pointer (some ⟨WR.heap.size,0,none⟩),.string fr,.agg #[.int .i64 0,.int .i64 1]] W (zkm W WR.heap.size WR.heap.size g.place g.cls frm g.fin (.slice A2 (g.died.length+[fr].length) c2) (.slice A1 g.holders.length c1) (setP g.holders fr 0)):=fun W h1 h2=>ziw WR.heap.size WR.heap.size g.holders _ g.place g.cls frm g.fin _ fr 0 W h1 Qc h2 bl.good.asc Mcq
           obtain⟨own,ac⟩:=Qd (zag g.holders fr)
           rw[<-ac]at nX j9 iE lm dp;obtain⟨eO,gy,dh,eo,ft,kl,dj,au⟩:=yH8 nX bP dp ac cq ez iX eE;clear nX bP dp ac cq ez iX eE qH;unfold zaD at eO
           go_upto_region 22 with(first
            |(go_at_call 89
              go_must(refine(eO.o _ Bw).mono ?_)
              rintro e wq ⟨rfl,z,hz⟩;have cN:Qa W3 wq:=(by rw[hz];exact Bw)
              have d3q:=(zah cN (show w.heap.size<W3.heap.size by omega)).trans d3;have dlq:=cN.size;have bY:w.heap.size<wq.heap.size:=Mcq;have nG:=zHi cN
              clear hz cN)
            |(go_at_call 88
              go_must(refine(gy.o _ ?q1 ?q2).mono ?_)
              case q1=>exact zal ((nG.o.block _ bX).trans ft.o)
              case q2=>exact kl.o.keep (n:=W3.heap.size) (zad nG.o _)
              rintro e wz ⟨rfl,v',t1,t2,t3,t4⟩;obtain⟨T1,T2,T3,T4⟩:=yH4 t1 t2 t3 t4
              clear t1 t2 t3 t4))
           have eR:Qa WR wz:=(au.o.trans ((zad nG.o _).mono Mcq)).trans T3.o;have qJ:=eR.size;have wW:(wq.alloc (zbw own)).heap[WR.heap.size]?=some (.cells #[.string g.place,.int .i64 g.cls,.int .i64 frm,.int .i64 g.fin,.slice A1 g.holders.length c1,.slice A2 (g.died.length+[fr].length) c2] 90):=zal ((nG.o.block _ bX).trans ft.o);have wM:=kl.o.keep (n:=W3.heap.size) (zad nG.o (zbw own));have wt:=dj.o.keep (n:=W3.heap.size) (zad nG.o (zbw own));have bm:∀(j:Nat) (cur:Array Value) (t:TypeId) (f:Nat×Nat),(wq.alloc (zbw own)).heap[j]?=some (.cells cur t f)->t≠90->t≠59->wz.heap[j]?=(wq.alloc (zbw own)).heap[j]?:=fun j cur t f hj n1 n2=>
            T4.o j (zab hj) (fun e=>by rw[e,wW]at hj;simp only[Option.some.injEq,Obj.cells.injEq]at hj;exact n1 hj.2.1.symm) (zkA wM hj n2)
           have FV:OwnS wz WR.heap.size 9 1 sC (.slice A2 (g.died.length+[fr].length) c2) (g.died++[fr]):=wt.same (fun j cur _ hj=>bm j cur _ _ hj Mcu Mcu);have Af:wz.heap[wq.heap.size]?=some (zbw own):=(bm _ _ _ _ (zat wq (zbw own) _ rfl) Mcu Mcu).trans (zat wq (zbw own) _ rfl);have Gl:MarkAt wz (w.heap.size+1) nx.2:=HM.o.keep eR (zab HM.o);have sS:WR.grownBy wz (some (w.heap.size+1)):=⟨eR.os,eR.tape,eR.output,eR.size,fun k hk _=>eR.block k hk⟩
           have xR:=zis (n:=fr) (q:=0) (l:=g.holders);have Kt:WR.heap.size<wq.heap.size:=by have:=nG.o.size;omega
           have kF:=zab HM.o;obtain⟨O,hO⟩:=Qd wq.heap.size
           rw[<-hO]at Af Kt⊢;have hOz:=zab Af;obtain⟨dH,uY,vl,C3,vr,pL⟩:=yH6 eR FV Af Gl sS xR;clear eR FV Af Gl sS bm wW wM wt xR d3q dlq hO d3 nG T3 T4 eO gy bY;go_upto_block 4 with fail
           go_cut [18,19,103]from 104 to 124 (fun _ _ _ W=>∃v out fl,Hid ((out,fl)=zd2 fr EF.1 g nx.2)/\MarkAt W (w.heap.size+1) fl/\zb1 W WR.heap.size g.place g.cls frm g.fin v (.slice A2 (g.died.length+[fr].length) c2)/\OwnS W WR.heap.size 59 3 zaa v out/\OwnS W WR.heap.size 9 1 sC (.slice A2 (g.died.length+[fr].length) c2) (g.died++[fr])/\WR.grownBy W (some (w.heap.size+1)))
           case first=>
            clear nF HC HP HT HW dl om dB c0 c6 aC pM S2 bk aU aW HE vf ou vk ke lB HZ rh oh ig jc HO kX ar aR Ke gW lL gx y4 oe d3 q5 cY HN HF e3 i0 m0 m1 m2 m3 m4 m5 kZ KI kN qL km EK dj au dV wS;go_wp2_with fail
            go_loopw [103] (fun i W=>∃(k:Nat) (v:Value) (out:Parts) (fl:Bool),k<=EF.1.length/\i=.int .i64 k/\Hid ((out,fl)=zej own (EF.1.take k) (setP g.holders fr 0,nx.2))/\Hid (out.length<=g.holders.length+1+k)/\MarkAt W (w.heap.size+1) fl/\zb1 W WR.heap.size g.place g.cls frm g.fin v (.slice A2 (g.died.length+[fr].length) c2)/\OwnS W WR.heap.size 59 3 zaa v out/\OwnS W WR.heap.size 9 1 sC (.slice A2 (g.died.length+[fr].length) c2) (g.died++[fr])/\WR.grownBy W (some (w.heap.size+1))/\W.heap[O]?=some (zbw own)) (fun i _=>EF.1.length-(intOf i).toNat)
            case atStart=>exact⟨0,v',setP g.holders fr 0,nx.2,Nat.zero_le _,rfl,rfl,pL.o,C3.o,T1.o,T2.o,uY.o,vr.o,vl.o⟩
            case round=>
             obtain⟨k,v,out,fl,hk,rfl,rO,cv,hm,cq,ez,iX,dr,kB⟩:=hrel;clear pL C3 T1 T2 uY vr vl dH;obtain⟨A3,c3,rfl,rZ,mC⟩:=ez.sl zai;have dp:Bd out 1:=by have:=dh.o nx.2 k;rw[<-rO.o]at this;exact this
             have Ad:=vh.o.grown dr (.inr fun e=>by have:=(vh.o.ge _ e).1;omega);have zj:=zab cq;have wK:=zab kB;have LT:=zab hm;have qH:wr.cell? ⟨WR.heap.size,4,none⟩=some (.slice A3 out.length c3):=Mc8;obtain⟨HD,Fn,rH,ij,qT,eC,tR,Jm⟩:=yH8 dp hm cq ez iX dr kB rZ;have HE3:=zHi Ad;clear dp hm cq ez iX kB rZ dr;by_cases mS:k<EF.1.length
             ·obtain⟨b',off,rfl,cI,hc⟩:=(Ad.sl' zai).at mS;obtain⟨kH,gT,cT⟩:=zdO qW.o (List.getElem_mem mS);have aD:=zoK own EF.1 (setP g.holders fr 0,nx.2) mS;rw[<-rO.o]at aD;have uq:EF.1.length<=en:=by
               obtain⟨A',c',e',_,h'⟩:=Ad.sl zai;exact Mba
              generalize EF.1[k]=p at*;obtain⟨pn,q⟩:=p;simp only at kH gT cT;have i0:wr.cell? ⟨b',off+k*3,none⟩=some (.string pn):=hc 0 _ rfl;have i1:wr.cell? ⟨b',off+k*3+1,none⟩=some (.int .i64 q.num):=hc 1 _ rfl;have i2:wr.cell? ⟨b',off+k*3+2,none⟩=some (.int .i64 q.den):=hc 2 _ rfl;have o0:wr.cell? ⟨O,0,none⟩=some (.int .i64 own.num):=by simp only[World.cell?,tR.o,zbw];rfl
              have o1:wr.cell? ⟨O,1,none⟩=some (.int .i64 own.den):=by simp only[World.cell?,tR.o,zbw];rfl
              have xx:zaL (zbi (own*q)):=zbZ (zcx (Rat.mul_nonneg j9 (Rat.le_of_lt kH))) (Rat.le_trans (zhi (Rat.mul_nonneg j9 (Rat.le_of_lt kH))) (zjE j9 lm (Rat.le_of_lt kH) gT)) (zg0 _);obtain⟨dl,BJ,rp⟩:=yH3 aD xx mS;have jI:wrap64 ((k:Int)+1)=(k:Int)+1:=by
               have:=gw.o;unfold wrap64;omega
              have Cv:=zHi jI;clear jI;have ye:∀W,MarkAt W (w.heap.size+1) fl->Calls Tryz.prog 91 #[.pointer (some ⟨w.heap.size+1,0,none⟩),.agg #[.int .i64 own.num,.int .i64 own.den],.agg #[.int .i64 q.num,.int .i64 q.den]] W (zeC W (w.heap.size+1) fl (own*q)):=fun W h=>zhO (w.heap.size+1) fl W h own q iE cT
              have C2:=zHi ye;have LL:(k:Int)<(EF.1.length:Int):=Mcq;have LG:(0:Int)<=(k:Int):=Mcq;have LJ:(k:Int)<=(en:Int):=Mcq;have hOn:O≠wr.heap.size:=Mcq;have pf:out.length<=90000:=by have:=cv.o;have:=gw.o;omega
              have uA:w.heap.size+1≠wr.heap.size:=Mcq;clear hc aD xx kH gT ye uq Ad
              go_wp2_with (go_at_call 91
                           go_must(refine(C2.o _ (Fn.o.alloc _)).mono ?_)
                           rintro e wq ⟨rfl,m1,m2⟩;have jJ:=m2.size;have y0:wq.heap[wr.heap.size]?=some (.cells #[.string pn,.int .i64 q.num,.int .i64 q.den] 59):=(m2.block _ Mcv Mcw).trans (zat _ _ _ rfl);have y1:wq.cell? ⟨wr.heap.size,0,none⟩=some (.string pn):=(by simp only[World.cell?,y0];rfl)
                           have y3:wr.heap.size<wq.heap.size:=zab y0;obtain⟨M1,M2⟩:=yH2 m1 m2;clear m1 m2 y0
                           simp only[zaD])
              have wI:OwnS wq WR.heap.size 59 3 zaa (.slice A3 out.length c3) out:=OwnS.grown (W:=wr.alloc _) (ij.o.keep (n:=wr.heap.size) (zad Qb _)) M2.o (.inr fun e=>by have:=(ij.o.ge _ e).1;omega);have mj:zb1 wq WR.heap.size g.place g.cls frm g.fin (.slice A3 out.length c3) (.slice A2 (g.died.length+[fr].length) c2):=(M2.o.block _ Mcw Mcw).trans (zal rH.o);have o8:wq.cell? ⟨WR.heap.size,4,none⟩=some (.slice A3 out.length c3):=by unfold zb1 at mj;simp only[World.cell?,mj];rfl
              have bv:WR.heap.size<wq.heap.size:=zab mj;obtain⟨OQ,TQ⟩:=yH2 wI mj;have ni:zaL (zag out pn):=HD.o.share Rat.le_refl pn;generalize dD:zbi (own*q)=gt at*;generalize hsv2:zag out pn=sv at*;obtain⟨vp,ko,eN⟩:=yH3 dD hsv2 ni;have Nz:wr.heap.size≠wq.heap.size:=Mcq;have Ir:WR.heap.size≠wq.heap.size:=Mcq;clear wI mj ni dD hsv2 i0 i1 i2 o0 o1;go_region_held3 (fun w'=>w'.cell? ⟨wr.heap.size,0,none⟩=some (.string pn)/\w'.cell? ⟨wq.heap.size,0,none⟩=some (.int .i64 gt.num)/\w'.cell? ⟨wq.heap.size,1,none⟩=some (.int .i64 gt.den))
               ((refine⟨?_,?_,?_⟩<;>first|assumption|(simp[go_sem,y1,y3];done)))
               (first
                 |(go_at_call 89
                   go_loud(refine(zev out A3 c3 WR.heap.size pn _ ?q1 ?q2 Mcq HD.o.good.asc (Sl.keep (OQ.o.sl' zai) (n:=wq.heap.size) Bw)).mono ?_)
                   case q1=>simp[go_sem,o8,bv]
                   case q2=>simp;omega
                   rintro e w5 ⟨rfl,zs,rfl⟩;rw[ko.o]
                   simp only[zaD])
                 |(go_at_call 92
                   go_loud(refine(zhP (w.heap.size+1) (fl||bigQ (own*q)) _ ?q3 sv gt eN.o BJ.o).mono ?_)
                   case q3=>(repeat(first|exact M1.o|refine MarkAt.ext ?_ _|refine MarkAt.drew ?_|refine MarkAt.alloc ?_ _))
                   rintro e w6 ⟨rfl,n1,n2⟩;have p3:w6.cell? ⟨wr.heap.size,0,none⟩=some (.string pn):=MdA;have p0:w6.cell? ⟨wq.heap.size,0,none⟩=some (.int .i64 gt.num):=McY;have p1:w6.cell? ⟨wq.heap.size,1,none⟩=some (.int .i64 gt.den):=McY;obtain⟨N1,N2⟩:=yH2 n1 n2;clear n1 n2
                   simp only[zaD])
                 |(go_at_call 88
                   go_loud(refine(ziw WR.heap.size WR.heap.size out (.slice A3 out.length c3) g.place g.cls frm g.fin (.slice A2 (g.died.length+[fr].length) c2) pn (zbi (sv+gt)) _ ?q4 Qc ?q5 HD.o.good.asc pf).mono ?_)
                   case q4=>exact(N2.o.block _ McA Mcw).trans Mdu
                   case q5=>exact OwnS.grown (OQ.o.keep (n:=wq.heap.size) Bw) N2.o (.inr fun e=>by have:=(OQ.o.ge _ e).1;omega)
                   rintro e wz ⟨rfl,v',t1,t2,t3,t4⟩;have s3:wz.cell? ⟨wr.heap.size,0,none⟩=some (.string pn):=(World.cell?_of_block (w:=w6) (t4 wr.heap.size McW Mcq (fun e=>by have:=(ij.o.ge _ e).2;omega))).trans p3;have s0:wz.cell? ⟨wq.heap.size,0,none⟩=some (.int .i64 gt.num):=(World.cell?_of_block (w:=w6) (t4 wq.heap.size McW Mcq (fun e=>by have:=(ij.o.ge _ e).2;omega))).trans p0;have s1:wz.cell? ⟨wq.heap.size,1,none⟩=some (.int .i64 gt.den):=(World.cell?_of_block (w:=w6) (t4 wq.heap.size McW Mcq (fun e=>by have:=(ij.o.ge _ e).2;omega))).trans p1;obtain⟨T1,T2,T3,T4⟩:=yH4 t1 t2 t3 t4
                   clear t1 t2 t3 t4))
              have BE:Hid (zfe own (pn,q) (out,fl)=(setP out pn (zbi (sv+gt)),fl||bigQ (own*q)||bigQ (sv+gt))):=by
               show _=_;unfold zfe;simp only[vp.o,ko.o]
              have bD:MarkAt wz (w.heap.size+1) (fl||bigQ (own*q)||bigQ (sv+gt)):=N1.o.keep T3.o Mcq;have iA:=zis (n:=pn) (q:=zbi (sv+gt)) (l:=out);have h6:wr.grownBy w6 (some (w.heap.size+1)):=zbo (zjO (zad (Below.refl wr.heap.size wr) _) Qc M2.o) (zjO (n:=wq.heap.size) (W:=((wq.alloc (zbw gt)).drew).ext zs) Bw Qc N2.o);have nW:=h6.size;have Ii:w6.heap[WR.heap.size]?=some (.cells #[.string g.place,.int .i64 g.cls,.int .i64 frm,.int .i64 g.fin,.slice A3 out.length c3,.slice A2 (g.died.length+[fr].length) c2] 90):=(h6.block _ zj Mcw).trans rH.o;have qs:OwnS w6 WR.heap.size 59 3 zaa (.slice A3 out.length c3) out:=ij.o.grown h6 (.inr fun e=>by have:=(ij.o.ge _ e).1;omega);have GK:=qT.o.grown h6 (.inr fun e=>by have:=(qT.o.ge _ e).1;omega);have DW:w6.heap[O]?=some (zbw own):=(h6.block O wK Mcw).trans tR.o;have bm:∀(j:Nat) (cur:Array Value) (t:TypeId) (f:Nat×Nat),w6.heap[j]?=some (.cells cur t f)->t≠90->t≠59->wz.heap[j]?=w6.heap[j]?:=fun j cur t f hj n1 n2=>
               T4.o j (zab hj) (fun e=>by rw[e,Ii]at hj;simp only[Option.some.injEq,Obj.cells.injEq]at hj;exact n1 hj.2.1.symm) (zkA qs hj n2)
              have GT:=GK.same (W':=wz) (fun j cur _ hj=>bm j cur _ _ hj Mcu Mcu);have DZ:wz.heap[O]?=some (zbw own):=(bm _ _ _ _ DW Mcu Mcu).trans DW;have sS:WR.grownBy wz (some (w.heap.size+1)):=zoM (zbo eC.o h6) T3.o Qc;obtain⟨C5,fF,uY,vl,vr⟩:=yH5 bD iA GT DZ sS;clear bD iA h6 Ii qs GK DW bm GT DZ sS p3 p0 p1 s3 s0 s1 y1;go_wp2_with fail
              go_round
              case rel=>
               have fY:=gw.o;have mS:=rp.o;have qe:=BE.o.symm.trans dl.o.symm;have jZ:(setP out pn (zbi (sv+gt))).length<=g.holders.length+1+(k+1):=by have:=fF.o;have:=cv.o;omega
               exact⟨k+1,v',setP out pn (zbi (sv+gt)),_,rp.o,by rw[Cv.o];rfl,qe,jZ,C5.o,T1.o,T2.o,uY.o,vr.o,vl.o⟩
              case measure=>rw[Cv.o];have:=rp.o;simp only[intOf];omega
             ·have ar:¬(k:Int)<(EF.1.length:Int):=Mcq;have nZ:(out,fl)=zd2 fr EF.1 g nx.2:=by
               rw[rO.o,List.take_of_length_le Mcq];unfold zd2;rw[<-eo.o]
              have ua:=zHi nZ;clear nZ rO dh;go_wp2_with fail
              go_meet
              exact⟨_,out,fl,ua.o,Fn.o,rH.o,ij.o,qT.o,eC.o⟩
           case rest=>
            obtain⟨v9,out,fl,ua,hm,cq,ez,iX,dr⟩:=hcut;obtain⟨W4,rfl⟩:∃x,x=wc:=⟨_,rfl⟩
            obtain⟨A3,c3,rfl,_,mC⟩:=ez.sl zai;have kA:(g.died++[fr]).length<=c2:=by
             obtain⟨A',c',e',_,h'⟩:=iX.sl zaH;exact Mba
            have E0:=dr.size;have jF:=cq;unfold zb1 at jF;obtain⟨m0,m1,m2,m3,m4,m5⟩:=cF6 jF;obtain⟨E,hE⟩:∃E:Tm,E=(⟨g.place,g.cls,g.fin,out,g.died++[fr]⟩,frm,(A3,c3),(A2,c2)):=⟨_,rfl⟩
            have FX:(tmC E).toArray= #[.string g.place,.int .i64 g.cls,.int .i64 frm,.int .i64 g.fin,.slice A3 out.length c3,.slice A2 (g.died.length+[fr].length) c2]:=by rw[hE];simp[tmC]
            have Gm:=HN.o.grown dr (.inr fun e=>by have:=(HN.o.ge _ e).1;omega);have hen:es.length<=1000:=by have:=gx.o;omega
            obtain⟨C6,IS,F9,Fo,Ca,uW,Fd,IN⟩:=yH8 Gm FX hE hm ez iX dr kA;clear Gm FX hE hm cq ez iX dr jF dh pL uY vl C3 vr dH T1 T2 ft kl dj au d3 q5 oe Cy qL km kA;go_upto_region 28 with fail
            go_wp2_with (at_builtin
                         go_loud(refine zas (v:=.slice NA es.length nc) (n:=es.length) (m:=1) rfl _ _ rfl elTm zoa tm_one rfl (xs:=es) (ys:=[E]) (C6.o.keep (n:=W4.heap.size) Bw) rfl rfl rfl (sl_tm (by rw[IS.o];exact zat _ _ _ Mcv)) McK Mcq Mcw ?_)
                         intro v5 w5 h1 h2 h3;obtain⟨H1,H2⟩:=yH2 h1 h2
                         clear h1 h2 h3)
            have jI:wrap64 ((j:Int)+1)=(j:Int)+1:=by
             unfold wrap64;omega
            obtain⟨Cv,ak⟩:=yH2 jI aa;clear jI;go_wp2_with fail
            go_round
            case rel=>
             have EG:=H2.o.size;simp only[World.size_alloc]at EG;have Ks:=C6.o;have I2:=HM.o;unfold MarkAt at I2;have LH:∀(k:Nat) (cur:Array Value) (t:TypeId) (f:Nat×Nat),WR.heap[k]?=some (.cells cur t f)->t≠133->W4.heap[k]?=WR.heap[k]?:=fun k cur t f hk n1=>
              Fd.o.block k (zab hk) (fun e=>by
               simp only[Option.some.injEq]at e;rw[e,I2]at hk;simp only[Option.some.injEq,Obj.cells.injEq]at hk
               exact n1 hk.2.1.symm)
             have AJ:∀(k:Nat) (cur:Array Value) (t:TypeId) (f:Nat×Nat),W4.heap[k]?=some (.cells cur t f)->t≠90->w5.heap[k]?=W4.heap[k]?:=fun k cur t f hk n1=>by
              have hl:=zab hk;have a1:=H2.o.block k Mcw (fun e=>zkA Ks hk n1 e.symm);exact a1.trans (Below.heap_alloc _ _ _ hl)
             have iz:∀(k:Nat) (cur:Array Value) (t:TypeId) (f:Nat×Nat),WR.heap[k]?=some (.cells cur t f)->t≠133->t≠90->w5.heap[k]?=WR.heap[k]?:=fun k cur t f hk n1 n2=>by
              have a1:=LH k cur t f hk n1;exact(AJ k cur t f (a1.trans hk) n2).trans a1
             have DJ:Qa w w5:=Below.grown (a:=w) (B:=w.heap.size) (zad (zbp HF.o Fd.o Mcq) _ Mcq) H2.o Mcw (fun k hk=>by have:=(C6.o.ge k hk).1;omega);refine⟨j+1,es++[E],ak.o,by go_num,H1.o,?_,?_,?_,DJ,?_,?_,?_,by omega⟩
             ·show _=_;rw[dI.o,<-ua.o,List.map_append,gW.o,F9.o];rfl
             ·show∀e∈es++[E],TmOk w5 w.heap.size e;intro e he;rcases List.mem_append.1 he with he|he
              ·refine(cY.o e he).same fun k cur t f hk ht=>iz k cur t f hk ?_ ?_
               ·rcases ht with rfl|rfl<;>decide
               ·rcases ht with rfl|rfl<;>decide
              ·rw[List.mem_singleton.1 he,F9.o];refine⟨Ca.o.ro'.same fun k cur f hk _=>AJ k cur _ f hk Mcu,mC,uW.o.ro'.same fun k cur f hk _=>AJ k cur _ f hk Mcu,IN.o,fun a ha=>?_⟩;have ha:A2=some a:=ha;have:=(uW.o.ge a.block (by rw[ha];rfl)).1;omega
             ·rw[dI.o,<-ua.o];exact(AJ _ _ _ _ Fo.o Mcu).trans Fo.o
             ·exact(iz _ _ _ _ gu.o Mcu Mcu).trans gu.o
             ·exact dV.o.same fun k cur _ hk=>iz k cur _ _ hk Mcu Mcu
             ·exact vh.o.same fun k cur _ hk=>iz k cur _ _ hk Mcu Mcu
            case measure=>have:=ak.o;simp only[intOf];omega
        ·have ar:¬(j:Int)<(HL.length:Int):=Mcq;have bM:aD.take j=aD:=List.take_of_length_le Mcq;have sJ:es.length=HL.length:=Mcq;rw[bM]at gW HM;have IT:=zHi sJ;clear bM sJ sK ac hm hF hD hO hE f9;go_wp2_with fail
         go_meet
         exact⟨NA,nc,es,by rw[IT.o],HN.o,gW.o,cY.o,HM.o,HF.o,gu.o,dV.o⟩
      case rest=>
       obtain⟨NA,nn,es,rfl,jC,eZ,bs,hm,hF,hD,hO⟩:=hcut;obtain⟨W6,rfl⟩:∃x,x=wc:=⟨_,rfl⟩
       have yR:=zgf fr dy EF.1 s.graves [] EF.2;have bj:W6.cell? ⟨w.heap.size+1,0,none⟩=some (.bool (zcY fr EF.1 aD EF.2).2):=(zbR hm).1;have LU:=zab hm;have xr:es.length=HL.length:=by
        have h1:=congrArg List.length eZ;rw[List.length_map,zk0]at h1;have:=oh.o;omega
       have mw:s.graves.any (zc6 fr dy)=true:=by
        cases hc:s.graves.any (zc6 fr dy)
        ·have h1:=jc.o;rw[List.filter_eq_nil_iff.2 (fun x hx=>by have:=List.any_eq_false.1 hc x hx;simpa using this)]at h1;have:=oh.o;rw[<-h1]at this;exact absurd this HZ.o
        ·rfl
       rw[List.nil_append,List.nil_append,List.length_nil,jc.o]at yR;have hX:=HX.o;rw[mw,<-yR.1,<-yR.2,<-eZ]at hX;simp only[Bool.false_eq_true,if_false,if_true]at hX;have dW:=zHi hX;generalize(zcY fr EF.1 aD EF.2).2=fl at*;obtain⟨gW,gx,cY,qZ,IM,fG,Fq,vt⟩:=yH8 eZ xr bs hF hD hO jC (fun j hj=>rk.o w Qb j hj);have vn:Hid ((s.graves.filter (zc6 fr dy)).length=HL.length):=by show _=_;rw[jc.o,oh.o]
       clear yR mw hX eZ bs hm hF hD hO jC xr HX rk lB HM aU HO HD kX vf ou zw vk rh qW gw HE ig jc;cases fl
       ·have sn:=dW.o;simp only[Bool.false_eq_true,if_false]at sn;have iR:=zHi sn;clear sn dW;have nW:=qZ.o.size;have BB:∃HI,HI=zbf fr dy 0 s.graves:=⟨_,rfl⟩
        obtain⟨HI,CW⟩:=BB;rw[<-CW]at iR vt;have qg:HI.length=HL.length:=by
         rw[CW,zfC,vn.o]
        have iD:HL.length<=nn:=by
         obtain⟨A',c',e',_,h'⟩:=Fq.o.sl zoa;simp only[Value.slice.injEq]at e';have:=gx.o;omega
        have AE:HL.length<=hn:=by
         obtain⟨A',c',e',_,h'⟩:=fG.o.sl zcK;exact Mba
        obtain⟨zG,Ji,BL⟩:=yH3 qg iD AE;clear CW qg iD AE vn;go_wp2_with fail
        go_loopw [129] (fun i wr=>∃j:Nat,j<=HL.length/\i=.int .i64 j/\Hid (WldC wr b dd cc pp wl rr mv (.slice TA ps.length tc) la co)/\Hid (PplAt base wr Bk dd cc pp wl rr mv s)/\Hid (TombsAt base wr Bk (.slice TA ps.length tc) ps (zd3 s.graves (HI.take j) ((es.map (·.1)).take j)))/\Hid (Below base w wr)/\wr.heap[w.heap.size]?=some (.cells #[.int .i64 kd,.int .i64 dy,.string pl,.string fr,.slice B ts.length c,.int .i64 cl,.int .i64 yr] 28)/\Hid (KeepD w wr)/\OwnS wr (w.heap.size+1+1) 88 1 ptrC (.slice HA HL.length hn) HL/\OwnS wr (w.heap.size+1+1) 90 6 tmC (.slice NA HL.length nn) es/\Hid (∀e∈es,TmOk wr w.heap.size e)/\w.heap.size<=wr.heap.size) (fun i _=>HL.length-(intOf i).toNat)
        case atStart=>exact⟨0,Nat.zero_le _,rfl,HC.o.keep qZ.o,HP.o.keep qZ.o,HT.o.keep qZ.o,qZ.o.mono Mcq,IM.o,KeepD.below qZ.o,fG.o,by rw[<-gx.o]at*;exact Fq.o,cY.o,nW⟩
        case round=>
         obtain⟨j,hj,rfl,F8,pN,nI,cr,CL,Fk,Aj,wF,vI,B9⟩:=hrel;obtain⟨By,vH,Fr⟩:=yH3 CL Aj wF;by_cases aa:j<HL.length
         ·have pi:j<es.length:=by have:=gx.o;omega
          obtain⟨i,g,hi,ib,aK,_,jS⟩:=vt.o j aa;have Gy:HL[j]<w.heap.size:=by obtain⟨_,_,_,_,_,t1,_⟩:=jS;exact zab t1
          obtain⟨cI,du,CY,sG,wA⟩:=(Aj.sl' zcK).at aa;subst CY;have i0:wr.cell? ⟨cI,du+j,none⟩=some (.pointer (some ⟨HL[j],0,none⟩)):=by have:=wA 0 _ rfl;simpa using this
          obtain⟨nb,noff,Kr,AR,rY⟩:=(wF.sl' zoa).at pi;subst Kr;have bs:=vI.o es[j] (List.getElem_mem pi);have fg:i<(zd3 s.graves (HI.take j) ((es.map (·.1)).take j)).length:=by rw[zjJ];exact(List.getElem?_eq_some_iff.1 aK).1
          obtain⟨H,aI,D,dc,frm,t1,t2,_⟩:=nI.o.all i _ _ ib (List.getElem?_eq_getElem fg);have bN:zd3 s.graves (HI.take (j+1)) ((es.map (·.1)).take (j+1))=(zd3 s.graves (HI.take j) ((es.map (·.1)).take j)).set i es[j].1:=by
           have Hk:j<HI.length:=by have:=zG.o;omega
           have LC:j<(es.map (·.1)).length:=by rw[List.length_map];exact pi
           have Kg:HI[j]=i:=by
            rw[List.getElem?_eq_getElem Hk]at hi;exact Option.some.inj hi
           rw[List.take_succ_eq_append_getElem Hk,List.take_succ_eq_append_getElem LC,List.getElem_map,Kg];exact ziC _ _ _ _ _ (by rw[List.length_take,List.length_take];omega)
          obtain⟨dI,rq,lS⟩:=yH3 bN ib bs;generalize HL[j]=T at*;generalize hE:es[j]=E at*;obtain⟨⟨gp,gc,gf,gh,gd⟩,efr,⟨EH,ehc⟩,⟨ED,edc⟩⟩:=E;have n0:wr.cell? ⟨nb,noff+j*6,none⟩=some (.string gp):=rY 0 _ rfl;have n1:wr.cell? ⟨nb,noff+j*6+1,none⟩=some (.int .i64 gc):=rY 1 _ rfl;have n2:wr.cell? ⟨nb,noff+j*6+2,none⟩=some (.int .i64 efr):=rY 2 _ rfl;have n3:wr.cell? ⟨nb,noff+j*6+3,none⟩=some (.int .i64 gf):=rY 3 _ rfl;have n4:wr.cell? ⟨nb,noff+j*6+4,none⟩=some (.slice EH gh.length ehc):=rY 4 _ rfl;have n5:wr.cell? ⟨nb,noff+j*6+5,none⟩=some (.slice ED gd.length edc):=rY 5 _ rfl;have cZ:=zab t1;have dJ:=zHi t1;unfold zb1 at t1;generalize bl:(zd3 s.graves (HI.take j) ((es.map (·.1)).take j))[i]=gg at*;obtain⟨z0,z1,z2,z3,z4,z5⟩:=cF6 t1;have fz:∀j,wr.frozen? ⟨T,j,none⟩=false:=fun j=>by simp only[World.frozen?,t1];rfl
          have ar:(j:Int)<(HL.length:Int):=Mcq;have aR:(0:Int)<=(j:Int):=Mcq;have hkh:(j:Int)<=(hn:Int):=by have:=BL.o;omega
          have jz:(j:Int)<=(nn:Int):=by have:=Ji.o;omega
          have hnT:nb≠T:=by
           have:=(wF.ge nb rfl).1;omega
          obtain⟨ak,rG⟩:=yH2 aa Gy;clear bl hE bN ib bs wA rY hi aK jS t1 CL Aj wF fg pi;go_wp2_with fail
          go_round
          case rel=>
           have hg:=zca wr T (.string gp) (.int .i64 gc) (.int .i64 efr) (.int .i64 gf) (.slice EH gh.length ehc) (.slice ED gd.length edc);have KG:=zi3 (show wr.heap[T]?=some (.cells #[.string gg.place,.int .i64 gg.cls,.int .i64 frm,.int .i64 gg.fin,.slice H gg.holders.length aI,.slice D gg.died.length dc] 90) from dJ.o) (.string gp) (.int .i64 gc) (.int .i64 efr) (.int .i64 gf) (.slice EH gh.length ehc) (.slice ED gd.length edc);have Gy:=rG.o;have AK:∀(k:Nat) (cur:Array Value) (t:TypeId) (f:Nat×Nat),wr.heap[k]?=some (.cells cur t f)->t=59\/t=9->((((((wr.setCell ⟨T,0,none⟩ (.string gp)).setCell ⟨T,1,none⟩ (.int .i64 gc)).setCell ⟨T,2,none⟩ (.int .i64 efr)).setCell ⟨T,3,none⟩ (.int .i64 gf)).setCell ⟨T,4,none⟩ (.slice EH gh.length ehc)).setCell ⟨T,5,none⟩ (.slice ED gd.length edc)).heap[k]?=wr.heap[k]?:=fun k cur t f hk ht=>
            hg.block k (zab hk) (fun e=>by
             simp only[Option.some.injEq]at e;rw[e,show wr.heap[T]?=_ from dJ.o]at hk;simp only[Option.some.injEq,Obj.cells.injEq]at hk;rw[<-hk.2.1]at ht;revert ht
             decide)
           have hN:TombAt ((((((wr.setCell ⟨T,0,none⟩ (.string gp)).setCell ⟨T,1,none⟩ (.int .i64 gc)).setCell ⟨T,2,none⟩ (.int .i64 efr)).setCell ⟨T,3,none⟩ (.int .i64 gf)).setCell ⟨T,4,none⟩ (.slice EH gh.length ehc)).setCell ⟨T,5,none⟩ (.slice ED gd.length edc)) base Bk T ⟨gp,gc,gf,gh,gd⟩:=
            ⟨EH,ehc,ED,edc,efr,KG,t2,lS.o.hc,lS.o.dc,lS.o.hs.kept hg dJ.o Mcu,lS.o.ds.kept hg dJ.o Mcu,fun _ a ha hb=>by
              have h1:=lS.o.ge a ha;have h2:=ppl_rows HP.o _ hb
              omega⟩
           refine⟨j+1,ak.o,by go_num,wldC_tomb F8.o dJ.o hg,pN.o.kept hg dJ.o Mcu Mcu Mcu,?_,zbp cr.o hg t2 Mcq,(hg.block _ (zab By.o) Mcw).trans By.o,Fk.o.trans (KeepD.cells hg dJ.o Mcu),vH.o.kept hg dJ.o Mcu,Fr.o.grown hg (.inr fun e=>by have:=(Fr.o.ge _ e).1;omega),fun e he=>(vI.o e he).same AK,Nat.le_trans B9 hg.size⟩;show TombsAt _ _ _ _ _ _;rw[dI.o];exact zmS nI.o rq.o dJ.o hg hN
          case measure=>have:=ak.o;simp only[intOf];omega
         ·have ar:¬(j:Int)<(HL.length:Int):=Mcq;have h1:HI.take j=HI:=List.take_of_length_le (by have:=zG.o;omega);have h2:(es.map (·.1)).take j=es.map (·.1):=List.take_of_length_le (by have:=gx.o;rw[List.length_map];omega);rw[h1,h2]at nI;clear h1 h2 CL Aj wF;go_wp2_with fail
          go_meet
          exact⟨_,iR.o,⟨Bk,dd,cc,pp,wl,rr,mv,_,ps,aN,F8.o,⟨pN.o.nd,pN.o.ge,pN.o.dead,pN.o.rows,pN.o.marr,pN.o.wills,pN.o.ren⟩,nI.o⟩,cr.o,By.o,Fk.o⟩
       ·have sn:=dW.o;simp only[if_true]at sn;have iR:=zHi sn;clear sn dW;go_wp2_with fail
        go_ret
        exact zbK HW.o qZ.o iR.o
   case rest=>
    obtain⟨gs,ax,KS,eE,Ac,Kl⟩:=hcut;have J5:=zHi Kl;obtain⟨W9,rfl⟩:∃x,x=wc:=⟨_,rfl⟩
    obtain⟨Bk',d',c',p',wl',r',mv',tv',ps',ew,cB,gF,fV⟩:=KS;have sG:=zab cB;have br:=zab Ac;obtain⟨II,Cb,JB,lE⟩:=yH4 cB gF fV eE;unfold WldC at cB;obtain z0:=cF1 cB;obtain⟨-,-,-,z3⟩:=cF4 Ac;obtain⟨es,ec,hx⟩:=zb0 gF.dead;have rO:=zHi hx;have jU:=gF.dead.at.lt;have dp:b≠d':=fun e=>by subst e;rw[cB]at hx;simp at hx
    have zd:w.heap.size≠d':=fun e=>by rw[<-e,Ac]at hx;simp at hx
    clear cB gF fV eE Ac hx;go_upto_region 37 with fail
    refine wp_region_held_drew (S:=(fun w'=>w'.cell? ⟨b,0,none⟩=some (.map (some d'))/\w'.cell? ⟨w.heap.size,3,none⟩=some (.string fr))) Mcs ?hS ?hrest
    case hS=>exact⟨z0,z3⟩
    case hrest=>
     intro hHeld;refine TkH 0 ?_;refine TkH 1 ?_;refine TkH 2 ?_;refine TkH 3 ?_;refine TkH 4 ?_;refine TkH 5 ?_;refine TkH 6 ?_;refine OnH 7 fun K hK=>?_
     obtain⟨w6,hrun,j8,bO,nW⟩:=zdl (w:=W9.drew) mapSB (Cb.o.dead.keep (w':=W9.drew) rfl) fr true;refine zdd rfl _ _ _ rfl _ _ _ rfl rfl rfl w6 hrun ?_;have p9:W9.grownBy w6 (some d'):=⟨bO.os,bO.tape,bO.output,bO.size,bO.block⟩
     have p6:w6.cell? ⟨b,0,none⟩=some (.map (some d')):=(zbd p9 sG dp).trans z0;have q6:w6.cell? ⟨w.heap.size,3,none⟩=some (.string fr):=(zbd p9 br zd).trans z3;obtain⟨vB,jM⟩:=yH2 j8 p9;clear j8 bO p9 hrun;refine hK.out _ _ ?_ (fun hHeld=>?_);focus((try dsimp only);refine⟨?_,?_⟩<;>assumption)
     clear hK K;try simp only[Act.put,List.setIfInBounds_toArray,List.set_cons_zero,List.set_cons_succ]
     refine wpAnyH_done Mcs ?_ _;go_wp2_with fail
     go_ret
     rw[ax.o];have fA:=Cb.o.ge;have uA:mput eqS fr true (s.dead.map fun n=>(n,true))=(s.dead++[fr]).map fun n=>(n,true):=by
      have hz:=ziD (eq:=eqS) (k:=fr) (l:=s.dead) (by rw[zhN];exact qa);rw[zk3 hz];simp
     have En:MapS w6 d' ekS evB ((s.dead++[fr]).map fun n=>(n,true)):=by
      rw[<-uA];exact vB.o
     exact⟨rfl,zmM ew II.o JB.o jM.o rO.o rfl (ppl_dead Cb.o jM.o En),zbp lE.o jM.o fA.1 (by have:=HW.o.lt;omega),J5.o.trans (KeepD.map jM.o rO.o)⟩
 ·go_quiet (fail)
  go_wp2_with fail
  go_ret
  exact zbK HW.o Bw HX.o

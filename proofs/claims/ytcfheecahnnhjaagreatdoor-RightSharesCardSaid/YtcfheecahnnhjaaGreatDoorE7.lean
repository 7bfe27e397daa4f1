import Derived.Test.YtcfheecahnnhjaaGreatDoorE3
import Derived.Test.YtcfheecahnnhjaaGreatDoorE1
set_option linter.all false
set_option maxRecDepth 100000
set_option maxHeartbeats 4000000
namespace Go.Proofs.YtcfheecahnnhjaaGreatDoor
open Go.RowKit Go.Shelf
attribute [local go_sem] World.cell?_alloc_mark zag za4 zar zaB zaw zax zay zaz za0 za1 za2
attribute [local go_sem] zas zad
theorem estate_bd{s:St}{law:Law}{n:ByteArray}(hw:WillOk (zbx s n))(hl:za8 16 law.num law.den=true):Bd (zcn s law n).1 1:=by
 have hi:=zk6 (s:=s) (frm:=n) hw (zbx s n).length;rw[List.take_of_length_le (Nat.le_refl _)]at hi;unfold zcn;generalize zdm s n (zbx s n) ([],false) 1=y at*;obtain⟨⟨o,f⟩,r⟩:=y;obtain⟨o1,o2,_,_⟩:=own_ok hi.isN hi.nn hi.le hl;have hb:=hi.bd;have hn:=hi.nn;simp only at*;split
 ·exact(zf7 (fl:=f) hb hn).up6 McX
 ·split
  ·exact(zg7 (fl:=f) hn hb).up6 McX
  ·exact(zg7 (fl:=(zcW (zcq s n) (r*Rat.divInt law.num law.den) (o,f)).2) (show 0<=r-r*Rat.divInt law.num law.den by grind) (zf7 (n:=zcq s n) (fl:=f) hb o1)).up6 McX
theorem death_bd{g:Grave}{n:ByteArray}{hs:Parts}(hG:GoodG g)(hE:Bd hs 1):0<=zaf g.holders n/\zaJ (zaf g.holders n)/\zaf g.holders n<=1/\∀(f:Bool) (k:Nat),Bd (zem (zaf g.holders n) (hs.take k) (setP g.holders n 0,f)).1 1:=by
 have ho:=zbF hG.good n;have bP:=zd2 hG.good n;have dU:sumQ g.holders<=1:=by
  rcases hG.one with h|h
  ·rw[h];decide
  ·rw[h];exact Rat.le_refl
 have hb:Bd (setP g.holders n 0) (1-zaf g.holders n):=by
  refine⟨zhK hG.good Mcw,zex hG.small Mcw,?_⟩;rw[zmD hG.good];grind
 refine⟨ho,zcd ho McX (zcQ n hG.small),by grind,fun f k=>?_⟩
 have h2:=zmE ho (l:=hs.take k) (f:=f) (fun p hp=>by
  have:=hE.good.pos p (List.mem_of_mem_take hp)
  grind) hb
 refine h2.up ?_;have h3:=zlI hs hE.good.pos k;have h4:=hE.le;have h5:=Rat.mul_nonneg ho (show 0<=1-sumQ (hs.take k) by grind);grind
theorem sum_mem{l:Parts}(h:∀p∈l,0<p.2){p:ByteArray×Rat}(hp:p∈l):p.2<=sumQ l:=by
 induction l with
 |nil=>cases hp
 |cons x l ih=>
  rw[sumQ];have h1:=zj8 (l:=l) fun q hq=>h q MdH
  have h2:=h x Mcx;rcases List.mem_cons.1 hp with rfl|hp
  ·grind
  ·have:=ih (fun q hq=>h q MdH) hp;grind
theorem zdO{hs:Parts}(hE:Bd hs 1){p:ByteArray×Rat}(hp:p∈hs):0<p.2/\p.2<=1/\zaJ p.2:=by
 have h0:=hE.good.pos p hp;have h1:p.2<=1:=by
  have:=hE.le;have h2:=sum_mem hE.good.pos hp;grind
 refine⟨h0,h1,zcd McX h1 ?_⟩;have:=hE.small;unfold zaF at this;rw[List.any_eq_false]at this;simpa using this p hp
theorem zoU(own:Rat)(hs:Parts)(x:Parts×Bool){k:Nat}(h:k<hs.length):zem own (hs.take (k+1)) x=zfh own hs[k] (zem own (hs.take k) x):=by
 rw[List.take_succ_eq_append_getElem h,zfi];rfl
theorem tomb_set5{W:World}{T:Nat}{pl:ByteArray}{cl fr en:Int}{v dv:Value}(h:zbw W T pl cl fr en v dv)(v':Value):zbw (W.setCell ⟨T,5,none⟩ v') T pl cl fr en v v':=by
 unfold zbw at*;have:=Joins.block_setCell (i:=5) h v';simpa using this
theorem zkF{α:Type}{W:World}{base:Nat}{e t:TypeId}{size:Nat}{f:α->List Value}{v:Value}{xs:List α}{T:Nat}{cs:Array Value}{fr:Nat×Nat}(h:OwnS W base e size f v xs)(hT:W.heap[T]?=some (.cells cs t fr))(ai:t≠e):za5 v≠some T:=by
 exact MX
def zbS(n:ByteArray)(day:Int)(ps:List Nat)(gs:List Grave):List Nat:=(zbf n day 0 gs).map fun i=>ps.getD i 0
theorem zhi(a b:Int)(w:World):(Instr.field 31 (.agg #[.int .i64 a,.int .i64 b]) 0).run Tryz.prog w=.ok (.int .i64 a) w:=by kernel_rfl
abbrev Tm:=Grave×Int×(Option Addr×Nat)×(Option Addr×Nat)
def tmC(e:Tm):List Value:=[.string e.1.place,.int .i64 e.1.cls,.int .i64 e.2.1,.int .i64 e.1.fin,.slice e.2.2.1.1 e.1.holders.length e.2.2.1.2,.slice e.2.2.2.1 e.1.died.length e.2.2.2.2]
theorem zof(e:Tm):(tmC e).length=6:=rfl
theorem tm_one(e:Tm):∀u∈tmC e,u.oneCell'=true:=by simp[tmC,Value.oneCell']
theorem elTm:ElTy Tryz.prog 195 88 6 88:=zdA (z:=.agg #[.string ⟨#[]⟩,.int .i64 0,.int .i64 0,.int .i64 0,.slice none 0 0,.slice none 0 0]) Mcv Mcv rfl Mcw
structure TmOk (W:World) (n0:Nat) (e:Tm):Prop where
 hs:Ro W 64 zaa e.2.2.1.1 e.1.holders
 hc:e.1.holders.length<=e.2.2.1.2
 ds:Ro W 9 sC e.2.2.2.1 e.1.died
 dc:e.1.died.length<=e.2.2.2.2
 ge:∀a,e.2.2.2.1=some a->n0<=a.block
theorem TmOk.same{W W':World}{n0:Nat}{e:Tm}(h:TmOk W n0 e)(hk:∀(k:Nat) (cur:Array Value) (t:TypeId) (f:Nat×Nat),W.heap[k]?=some (.cells cur t f)->t=64\/t=9->W'.heap[k]?=W.heap[k]?):TmOk W' n0 e:=
 ⟨h.hs.same fun b cur f hb _=>hk b cur _ f hb (.inl rfl),h.hc,h.ds.same fun b cur f hb _=>hk b cur _ f hb (.inr rfl),h.dc,h.ge⟩
theorem held_tomb{n:ByteArray}{day:Int}{ps:List Nat}{gs:List Grave}{base:Nat}{W:World}{B:List Nat}{tv:Value}(hT:TombsAt base W B tv ps gs){j:Nat}(hj:j<(zbS n day ps gs).length):
 ∃i g,(zbf n day 0 gs)[j]?=some i/\ps[i]?=some (zbS n day ps gs)[j]/\gs[i]?=some g/\(gs.filter (zcf n day))[j]?=some g/\TombAt W base B (zbS n day ps gs)[j] g:=by
 have sD:j<(zbf n day 0 gs).length:=by unfold zbS at hj;simpa using hj
 obtain⟨_,g,h2,h3⟩:=zod n day gs 0 j _ (List.getElem?_eq_getElem sD);rw[Nat.sub_zero]at h2;have hi:(zbf n day 0 gs)[j]<ps.length:=by have:=(List.getElem?_eq_some_iff.1 h2).1;have:=hT.len;omega
 have hp:ps[(zbf n day 0 gs)[j]]?=some (zbS n day ps gs)[j]:=by
  have e:(zbS n day ps gs)[j]=ps.getD (zbf n day 0 gs)[j] 0:=by unfold zbS;simp
  rw[e,List.getElem?_eq_getElem hi,List.getD_eq_getElem?_getD,List.getElem?_eq_getElem hi];rfl
 exact⟨_,g,List.getElem?_eq_getElem sD,hp,h2,h3,hT.all _ _ _ hp h2⟩
theorem sl_tm{w:World}{b:Nat}{e:Tm}{t:TypeId}{fr:Nat×Nat}(h:w.heap[b]?=some (.cells (tmC e).toArray t fr)):Sl w 6 tmC (some ⟨b,0,none⟩) [e]:=fun _=>⟨b,0,rfl,zab h,fun k y hy j u hu=>by
 have hk:k=0:=McH;subst hk;simp only[List.getElem?_cons_zero,Option.some.injEq]at hy;subst hy;simp only[World.cell?,h,Nat.zero_mul,Nat.zero_add,Nat.add_zero]
 simpa using hu⟩
theorem ppl_rows{base:Nat}{W:World}{B:List Nat}{d c p wl r:Nat}{mv:Value}{s:St}(h:PplAt base W B d c p wl r mv s):∀g∈B,g<W.heap.size:=fun g hg=>by
 obtain⟨mc,mp,_,_,k3,k4,k5,_,kn1,kn2⟩:=h.rows;have key:∀ {m:List (ByteArray×Value)} {f:ByteArray->List ByteArray},(m.map (·.1)).Nodup->(∀n,RowIs W base m n (f n))->g∈zaW m->g<W.heap.size:=fun {m f} hk hr h=>by
  obtain⟨e,he,eV⟩:=zcN.1 h;have h1:=zg0 hk (show(e.1,e.2)∈m from he);rcases hr e.1 with⟨h2,_⟩|⟨v,h2,h3⟩
  ·rw[h2]at h1;cases h1
  ·rw[h2]at h1;simp only[Option.some.injEq]at h1;rw[h1]at h3;exact(h3.ge g eV).2
 rw[k5,zc4,List.mem_append]at hg;rcases hg with hg|hg
 ·exact key kn1 k3 hg
 ·exact key kn2 k4 hg
theorem zmW{base i T:Nat}{W W':World}{B ps:List Nat}{tv:Value}{gs:List Grave}{g':Grave}{cs:Array Value}{fr:Nat×Nat}(hT:TombsAt base W B tv ps gs)
 (hi:ps[i]?=some T)(hx:W.heap[T]?=some (.cells cs 88 fr))(hg:W.grownBy W' (some T))(hN:TombAt W' base B T g'):TombsAt base W' B tv ps (gs.set i g'):=by
 refine⟨hT.own.kept hg hx Mcw,by simp[hT.len],hT.nd,fun j T' g e1 e2=>?_⟩;by_cases hj:i=j
 ·subst hj;rw[hi]at e1;have eF:i<gs.length:=MdN;exact Mbv
 ·exact Mam
theorem wldC_tomb{W W':World}{b d c p wl r T:Nat}{mv tv:Value}{la co:Int}{cs:Array Value}{fr:Nat×Nat}(h:WldC W b d c p wl r mv tv la co)(hx:W.heap[T]?=some (.cells cs 88 fr))(hg:W.grownBy W' (some T)):WldC W' b d c p wl r mv tv la co:=
 (hg.block b (zab h) (fun e=>by
   simp only[Option.some.injEq]at e;subst e;unfold WldC at h;rw[h]at hx
   simp at hx)).trans h
theorem zoV{w W W':World}{g n:Nat}(h:w.grownBy W (some g))(hb:Below n W W')(hn:w.heap.size<=n):w.grownBy W' (some g):=
 ⟨hb.os.trans h.os,hb.tape.trans h.tape,hb.output.trans h.output,Nat.le_trans h.size hb.size,fun k hk ai=>(hb.block k Mcu).trans (h.block k hk ai)⟩
theorem zjP{w W W':World}{g n:Nat}(hb:Below n w W)(hn:w.heap.size<=n)(h:W.grownBy W' (some g)):w.grownBy W' (some g):=
 ⟨h.os.trans hb.os,h.tape.trans hb.tape,h.output.trans hb.output,Nat.le_trans hb.size h.size,fun k hk ai=>(h.block k (Nat.lt_of_lt_of_le hk hb.size) ai).trans (hb.block k Mcu)⟩
theorem B_drop{w W:World}(h:Below w.drew.heap.size w.drew W):Below w.heap.size w W:=⟨h.os,h.tape,h.output,h.size,h.block⟩
theorem death_any(base b:Nat)(s:St)(la co last:Int)(laws:List Law)(LA:Option Addr)(lc:Nat)(d:Deed)(B:Option Addr)(c:Nat)(w:World)(hW:WldAt base w b s la co)(ja:GoodSt s last)(hl:last<=d.day)(hk:d.kind=8)(eY:za8 16 (zbc laws d.day).num (zbc laws d.day).den=true)(fH:laws.length<=10)(il:Sl w 4 Law.cells LA laws)
 (l8:s.graves.length<=1000)(bX:s.children.length<=1000)(fJ:s.marriages.length<=1000)(cG:(zbx s d.frm).length<=1000)(cq:∀g∈s.graves,g.holders.length<=70000/\g.died.length<=1000):
 Calls Tryz.prog 113 #[.pointer (some ⟨b,0,none⟩),.slice LA laws.length lc,d.v B c] w (zbK base b (zdQ laws s d) la co w):=by
 have hq:=deathP_eq ja hl eY;have Fe:=estate_bd (s:=s) (law:=zbc laws d.day) (ja.wills d.frm) eY;have ak:=hW;obtain⟨Bk,dd,cc,pp,wl,rr,mv,tv,ps,ba,hC,hP,hT⟩:=hW;have dK:=zab hC;obtain⟨kd,dy,pl,fr,ts,cl,yr⟩:=d;simp only at*;clear hk;have HX:Hid (zdQ laws s ⟨kd,dy,pl,fr,ts,cl,yr⟩=_):=hq;generalize zdQ laws s ⟨kd,dy,pl,fr,ts,cl,yr⟩=X at*;obtain⟨TA,tc,rfl,_,t8⟩:=hT.own.sl zcL;have wQ:=hT.own;obtain⟨kP,HC,HP,HT,HW,dI,qC,eA⟩:=yH8 hT.len hC hP hT ak ja cq il;have qu:=zHi Fe;unfold WldC at hC;obtain⟨c0,-,-,-,-,-,c6⟩:=cF7 hC;have fO:=zHi (fun W (hB:Below w.heap.size w W)=>zd0 (HP.o.keep hB) fr);have aT:∀q',_:=fun q'=>fO.o ((w.alloc (.cells #[.int .i64 kd,.int .i64 dy,.string pl,.string fr,.slice B ts.length c,.int .i64 cl,.int .i64 yr] 69)).drewN q') (zd9 Bw _)
 generalize sk:zaN s fr=dx at*;clear hC hP hT ak ja cq il hq Fe;unfold Deed.v;simp only;go_enter Tryz.func113,Tryz.ntmps113
 go_upto_region 1 with fail
 cases dx
 ·go_quiet (fail)
  go_upto_block 0 with fail
  have bE:Below w.heap.size w (((w.alloc (.cells #[.int .i64 kd,.int .i64 dy,.string pl,.string fr,.slice B ts.length c,.int .i64 cl,.int .i64 yr] 69)).drewN nq).alloc (.cells #[.bool false] 190)):=zac (zd9 Bw _) _;have D2:(((w.alloc (.cells #[.int .i64 kd,.int .i64 dy,.string pl,.string fr,.slice B ts.length c,.int .i64 cl,.int .i64 yr] 69)).drewN nq).alloc (.cells #[.bool false] 190)).heap[w.heap.size]?=some (.cells #[.int .i64 kd,.int .i64 dy,.string pl,.string fr,.slice B ts.length c,.int .i64 cl,.int .i64 yr] 69):=zal (zaq _ _ _ rfl);have M2:MarkAt (((w.alloc (.cells #[.int .i64 kd,.int .i64 dy,.string pl,.string fr,.slice B ts.length c,.int .i64 cl,.int .i64 yr] 69)).drewN nq).alloc (.cells #[.bool false] 190)) (w.heap.size+1) false:=zaq _ _ _ (by simp[World.drewN]);have s2:(((w.alloc (.cells #[.int .i64 kd,.int .i64 dy,.string pl,.string fr,.slice B ts.length c,.int .i64 cl,.int .i64 yr] 69)).drewN nq).alloc (.cells #[.bool false] 190)).heap.size=w.heap.size+1+1:=by simp[World.drewN]
  generalize(((w.alloc (.cells #[.int .i64 kd,.int .i64 dy,.string pl,.string fr,.slice B ts.length c,.int .i64 cl,.int .i64 yr] 69)).drewN nq).alloc (.cells #[.bool false] 190))=W2 at*;obtain⟨aD,jB,pk,S2⟩:=yH4 bE D2 M2 s2;clear D2 M2 s2 aT;have aY:=bE.size;clear bE;go_cut [8,10,35]from 36 (fun v8 _ _ wc=>∃A n,v8=.slice A (zbS fr dy ps s.graves).length n/\OwnS wc W2.heap.size 73 1 ptrC v8 (zbS fr dy ps s.graves)/\Below W2.heap.size W2 wc)
  case first=>
   go_wp2_with fail
   go_loopw [8,35] (fun v i wr=>∃(k:Nat),k<=ps.length/\i=.int .i64 k/\OwnS wr W2.heap.size 73 1 ptrC v (zbS fr dy ps (s.graves.take k))/\Below W2.heap.size W2 wr) (fun _ i _=>ps.length-(intOf i).toNat)
   case atStart=>exact⟨0,Nat.zero_le _,rfl,OwnS.nil,Below.refl _ _⟩
   case round=>
    obtain⟨k,hk,rfl,aa,hB⟩:=hrel;obtain⟨VA,vc,rfl,_,jx⟩:=aa.sl zcL;have bl:Below w.heap.size w wr:=aD.o.trans (hB.mono aY);have hsz:=hB.size;obtain⟨HO,HB⟩:=yH2 aa hB;have e1:wr.cell? ⟨w.heap.size,1,none⟩=some (.int .i64 dy):=(zah hB MdR).trans (by simp only[World.cell?,jB.o];rfl);have e3:wr.cell? ⟨w.heap.size,3,none⟩=some (.string fr):=(zah hB MdR).trans (by simp only[World.cell?,jB.o];rfl);have bx:w.heap.size<wr.heap.size:=MdR;by_cases ae:k<ps.length
    ·have kn:k<s.graves.length:=by have:=kP.o;omega
     have CF:=(HT.o.keep bl).all k ps[k] s.graves[k] (List.getElem?_eq_getElem ae) (List.getElem?_eq_getElem kn);have aW:=dI.o.graves s.graves[k] (List.getElem_mem kn);have ix:=qC.o s.graves[k] (List.getElem_mem kn)
     obtain⟨TB,toff,CE,JZ,wT⟩:=(show Sl wr 1 ptrC TA ps from by
      obtain⟨A',c',e',h',_⟩:=(wQ.keep bl).sl zcL;simp only[Value.slice.injEq]at e'
      rw[e'.1];exact h').at ae
     subst CE;have bw:=held_snoc fr dy s.graves kn;have ia:ps.getD k 0=ps[k]:=Mdi;have i0:wr.cell? ⟨TB,toff+k,none⟩=some (.pointer (some ⟨ps[k],0,none⟩)):=by have:=wT 0 _ rfl;simpa using this
     have xE:zbS fr dy ps (s.graves.take (k+1))=zbS fr dy ps (s.graves.take k)++if zcf fr dy s.graves[k]then[ps[k]]else[]:=by
      unfold zbS;rw[bw,List.map_append];cases zcf fr dy s.graves[k]
      ·rfl
      ·show _++[ps.getD k 0]=_;rw[ia];rfl
     generalize ps[k]=T at*;generalize s.graves[k]=g at*;have yD:zcf fr dy g=(zaR g dy&&decide (0<(zaf g.holders fr).num)):=rfl;obtain⟨H,aM,D,dc,frm,t1,t2,t3,t4,t5,t6,t7⟩:=CF;have ca:=zab t1;unfold zbw at t1;obtain⟨-,-,-,g3,g4⟩:=cF5 t1;obtain⟨qI,dh,qG,lU⟩:=yH4 (fun W (hW:Below wr.heap.size wr W)=>zfQ g H aM T dy W ((zah hW ca).trans g3) ((zah hW ca).trans g4)) (fun W (hW:Below wr.heap.size wr W)=>zdz g.holders H aM T fr W ((zah hW ca).trans g4) (Nat.lt_of_lt_of_le ca hW.size) Mcu aW.good.asc (Ro.sl zam (t5.keep hW))) xE yD;generalize zaR g dy=fi at*;generalize zaf g.holders fr=q at*;unfold zaA at dh;have ar:(k:Int)<(ps.length:Int):=Mcu;have aT:(0:Int)<=(k:Int):=Mcu;have fu:(k:Int)<=(tc:Int):=Mcu;have cX:(zbS fr dy ps (s.graves.take k)).length<=1000:=by
      unfold zbS;rw[List.length_map,zf8];exact M3
     generalize zbS fr dy ps (s.graves.take k)=cS at*;have dM:=zHi cX;clear aW ix bw xE yD t1 t5 t6 t7 t2 t3 t4 wT aa hB bl cX ia g3 g4;have uj:=zhi q.num q.den;cases fi
     ·rw[Bool.false_and]at lU;go_wp2_with (go_at_call 27;refine(qI.o _ Bw).mono ?_;rintro e wq ⟨rfl,z,rfl⟩)
      go_round
      case rel=>exact⟨k+1,by omega,by go_num,by rw[qG.o,lU.o];simpa using HO.o.keep (n:=wr.heap.size) Bw,HB.o.trans ((Bw:Below wr.heap.size wr _).mono hsz)⟩
      case measure=>simp[intOf];omega
     ·by_cases hq:0<q.num
      ·have BF:Hid (zcf fr dy g=true):=by show _=_;rw[lU.o];simpa using hq
       go_wp2_with (first
        |(go_at_call 27;refine(qI.o _ Bw).mono ?_;rintro e wq ⟨rfl,z,rfl⟩)
        |(go_at_call 25;refine(dh.o _ Bw).mono ?_;rintro e wq2 ⟨rfl,z2,rfl⟩)
        |(at_builtin;go_loud(refine zat (v:=.slice VA cS.length vc) (n:=cS.length) (m:=1) rfl _ _ rfl elTomb zcL znK rfl (HO.o.keep (n:=wr.heap.size) Bw) rfl rfl rfl (sl_ptr (T:=T) (zaq _ _ _ Mdk)) (by have:=dM.o;simp[maxLen];omega) (by have:=dM.o;omega) McD ?_);intro v3 w3 h1 h2 h3))
       have ay:Below W2.heap.size W2 w3:=Below.grown (a:=W2) (B:=W2.heap.size) (HB.o.trans ((Bw:Below wr.heap.size wr _).mono hsz)) h2 McD (fun j hj=>(HO.o.ge j hj).1);obtain⟨aH,H1⟩:=yH2 ay h1;clear h1 h2 h3 ay;go_wp2_with fail
       go_round
       case rel=>exact⟨k+1,by omega,by go_num,by rw[qG.o,BF.o];exact H1.o,aH.o⟩
       case measure=>simp[intOf];omega
      ·have BF:Hid (zcf fr dy g=false):=by show _=_;rw[lU.o];simpa using hq
       go_wp2_with (first
        |(go_at_call 27;refine(qI.o _ Bw).mono ?_;rintro e wq ⟨rfl,z,rfl⟩)
        |(go_at_call 25;refine(dh.o _ Bw).mono ?_;rintro e wq2 ⟨rfl,z2,rfl⟩))
       go_round
       case rel=>exact⟨k+1,by omega,by go_num,by rw[qG.o,BF.o];simpa using HO.o.keep (n:=wr.heap.size) Bw,HB.o.trans ((Bw:Below wr.heap.size wr _).mono hsz)⟩
       case measure=>simp[intOf];omega
    ·have ar:¬(k:Int)<(ps.length:Int):=Mcu;have iR:zbS fr dy ps (s.graves.take k)=zbS fr dy ps s.graves:=by rw[List.take_of_length_le (by have:=kP.o;omega)]
     have gA:=zHi iR;clear iR aa hB bl;go_wp2_with fail
     go_meet
     have hO:=HO.o;rw[gA.o]at hO⊢;exact⟨VA,vc,rfl,hO,HB.o⟩
  case rest=>
   obtain⟨HA,hn,rfl,aa,hB⟩:=hcut;have bl:Below w.heap.size w wc:=aD.o.trans (hB.mono aY);have hD:wc.heap[w.heap.size]?=some (.cells #[.int .i64 kd,.int .i64 dy,.string pl,.string fr,.slice B ts.length c,.int .i64 cl,.int .i64 yr] 69):=(hB.block _ MdR).trans jB.o;have hM:MarkAt wc (w.heap.size+1) false:=(hB.block _ MdR).trans pk.o;have mj:(zbS fr dy ps s.graves).length=0->s.graves.any (zcf fr dy)=false:=fun h=>by
    unfold zbS at h;rw[List.length_map,zf8]at h;rw[List.any_eq_false];intro g hg hq;have:g∈s.graves.filter (zcf fr dy):=List.mem_filter.2 ⟨hg,hq⟩;rw[List.eq_nil_of_length_eq_zero h]at this;cases this
   obtain⟨lz,HO,b8,HD,HM⟩:=yH5 mj aa bl hD hM;clear mj aa bl hD hM;go_upto_if 58 with fail
   go_cut [11,12,14,15,16,18,19,20,21,58]from 59 (fun _ _ _ _ _ _ _ _ _ _ W=>∃gs,Hid (X=({s with graves:=gs,dead:=s.dead++[fr]},0))/\WldAt base W b {s with graves:=gs} la co/\Below base w W/\W.heap[w.heap.size]?=some (.cells #[.int .i64 kd,.int .i64 dy,.string pl,.string fr,.slice B ts.length c,.int .i64 cl,.int .i64 yr] 69)/\KeepD w W)
   case first=>
    by_cases hz:(zbS fr dy ps s.graves).length=0
    ·have iT:¬(0:Int)<((zbS fr dy ps s.graves).length:Int):=Mcu;have hX:=HX.o;rw[lz.o hz]at hX;have av:=zHi hX;clear hz hX;go_wp2_with fail
     go_meet
     refine⟨s.graves,?_,HW.o.keep b8.o,b8.o.mono (by have:=HW.o.lt;omega),HD.o,KeepD.below b8.o⟩;show _=_;rw[av.o];simp
    ·have iT:(0:Int)<((zbS fr dy ps s.graves).length:Int):=Mcu;have HZ:=zHi hz;have d1:wc.cell? ⟨w.heap.size,1,none⟩=some (.int .i64 dy):=by simp only[World.cell?,HD.o];rfl
     have d3:wc.cell? ⟨w.heap.size,3,none⟩=some (.string fr):=by simp only[World.cell?,HD.o];rfl
     have bx:w.heap.size<wc.heap.size:=zab HD.o;have aI:=b8.o.size;have tD:=zHi (show∃EF,EF=zcn s (zbc laws dy) fr from⟨_,rfl⟩);obtain⟨EF,pG⟩:=tD.o;rw[<-pG]at qu HX;have hel:EF.1.length<=3000:=by
      have h1:=qu.o.good;have h2:=ziN (s:=s) (law:=zbc laws dy) (n:=fr) (by rw[<-pG];exact h1);rw[<-pG]at h2;omega
     obtain⟨eL,HE⟩:=yH2 hel pG;clear hz pG tD hel;go_upto_region 12 with fail
     clear iT;go_cut [11,58]from 59 (fun v11 _ W=>∃A n,v11=.slice A EF.1.length n/\OwnS W (w.heap.size+1+1) 64 3 zaa v11 EF.1/\MarkAt W (w.heap.size+1) EF.2/\wc.grownBy W (some (w.heap.size+1)))
     case first=>
      refine wp_region_held_drew (S:=(fun w'=>w'.cell? ⟨w.heap.size,1,none⟩=some (.int .i64 dy)/\w'.cell? ⟨w.heap.size,3,none⟩=some (.string fr))) Mcv ?hS ?hrest
      case hS=>exact⟨d1,d3⟩
      case hrest=>
       intro hHeld;refine TkH 0 ?_;refine TkH 1 ?_;refine TkH 2 ?_;refine TkH 3 ?_;refine TkH 4 ?_;refine TkH 5 ?_;refine TkH 7 ?_;refine TkH 8 ?_;refine OnH 6 fun K hK=>?_
       go_simp
       refine(zot laws LA lc dy _ fH (eA.o.keep (b8.o.trans ((zaE (Below.refl _ _)).mono aI)))).mono ?_;rintro e w5 ⟨rfl,z,rfl⟩;refine NxM hK (fun hHeld=>?_) (⟨(za4 _ _ _ _ bx).trans d1,(za4 _ _ _ _ bx).trans d3⟩);clear hK K;refine OnH 9 fun K hK=>?_
       go_simp
       refine(zoT base b (w.heap.size+1) s last (zbc laws dy) fr _ ?q1 dI.o ?q2 bX fJ cG eY).mono ?_
       case q1=>exact fun W hW=>HW.o.peo.keep (zaU (b8.o.trans ((zbg (zaE (Below.refl _ _)) z).mono aI)) hW Mcu)
       case q2=>exact HM.o.drew.ext z
       rintro e w6 ⟨v,rfl,n1,n2,n3⟩;rw[<-HE.o]at n1 n2;have n3':wc.grownBy w6 (some (w.heap.size+1)):=⟨n3.os,n3.tape,n3.output,Nat.le_trans Mdk n3.size,fun k hk ai=>(n3.block k McD ai).trans (zcO _ _ _ hk)⟩
       obtain⟨N1,N2,N3⟩:=yH3 n1 n2 n3';clear n1 n2 n3 n3';refine NxM hK (fun hHeld=>?_) (⟨(zbd N3.o bx Mcu).trans d1,(zbd N3.o bx Mcu).trans d3⟩);clear hK K;refine OnH 10 fun K hK=>?_
       go_simp
       refine NxM hK (fun hHeld=>?_) (⟨(zbd N3.o bx Mcu).trans d1,(zbd N3.o bx Mcu).trans d3⟩);clear hK K;refine wpAnyH_done Mcv ?_ _;go_wp2_with fail
       go_meet
       obtain⟨A9,n9,rfl,_,_⟩:=N1.o.sl zam;exact⟨A9,n9,rfl,OwnS.base_le N1.o (by have:=S2.o;have:=hB.size;simp[zag];omega),N2.o,N3.o⟩
     case rest=>
      obtain⟨EA,en,rfl,n1,n2,n3⟩:=hcut;have Fl:Below w.heap.size w wc:=zaU b8.o n3 Mcu Md9;have Fb:wc.heap[w.heap.size]?=some (.cells #[.int .i64 kd,.int .i64 dy,.string pl,.string fr,.slice B ts.length c,.int .i64 cl,.int .i64 yr] 69):=(n3.block _ bx Mcx).trans HD.o
      have u7:OwnS wc (w.heap.size+1+1) 73 1 ptrC (.slice HA (zbS fr dy ps s.graves).length hn) (zbS fr dy ps s.graves):=(OwnS.base_le HO.o MdR).grown n3 (by
       cases hb:za5 (.slice HA (zbS fr dy ps s.graves).length hn)with
       |none=>exact .inl rfl
       |some g=>exact .inr fun e=>by have:=(HO.o.ge g hb).1;have:=S2.o;simp at e;omega)
      obtain⟨kO,uZ,nY,zD,vg⟩:=yH5 u7 n1 n2 Fb Fl;have jL:=n3.size;have hHL:(zbS fr dy ps s.graves).length<=1000:=by
       unfold zbS;rw[List.length_map,zf8];exact Nat.le_trans (List.length_filter_le _ _) l8
      have dQ:(zbS fr dy ps s.graves).length=(s.graves.filter (zcf fr dy)).length:=by
       unfold zbS;rw[List.length_map,zf8]
      obtain⟨nV,qH⟩:=yH2 dQ (fun(W:World) (hB:Below w.heap.size w W) j hj=>held_tomb (n:=fr) (day:=dy) (HT.o.keep hB) (j:=j) hj);have Fm:∀g∈s.graves.filter (zcf fr dy),GoodG g/\g.holders.length<=70000/\g.died.length<=1000:=fun g hg=>⟨dI.o.graves g (List.mem_filter.1 hg).1,qC.o g (List.mem_filter.1 hg).1⟩
      have qE:=zHi Fm;clear n1 n2 n3 u7 Fb Fl d1 d3 bx dQ Fm;generalize hHs:zbS fr dy ps s.graves=HL at*;generalize sA:s.graves.filter (zcf fr dy)=aL at*;obtain⟨zK,iU⟩:=yH2 hHs sA;clear hHs sA;go_upto_block 2 with fail
      go_cut [12,14,15,16,18,19,71]from 72 (fun v12 _ _ _ _ _ _ W=>∃A n es,v12=.slice A HL.length n/\OwnS W (w.heap.size+1+1) 88 6 tmC v12 es/\es.map (·.1)=(zdc fr EF.1 aL EF.2).1/\(∀e∈es,TmOk W w.heap.size e)/\MarkAt W (w.heap.size+1) (zdc fr EF.1 aL EF.2).2/\Below w.heap.size w W/\W.heap[w.heap.size]?=some (.cells #[.int .i64 kd,.int .i64 dy,.string pl,.string fr,.slice B ts.length c,.int .i64 cl,.int .i64 yr] 69)/\OwnS W (w.heap.size+1+1) 73 1 ptrC (.slice HA HL.length hn) HL)
      case first=>
       go_wp2_with fail
       go_loopw [12,71] (fun v i wr=>∃(j:Nat) (es:List Tm),j<=HL.length/\i=.int .i64 j/\OwnS wr (w.heap.size+1+1) 88 6 tmC v es/\Hid (es.map (·.1)=(zdc fr EF.1 (aL.take j) EF.2).1)/\Hid (∀e∈es,TmOk wr w.heap.size e)/\MarkAt wr (w.heap.size+1) (zdc fr EF.1 (aL.take j) EF.2).2/\Below w.heap.size w wr/\wr.heap[w.heap.size]?=some (.cells #[.int .i64 kd,.int .i64 dy,.string pl,.string fr,.slice B ts.length c,.int .i64 cl,.int .i64 yr] 69)/\OwnS wr (w.heap.size+1+1) 73 1 ptrC (.slice HA HL.length hn) HL/\OwnS wr (w.heap.size+1+1) 64 3 zaa (.slice EA EF.1.length en) EF.1/\w.heap.size+1+1<=wr.heap.size) (fun _ i _=>HL.length-(intOf i).toNat)
       case atStart=>exact⟨0,[],Nat.zero_le _,rfl,OwnS.nil,rfl,fun e he=>by(cases he),nY.o,vg.o,zD.o,kO.o,uZ.o,by have:=S2.o;have:=hB.size;omega⟩
       case round=>
        obtain⟨j,es,hj,rfl,aa,kH,dr,hm,hF,hD,hO,hE,hsz⟩:=hrel;obtain⟨NA,nc,rfl,_,yj⟩:=aa.sl zof;have dQ:=nV.o;have sn:es.length=j:=by
         have h1:=congrArg List.length kH.o;rw[List.length_map,zk9,List.length_take]at h1;omega
        obtain⟨HN,HM,HF,gq,dV,ve⟩:=yH6 aa hm hF hD hO hE;obtain⟨-,-,-,e3⟩:=cF4 hD;have bx:=zab hD;by_cases ae:j<HL.length
        ·obtain⟨i,g,hi,g7,aG,Dn,fT⟩:=qH.o wr hF j ae;obtain⟨aW,hgh,bG⟩:=qE.o g (List.mem_of_getElem? Dn)
         obtain⟨cK,dD,Cm,sd,wu⟩:=(show Sl wr 1 ptrC HA HL from by
          obtain⟨A',c',e',h',_⟩:=hO.sl zcL;simp only[Value.slice.injEq]at e'
          rw[e'.1];exact h').at ae
         subst Cm;have i0:wr.cell? ⟨cK,dD+j,none⟩=some (.pointer (some ⟨HL[j],0,none⟩)):=by have:=wu 0 _ rfl;simpa using this
         have bw:=next_snoc fr EF.1 aL EF.2 (k:=j) Mcu;have xA:aL[j]' Mcu=g:=by
          have:=List.getElem?_eq_getElem (l:=aL) (i:=j) Mcu;rw[Dn]at this;exact(Option.some.inj this).symm
         rw[xA]at bw;have bT:=zHi bw;generalize HL[j]=T at*;obtain⟨H,aM,D,dc,frm,t1,t2,t3,t4,t5,t6,t7⟩:=fT;have ca:=zab t1;unfold zbw at t1;obtain⟨m0,m1,m2,m3,m4,m5⟩:=cF6 t1;obtain⟨dO,kS,cN⟩:=yH3 t1 t6 (fun W (hW:Below wr.heap.size wr W)=>zeG g.holders H g.holders.length aM W rfl Mcu (Ro.sl zam (t5.keep hW)));have CG:T≠wr.heap.size:=Mcu;have lm:w.heap.size≠wr.heap.size:=Mcu;have ar:(j:Int)<(HL.length:Int):=Mcu;have aT:(0:Int)<=(j:Int):=Mcu;have Jw:(HL.length:Int)<=(hn:Int):=by
          obtain⟨A',c',e',_,h'⟩:=hO.sl zcL;exact Mba
         generalize zdc fr EF.1 (aL.take j) EF.2=nx at*;obtain⟨lK,gu⟩:=yH2 dQ sn;clear dQ sn aa hm hF hD hO hE wu bw xA Dn aG g7 hi t1 t5 t6 t7 t2 t3 t4;go_upto_region 18 with fail
         have zY:Below wr.heap.size wr (wr.alloc (.cells #[.string g.place,.int .i64 g.cls,.int .i64 frm,.int .i64 g.fin,.slice H g.holders.length aM,.slice D g.died.length dc] 88)):=Bw;have At:(wr.alloc (.cells #[.string g.place,.int .i64 g.cls,.int .i64 frm,.int .i64 g.fin,.slice H g.holders.length aM,.slice D g.died.length dc] 88)).heap[wr.heap.size]?=some (.cells #[.string g.place,.int .i64 g.cls,.int .i64 frm,.int .i64 g.fin,.slice H g.holders.length aM,.slice D g.died.length dc] 88):=zaq _ _ _ rfl;have FK:(wr.alloc (.cells #[.string g.place,.int .i64 g.cls,.int .i64 frm,.int .i64 g.fin,.slice H g.holders.length aM,.slice D g.died.length dc] 88)).heap.size=wr.heap.size+1:=Mcx;generalize wr.alloc (.cells #[.string g.place,.int .i64 g.cls,.int .i64 frm,.int .i64 g.fin,.slice H g.holders.length aM,.slice D g.died.length dc] 88)=WA at*;have y4:=(zah (o:=4) zY ca).trans m4;obtain⟨BY,qm,jY⟩:=yH3 At zY FK;have bi:=cN.o WA zY;have nU:=zHi bi;clear At zY FK bi cN;have DZ:Below wr.heap.size wr WA:=qm.o;go_cut [83]from 78 to 124 (fun _ W=>∃A1 c1,zbw W wr.heap.size g.place g.cls frm g.fin (.slice A1 g.holders.length c1) (.slice D g.died.length dc)/\OwnS W wr.heap.size 64 3 zaa (.slice A1 g.holders.length c1) g.holders/\Below wr.heap.size wr W)
         case first=>
          clear qH qE dr kH HM lK gu bT HN ve dV gq HF kS dO kO uZ nY zD vg zK iU HO b8 HD lz aD jB pk S2 fO qu eA qC dI HW HT HP HC kP
          go_wp2_with (go_at_call 143
                       go_must(refine nU.o.mono ?_)
                       rintro e wq ⟨hv,rfl,o1,o2⟩;obtain⟨A1,c1,td,_,_⟩:=o1.sl zam;subst td;have x1:=(o2.block wr.heap.size (by have:=jY.o;omega)).trans BY.o;have x3:=zab x1;have x4:wq.frozen? ⟨wr.heap.size,4,none⟩=false:=(by simp only[World.frozen?,x1];rfl)
                       have x5:wq.cell? ⟨wr.heap.size,4,none⟩=some (.slice H g.holders.length aM):=(by simp only[World.cell?,x1];rfl)
                       obtain⟨X1,O1,O2⟩:=yH3 x1 o1 o2
                       clear x1 o1 o2)
          go_meet
          refine⟨A1,c1,zgn (show zbw wq wr.heap.size g.place g.cls frm g.fin (.slice H g.holders.length aM) (.slice D g.died.length dc) from X1.o) _,?_,zaM (qm.o.trans (O2.o.mono (by have:=jY.o;omega))) Mcx _⟩;refine OwnS.base_le (OwnS.grown O1.o (zav _ _ _ _) (.inr fun e=>?_)) (by have:=jY.o;omega);have:=(O1.o.ge _ e).1;have:=jY.o;omega
         case rest=>
          obtain⟨A1,c1,cz,ej,eD⟩:=hcut;have zd:=eD.size;have bR:=zab cz;have d3:wc.cell? ⟨w.heap.size,3,none⟩=some (.string fr):=(zah eD bx).trans e3;have q5:wc.cell? ⟨T,5,none⟩=some (.slice D g.died.length dc):=(zah eD ca).trans m5;have ee:=zHi (fun W (hW:Below wc.heap.size wc W)=>zhw g.died D g.died.length dc W rfl Mcu (Ro.sl za9 ((kS.o.keep eD).keep hW)));obtain⟨fj,jW,aw⟩:=yH3 cz ej eD;clear cz ej eD;go_upto_region 19 with fail
          go_cut [93]from 84 to 124 (fun _ W=>∃A2 c2,zbw W wr.heap.size g.place g.cls frm g.fin (.slice A1 g.holders.length c1) (.slice A2 (g.died.length+[fr].length) c2)/\OwnS W wr.heap.size 9 1 sC (.slice A2 (g.died.length+[fr].length) c2) (g.died++[fr])/\OwnS W wr.heap.size 64 3 zaa (.slice A1 g.holders.length c1) g.holders/\Below wr.heap.size wr W)
          case first=>
           clear qH qE dr kH HM lK gu bT HN ve dV gq HF kS dO kO uZ nY zD vg zK iU HO b8 HD lz aD jB pk S2 fO qu eA qC dI HW HT HP HC kP nU BY qm jY;refine wp_region_held_drew (S:=(fun w'=>w'.cell? ⟨w.heap.size,3,none⟩=some (.string fr)/\w'.cell? ⟨T,5,none⟩=some (.slice D g.died.length dc))) Mcv ?hS ?hrest
           case hS=>exact⟨d3,q5⟩
           case hrest=>
            intro hHeld;refine TkH 0 ?_;refine TkH 1 ?_;refine TkH 2 ?_;refine TkH 3 ?_;refine TkH 5 ?_;refine TkH 6 ?_;refine wpAnyH_ready (rs:=[4,7]) Mcv Mcx (AllReadyH.cons (List.getElem?_toArray.trans rfl) (fun K hK=>?_) (AllReadyH.cons (List.getElem?_toArray.trans rfl) (fun K hK=>?_) AllReadyH.nil))
            ·go_simp
             refine(ee.o _ Bw).mono ?_;rintro e w5 ⟨hv,rfl,o1,o2⟩;obtain⟨A5,c5,td,_,_⟩:=o1.sl za9;subst td;have z0:=o2.size;have z1:w.heap.size<w5.heap.size:=by simp at z0;omega
             have z2:T<w5.heap.size:=by simp at z0;omega
             have z3:w5.cell? ⟨w.heap.size,3,none⟩=some (.string fr):=(zah o2 Mcz).trans d3;have z5:w5.cell? ⟨T,5,none⟩=some (.slice D g.died.length dc):=(zah o2 Mcz).trans q5;refine NxM hK (fun hHeld=>?_) (⟨z3,z5⟩);clear hK K;refine OnH 7 fun K hK=>?_
             go_simp
             refine NxM hK (fun hHeld=>?_) (⟨(zah (zac (Below.refl _ _) _) z1).trans z3,(zah (zac (Below.refl _ _) _) z2).trans z5⟩);clear hK K;refine OnH 8 fun K hK=>?_
             have oK:Below wc.drew.heap.size wc.drew (w5.alloc (.cells #[.string fr] 9)):=(zac o2 _)
             refine zak (v:=.slice A5 g.died.length c5) (n:=g.died.length) (m:=1) rfl _ _ rfl zb9 za9 zb8 rfl (xs:=g.died) (ys:=[fr]) (o1.keep (n:=w5.heap.size) Bw) rfl rfl rfl (zcC (zaq w5 _ _ Mcx)) McP Mcu (by have:=z0;simp at this⊢;omega) ?_;exact Mt
            ·go_simp
             have pE:Below wc.heap.size wc (wc.drew.alloc (.cells #[.string fr] 9)):=zac (zaE (Below.refl _ _)) _;refine NxM hK (fun hHeld=>?_) (⟨(zah pE Mcu).trans d3,(zah pE Mcu).trans q5⟩);clear hK K;refine OnH 4 fun K hK=>?_
             go_simp
             have D3:=d3;have Q5:=q5;have d3:=(zah pE Mcu).trans D3;have q5:=(zah pE Mcu).trans Q5;refine(ee.o _ Bw).mono ?_;rintro e w5 ⟨hv,rfl,o1,o2⟩;obtain⟨A5,c5,td,_,_⟩:=o1.sl za9;subst td;have z0:=o2.size;have z1:w.heap.size<w5.heap.size:=by simp at z0;omega
             have z2:T<w5.heap.size:=by simp at z0;omega
             have z3:w5.cell? ⟨w.heap.size,3,none⟩=some (.string fr):=(zah o2 Mcz).trans d3;have z5:w5.cell? ⟨T,5,none⟩=some (.slice D g.died.length dc):=(zah o2 Mcz).trans q5;have d3:=D3;have q5:=Q5;have rp:=pE.trans (o2.mono Mcx);have JK:=(o2.block wc.heap.size Mcx).trans (zaq wc.drew _ _ rfl);refine NxM hK (fun hHeld=>?_) (⟨z3,z5⟩);clear hK K;refine OnH 8 fun K hK=>?_
             have oK:Below wc.drew.heap.size wc.drew (w5):=⟨rp.os,rp.tape,rp.output,rp.size,rp.block⟩
             refine zak (v:=.slice A5 g.died.length c5) (n:=g.died.length) (m:=1) rfl _ _ rfl zb9 za9 zb8 rfl (xs:=g.died) (ys:=[fr]) (o1.keep (n:=w5.heap.size) Bw) rfl rfl rfl (zcC JK) McP Mcu (by have:=z0;simp at this⊢;omega) ?_;exact Mt
          case rest=>
           obtain⟨A2,c2,cz,jm,ej,eD⟩:=hcut;obtain⟨W3,rfl⟩:∃x,x=wc:=⟨_,rfl⟩
           obtain⟨WR,rfl⟩:∃x,x=wr:=⟨_,rfl⟩
           have zd:=eD.size;have bR:=zab cz;have d3:W3.cell? ⟨w.heap.size,3,none⟩=some (.string fr):=(zah eD bx).trans e3;have zr:W3.cell? ⟨WR.heap.size,4,none⟩=some (.slice A1 g.holders.length c1):=Mdf;obtain⟨iO,iA,li,dt⟩:=death_bd (n:=fr) (hs:=EF.1) aW qu.o;have kC:∀W,Below W3.heap.size W3 W->_:=fun W hB=>zdz g.holders A1 c1 WR.heap.size fr W ((zah hB bR).trans zr) (Nat.lt_of_lt_of_le bR hB.size) Mcu aW.good.asc (Ro.sl zam (ej.ro'.keep hB))
           have iE:∀W,zbw W WR.heap.size g.place g.cls frm g.fin (.slice A1 g.holders.length c1) (.slice A2 (g.died.length+[fr].length) c2)->OwnS W WR.heap.size 64 3 zaa (.slice A1 g.holders.length c1) g.holders->Calls Tryz.prog 141 #[.pointer (some ⟨WR.heap.size,0,none⟩),.string fr,.agg #[.int .i64 0,.int .i64 1]] W (zks W WR.heap.size WR.heap.size g.place g.cls frm g.fin (.slice A2 (g.died.length+[fr].length) c2) (.slice A1 g.holders.length c1) (setP g.holders fr 0)):=fun W h1 h2=>ziu WR.heap.size WR.heap.size g.holders _ g.place g.cls frm g.fin _ fr 0 W h1 (Nat.le_refl _) h2 aW.good.asc Mcu
           obtain⟨own,aa⟩:∃own,own=zaf g.holders fr:=⟨_,rfl⟩
           rw[<-aa]at kC iO iA li dt;obtain⟨gz,gx,dp,dN,fj,jW,gn,aw⟩:=yH8 kC iE dt aa cz ej jm eD;clear kC iE dt aa cz ej jm eD zr;unfold zaA at gz
           go_upto_region 22 with(first
            |(go_at_call 25
              go_must(refine(gz.o _ Bw).mono ?_)
              rintro e wq ⟨rfl,z,hz⟩;have cM:Below W3.heap.size W3 wq:=(by rw[hz];exact Bw)
              have d3q:=(zah cM (show w.heap.size<W3.heap.size by omega)).trans d3;have dlq:=cM.size;have cG:w.heap.size<wq.heap.size:=Mcu;have jF:=zHi cM
              clear hz cM)
            |(go_at_call 141
              go_must(refine(gx.o _ ?q1 ?q2).mono ?_)
              case q1=>exact zal ((jF.o.block _ bR).trans fj.o)
              case q2=>exact jW.o.keep (n:=W3.heap.size) (zac jF.o _)
              rintro e wz ⟨rfl,v',t1,t2,t3,t4⟩;obtain⟨T1,T2,T3,T4⟩:=yH4 t1 t2 t3 t4
              clear t1 t2 t3 t4))
           have eS:Below WR.heap.size WR wz:=(aw.o.trans ((zac jF.o _).mono Mcu)).trans T3.o;have zw:=eS.size;have wU:(wq.alloc (zbv own)).heap[WR.heap.size]?=some (.cells #[.string g.place,.int .i64 g.cls,.int .i64 frm,.int .i64 g.fin,.slice A1 g.holders.length c1,.slice A2 (g.died.length+[fr].length) c2] 88):=zal ((jF.o.block _ bR).trans fj.o);have wI:=jW.o.keep (n:=W3.heap.size) (zac jF.o (zbv own));have wj:=gn.o.keep (n:=W3.heap.size) (zac jF.o (zbv own));have ck:∀(j:Nat) (cur:Array Value) (t:TypeId) (f:Nat×Nat),(wq.alloc (zbv own)).heap[j]?=some (.cells cur t f)->t≠88->t≠64->wz.heap[j]?=(wq.alloc (zbv own)).heap[j]?:=fun j cur t f hj n1 n2=>
            T4.o j (zab hj) (fun e=>by rw[e,wU]at hj;simp only[Option.some.injEq,Obj.cells.injEq]at hj;exact n1 hj.2.1.symm) (zkF wI hj n2)
           have Fd:OwnS wz WR.heap.size 9 1 sC (.slice A2 (g.died.length+[fr].length) c2) (g.died++[fr]):=wj.same (fun j cur _ hj=>ck j cur _ _ hj Mcw Mcw);have Ag:wz.heap[wq.heap.size]?=some (zbv own):=(ck _ _ _ _ (zaq wq (zbv own) _ rfl) Mcw Mcw).trans (zaq wq (zbv own) _ rfl);have Fx:MarkAt wz (w.heap.size+1) nx.2:=HM.o.keep eS (zab HM.o);have sB:WR.grownBy wz (some (w.heap.size+1)):=⟨eS.os,eS.tape,eS.output,eS.size,fun k hk _=>eS.block k hk⟩
           have xU:=ziy (n:=fr) (q:=0) (l:=g.holders);have JN:WR.heap.size<wq.heap.size:=by have:=jF.o.size;omega
           have fJ:=zab HM.o;obtain⟨O,hO⟩:∃O,O=wq.heap.size:=⟨_,rfl⟩
           rw[<-hO]at Ag JN⊢;have hOz:=zab Ag;obtain⟨eu,uW,vj,Bt,vn,pj⟩:=yH6 eS Fd Ag Fx sB xU;clear eS Fd Ag Fx sB ck wU wI wj xU d3q dlq hO d3 jF T3 T4 gz gx cG;go_upto_block 4 with fail
           go_cut [18,19,103]from 104 to 124 (fun _ _ _ W=>∃v out fl,Hid ((out,fl)=zd6 fr EF.1 g nx.2)/\MarkAt W (w.heap.size+1) fl/\zbw W WR.heap.size g.place g.cls frm g.fin v (.slice A2 (g.died.length+[fr].length) c2)/\OwnS W WR.heap.size 64 3 zaa v out/\OwnS W WR.heap.size 9 1 sC (.slice A2 (g.died.length+[fr].length) c2) (g.died++[fr])/\WR.grownBy W (some (w.heap.size+1)))
           case first=>
            clear kP HC HP HT HW dI qC eA c0 c6 aD pk S2 aY b8 aI HE uZ nY vg jL lz HZ qE nV zK iU HO kO ar aT Jw kH lK gu y4 nU d3 q5 dr HN HF e3 i0 m0 m1 m2 m3 m4 m5 kS CG lm qm jY DZ gn aw dV wQ;go_wp2_with fail
            go_loopw [103] (fun i W=>∃(k:Nat) (v:Value) (out:Parts) (fl:Bool),k<=EF.1.length/\i=.int .i64 k/\Hid ((out,fl)=zem own (EF.1.take k) (setP g.holders fr 0,nx.2))/\Hid (out.length<=g.holders.length+1+k)/\MarkAt W (w.heap.size+1) fl/\zbw W WR.heap.size g.place g.cls frm g.fin v (.slice A2 (g.died.length+[fr].length) c2)/\OwnS W WR.heap.size 64 3 zaa v out/\OwnS W WR.heap.size 9 1 sC (.slice A2 (g.died.length+[fr].length) c2) (g.died++[fr])/\WR.grownBy W (some (w.heap.size+1))/\W.heap[O]?=some (zbv own)) (fun i _=>EF.1.length-(intOf i).toNat)
            case atStart=>exact⟨0,v',setP g.holders fr 0,nx.2,Nat.zero_le _,rfl,rfl,pj.o,Bt.o,T1.o,T2.o,uW.o,vn.o,vj.o⟩
            case round=>
             obtain⟨k,v,out,fl,hk,rfl,om,dM,hm,cz,ej,jm,dB,km⟩:=hrel;clear pj Bt T1 T2 uW vn vj eu;obtain⟨A3,c3,rfl,rD,mw⟩:=ej.sl zam;have dt:Bd out 1:=by have:=dp.o nx.2 k;rw[<-om.o]at this;exact this
             have Ac:=ve.o.grown dB (.inr fun e=>by have:=(ve.o.ge _ e).1;omega);have tk:=zab cz;have wG:=zab km;have L5:=zab hm;have zr:wr.cell? ⟨WR.heap.size,4,none⟩=some (.slice A3 out.length c3):=Mdf;obtain⟨HD,Ey,ra,ie,qs,ew,tE,IL⟩:=yH8 dt hm cz ej jm dB km rD;have HE3:=zHi Ac;clear dt hm cz ej jm km rD dB;by_cases mL:k<EF.1.length
             ·obtain⟨b',off,rfl,cK,hc⟩:=(Ac.sl' zam).at mL;obtain⟨iQ,iB,cS⟩:=zdO qu.o (List.getElem_mem mL);have aL:=zoU own EF.1 (setP g.holders fr 0,nx.2) mL;rw[<-om.o]at aL;have uh:EF.1.length<=en:=by
               obtain⟨A',c',e',_,h'⟩:=Ac.sl zam;exact Mba
              generalize EF.1[k]=p at*;obtain⟨pn,q⟩:=p;simp only at iQ iB cS;have i0:wr.cell? ⟨b',off+k*3,none⟩=some (.string pn):=hc 0 _ rfl;have i1:wr.cell? ⟨b',off+k*3+1,none⟩=some (.int .i64 q.num):=hc 1 _ rfl;have i2:wr.cell? ⟨b',off+k*3+2,none⟩=some (.int .i64 q.den):=hc 2 _ rfl;have o0:wr.cell? ⟨O,0,none⟩=some (.int .i64 own.num):=by simp only[World.cell?,tE.o,zbv];rfl
              have o1:wr.cell? ⟨O,1,none⟩=some (.int .i64 own.den):=by simp only[World.cell?,tE.o,zbv];rfl
              have xB:zaJ (zbj (own*q)):=zcd (zcy (Rat.mul_nonneg iO (Rat.le_of_lt iQ))) (Rat.le_trans (zha (Rat.mul_nonneg iO (Rat.le_of_lt iQ))) (zjI iO li (Rat.le_of_lt iQ) iB)) (zgq _);obtain⟨dI,Bf,qL⟩:=yH3 aL xB mL;have p9:wrap64 ((k:Int)+1)=(k:Int)+1:=by
               have:=eL.o;unfold wrap64;omega
              have BU:=zHi p9;clear p9;have yh:∀W,MarkAt W (w.heap.size+1) fl->Calls Tryz.prog 144 #[.pointer (some ⟨w.heap.size+1,0,none⟩),.agg #[.int .i64 own.num,.int .i64 own.den],.agg #[.int .i64 q.num,.int .i64 q.den]] W (zeH W (w.heap.size+1) fl (own*q)):=fun W h=>zhL (w.heap.size+1) fl W h own q iA cS
              have Br:=zHi yh;have xM:(k:Int)<(EF.1.length:Int):=Mcu;have KO:(0:Int)<=(k:Int):=Mcu;have KR:(k:Int)<=(en:Int):=Mcu;have FD:O≠wr.heap.size:=Mcu;have ur:out.length<=90000:=by have:=dM.o;have:=eL.o;omega
              have us:w.heap.size+1≠wr.heap.size:=Mcu;clear hc aL xB iQ iB yh uh Ac
              go_wp2_with (go_at_call 144
                           go_must(refine(Br.o _ (Ey.o.alloc _)).mono ?_)
                           rintro e wq ⟨rfl,m1,m2⟩;have jz:=m2.size;have y0:wq.heap[wr.heap.size]?=some (.cells #[.string pn,.int .i64 q.num,.int .i64 q.den] 64):=(m2.block _ Mcx Mcz).trans (zaq _ _ _ rfl);have y1:wq.cell? ⟨wr.heap.size,0,none⟩=some (.string pn):=(by simp only[World.cell?,y0];rfl)
                           have y3:wr.heap.size<wq.heap.size:=zab y0;obtain⟨M1,M2⟩:=yH2 m1 m2;clear m1 m2 y0
                           simp only[zaA])
              have wE:OwnS wq WR.heap.size 64 3 zaa (.slice A3 out.length c3) out:=OwnS.grown (W:=wr.alloc _) (ie.o.keep (n:=wr.heap.size) (zac (Below.refl _ _) _)) M2.o (.inr fun e=>by have:=(ie.o.ge _ e).1;omega);have mh:zbw wq WR.heap.size g.place g.cls frm g.fin (.slice A3 out.length c3) (.slice A2 (g.died.length+[fr].length) c2):=(M2.o.block _ Mcz Mcz).trans (zal ra.o);have Ed:wq.cell? ⟨WR.heap.size,4,none⟩=some (.slice A3 out.length c3):=by unfold zbw at mh;simp only[World.cell?,mh];rfl
              have bn:WR.heap.size<wq.heap.size:=zab mh;obtain⟨OQ,TQ⟩:=yH2 wE mh;have mY:zaJ (zaf out pn):=HD.o.share Rat.le_refl pn;generalize eE:zbj (own*q)=gt at*;generalize hsv2:zaf out pn=sv at*;obtain⟨vm,vS,eN⟩:=yH3 eE hsv2 mY;have LH:wr.heap.size≠wq.heap.size:=Mcu;have Hg:WR.heap.size≠wq.heap.size:=Mcu;clear wE mh mY eE hsv2 i0 i1 i2 o0 o1;go_region_held3 (fun w'=>w'.cell? ⟨wr.heap.size,0,none⟩=some (.string pn)/\w'.cell? ⟨wq.heap.size,0,none⟩=some (.int .i64 gt.num)/\w'.cell? ⟨wq.heap.size,1,none⟩=some (.int .i64 gt.den))
               ((refine⟨?_,?_,?_⟩<;>first|assumption|(simp[go_sem,y1,y3];done)))
               (first
                 |(go_at_call 25
                   go_loud(refine(zdz out A3 c3 WR.heap.size pn _ ?q1 ?q2 Mcu HD.o.good.asc (Sl.keep (OQ.o.sl' zam) (n:=wq.heap.size) Bw)).mono ?_)
                   case q1=>simp[go_sem,Ed,bn]
                   case q2=>simp;omega
                   rintro e w5 ⟨rfl,zs,rfl⟩;rw[vS.o]
                   simp only[zaA])
                 |(go_at_call 145
                   go_loud(refine(zhM (w.heap.size+1) (fl||bigQ (own*q)) _ ?q3 sv gt eN.o Bf.o).mono ?_)
                   case q3=>(repeat(first|exact M1.o|refine MarkAt.ext ?_ _|refine MarkAt.drew ?_|refine MarkAt.alloc ?_ _))
                   rintro e w6 ⟨rfl,n1,n2⟩;have p3:w6.cell? ⟨wr.heap.size,0,none⟩=some (.string pn):=MdC;have p0:w6.cell? ⟨wq.heap.size,0,none⟩=some (.int .i64 gt.num):=Mc7;have p1:w6.cell? ⟨wq.heap.size,1,none⟩=some (.int .i64 gt.den):=Mc7;obtain⟨N1,N2⟩:=yH2 n1 n2;clear n1 n2
                   simp only[zaA])
                 |(go_at_call 141
                   go_loud(refine(ziu WR.heap.size WR.heap.size out (.slice A3 out.length c3) g.place g.cls frm g.fin (.slice A2 (g.died.length+[fr].length) c2) pn (zbj (sv+gt)) _ ?q4 (Nat.le_refl _) ?q5 HD.o.good.asc ur).mono ?_)
                   case q4=>exact(N2.o.block _ McD Mcz).trans Mdu
                   case q5=>exact OwnS.grown (OQ.o.keep (n:=wq.heap.size) Bw) N2.o (.inr fun e=>by have:=(OQ.o.ge _ e).1;omega)
                   rintro e wz ⟨rfl,v',t1,t2,t3,t4⟩;have s3:wz.cell? ⟨wr.heap.size,0,none⟩=some (.string pn):=(World.cell?_of_block (w:=w6) (t4 wr.heap.size Mc2 Mcu (fun e=>by have:=(ie.o.ge _ e).2;omega))).trans p3;have s0:wz.cell? ⟨wq.heap.size,0,none⟩=some (.int .i64 gt.num):=(World.cell?_of_block (w:=w6) (t4 wq.heap.size Mc2 Mcu (fun e=>by have:=(ie.o.ge _ e).2;omega))).trans p0;have s1:wz.cell? ⟨wq.heap.size,1,none⟩=some (.int .i64 gt.den):=(World.cell?_of_block (w:=w6) (t4 wq.heap.size Mc2 Mcu (fun e=>by have:=(ie.o.ge _ e).2;omega))).trans p1;obtain⟨T1,T2,T3,T4⟩:=yH4 t1 t2 t3 t4
                   clear t1 t2 t3 t4))
              have Bb:Hid (zfh own (pn,q) (out,fl)=(setP out pn (zbj (sv+gt)),fl||bigQ (own*q)||bigQ (sv+gt))):=by
               show _=_;unfold zfh;simp only[vm.o,vS.o]
              have cx:MarkAt wz (w.heap.size+1) (fl||bigQ (own*q)||bigQ (sv+gt)):=N1.o.keep T3.o Mcu;have iz:=ziy (n:=pn) (q:=zbj (sv+gt)) (l:=out);have h6:wr.grownBy w6 (some (w.heap.size+1)):=zbq (zjP (zac (Below.refl wr.heap.size wr) _) (Nat.le_refl _) M2.o) (zjP (n:=wq.heap.size) (W:=((wq.alloc (zbv gt)).drew).ext zs) Bw (Nat.le_refl _) N2.o);have iD:=h6.size;have GZ:w6.heap[WR.heap.size]?=some (.cells #[.string g.place,.int .i64 g.cls,.int .i64 frm,.int .i64 g.fin,.slice A3 out.length c3,.slice A2 (g.died.length+[fr].length) c2] 88):=(h6.block _ tk Mcz).trans ra.o;have pZ:OwnS w6 WR.heap.size 64 3 zaa (.slice A3 out.length c3) out:=ie.o.grown h6 (.inr fun e=>by have:=(ie.o.ge _ e).1;omega);have FY:=qs.o.grown h6 (.inr fun e=>by have:=(qs.o.ge _ e).1;omega);have Df:w6.heap[O]?=some (zbv own):=(h6.block O wG Mcz).trans tE.o;have ck:∀(j:Nat) (cur:Array Value) (t:TypeId) (f:Nat×Nat),w6.heap[j]?=some (.cells cur t f)->t≠88->t≠64->wz.heap[j]?=w6.heap[j]?:=fun j cur t f hj n1 n2=>
               T4.o j (zab hj) (fun e=>by rw[e,GZ]at hj;simp only[Option.some.injEq,Obj.cells.injEq]at hj;exact n1 hj.2.1.symm) (zkF pZ hj n2)
              have Ga:=FY.same (W':=wz) (fun j cur _ hj=>ck j cur _ _ hj Mcw Mcw);have Di:wz.heap[O]?=some (zbv own):=(ck _ _ _ _ Df Mcw Mcw).trans Df;have sB:WR.grownBy wz (some (w.heap.size+1)):=zoV (zbq ew.o h6) T3.o (Nat.le_refl _);obtain⟨Bv,gw,uW,vj,vn⟩:=yH5 cx iz Ga Di sB;clear cx iz h6 GZ pZ FY Df ck Ga Di sB p3 p0 p1 s3 s0 s1 y1;go_wp2_with fail
              go_round
              case rel=>
               have hel:=eL.o;have mL:=qL.o;have pO:=Bb.o.symm.trans dI.o.symm;have mM:(setP out pn (zbj (sv+gt))).length<=g.holders.length+1+(k+1):=by have:=gw.o;have:=dM.o;omega
               exact⟨k+1,v',setP out pn (zbj (sv+gt)),_,qL.o,by rw[BU.o];rfl,pO,mM,Bv.o,T1.o,T2.o,uW.o,vn.o,vj.o⟩
              case measure=>rw[BU.o];have:=qL.o;simp only[intOf];omega
             ·have ar:¬(k:Int)<(EF.1.length:Int):=Mcu;have jN:(out,fl)=zd6 fr EF.1 g nx.2:=by
               rw[om.o,List.take_of_length_le Mcu];unfold zd6;rw[<-dN.o]
              have zS:=zHi jN;clear jN om dp;go_wp2_with fail
              go_meet
              exact⟨_,out,fl,zS.o,Ey.o,ra.o,ie.o,qs.o,ew.o⟩
           case rest=>
            obtain⟨v9,out,fl,zS,hm,cz,ej,jm,dB⟩:=hcut;obtain⟨W4,rfl⟩:∃x,x=wc:=⟨_,rfl⟩
            obtain⟨A3,c3,rfl,_,mw⟩:=ej.sl zam;have nH:(g.died++[fr]).length<=c2:=by
             obtain⟨A',c',e',_,h'⟩:=jm.sl za9;exact Mba
            have su:=dB.size;have jv:=cz;unfold zbw at jv;obtain⟨m0,m1,m2,m3,m4,m5⟩:=cF6 jv;obtain⟨E,hE⟩:∃E:Tm,E=(⟨g.place,g.cls,g.fin,out,g.died++[fr]⟩,frm,(A3,c3),(A2,c2)):=⟨_,rfl⟩
            have Ff:(tmC E).toArray= #[.string g.place,.int .i64 g.cls,.int .i64 frm,.int .i64 g.fin,.slice A3 out.length c3,.slice A2 (g.died.length+[fr].length) c2]:=by rw[hE];simp[tmC]
            have Fy:=HN.o.grown dB (.inr fun e=>by have:=(HN.o.ge _ e).1;omega);have De:es.length<=1000:=by have:=gu.o;omega
            obtain⟨By,Ib,Eo,EC,BD,uU,Er,I7⟩:=yH8 Fy Ff hE hm ej jm dB nH;clear Fy Ff hE hm cz ej jm dB jv dp pj uW vj Bt vn eu T1 T2 fj jW gn aw d3 q5 nU BY qm jY nH;go_upto_region 28 with fail
            go_wp2_with (at_builtin
                         go_loud(refine zat (v:=.slice NA es.length nc) (n:=es.length) (m:=1) rfl _ _ rfl elTm zof tm_one rfl (xs:=es) (ys:=[E]) (By.o.keep (n:=W4.heap.size) Bw) rfl rfl rfl (sl_tm (by rw[Ib.o];exact zaq _ _ _ Mcx)) McP Mcu Mcz ?_)
                         intro v5 w5 h1 h2 h3;obtain⟨H1,H2⟩:=yH2 h1 h2
                         clear h1 h2 h3)
            have p9:wrap64 ((j:Int)+1)=(j:Int)+1:=by
             unfold wrap64;omega
            obtain⟨BU,am⟩:=yH2 p9 ae;clear p9;go_wp2_with fail
            go_round
            case rel=>
             have DW:=H2.o.size;simp only[World.size_alloc]at DW;have JM:=By.o;have Gx:=HM.o;unfold MarkAt at Gx;have KP:∀(k:Nat) (cur:Array Value) (t:TypeId) (f:Nat×Nat),WR.heap[k]?=some (.cells cur t f)->t≠190->W4.heap[k]?=WR.heap[k]?:=fun k cur t f hk n1=>
              Er.o.block k (zab hk) (fun e=>by
               simp only[Option.some.injEq]at e;rw[e,Gx]at hk;simp only[Option.some.injEq,Obj.cells.injEq]at hk
               exact n1 hk.2.1.symm)
             have AC:∀(k:Nat) (cur:Array Value) (t:TypeId) (f:Nat×Nat),W4.heap[k]?=some (.cells cur t f)->t≠88->w5.heap[k]?=W4.heap[k]?:=fun k cur t f hk n1=>by
              have hl:=zab hk;have a1:=H2.o.block k Mcz (fun e=>zkF JM hk n1 e.symm);exact a1.trans (Below.heap_alloc _ _ _ hl)
             have fY:∀(k:Nat) (cur:Array Value) (t:TypeId) (f:Nat×Nat),WR.heap[k]?=some (.cells cur t f)->t≠190->t≠88->w5.heap[k]?=WR.heap[k]?:=fun k cur t f hk n1 n2=>by
              have a1:=KP k cur t f hk n1;exact(AC k cur t f (a1.trans hk) n2).trans a1
             have CV:Below w.heap.size w w5:=Below.grown (a:=w) (B:=w.heap.size) (zac (zaU HF.o Er.o Mcu) _ Mcu) H2.o Mcz (fun k hk=>by have:=(By.o.ge k hk).1;omega);refine⟨j+1,es++[E],am.o,by go_num,H1.o,?_,?_,?_,CV,?_,?_,?_,by omega⟩
             ·show _=_;rw[bT.o,<-zS.o,List.map_append,kH.o,Eo.o];rfl
             ·show∀e∈es++[E],TmOk w5 w.heap.size e;intro e he;rcases List.mem_append.1 he with he|he
              ·refine(dr.o e he).same fun k cur t f hk ht=>fY k cur t f hk ?_ ?_
               ·rcases ht with rfl|rfl<;>decide
               ·rcases ht with rfl|rfl<;>decide
              ·rw[List.mem_singleton.1 he,Eo.o];refine⟨BD.o.ro'.same fun k cur f hk _=>AC k cur _ f hk Mcw,mw,uU.o.ro'.same fun k cur f hk _=>AC k cur _ f hk Mcw,I7.o,fun a ha=>?_⟩;have ha:A2=some a:=ha;have:=(uU.o.ge a.block (by rw[ha];rfl)).1;omega
             ·rw[bT.o,<-zS.o];exact(AC _ _ _ _ EC.o Mcw).trans EC.o
             ·exact(fY _ _ _ _ gq.o Mcw Mcw).trans gq.o
             ·exact dV.o.same fun k cur _ hk=>fY k cur _ _ hk Mcw Mcw
             ·exact ve.o.same fun k cur _ hk=>fY k cur _ _ hk Mcw Mcw
            case measure=>have:=am.o;simp only[intOf];omega
        ·have ar:¬(j:Int)<(HL.length:Int):=Mcu;have cQ:aL.take j=aL:=List.take_of_length_le Mcu;have Gc:es.length=HL.length:=Mcu;rw[cQ]at kH HM;have Id:=zHi Gc;clear cQ Gc sn aa hm hF hD hO hE dQ;go_wp2_with fail
         go_meet
         exact⟨NA,nc,es,by rw[Id.o],HN.o,kH.o,dr.o,HM.o,HF.o,gq.o,dV.o⟩
      case rest=>
       obtain⟨NA,nn,es,rfl,jt,jn,bv,hm,hF,hD,hO⟩:=hcut;obtain⟨W6,rfl⟩:∃x,x=wc:=⟨_,rfl⟩
       have yU:=zfU fr dy EF.1 s.graves [] EF.2;have bi:W6.cell? ⟨w.heap.size+1,0,none⟩=some (.bool (zdc fr EF.1 aL EF.2).2):=(zbW hm).1;have L6:=zab hm;have xx:es.length=HL.length:=by
        have h1:=congrArg List.length jn;rw[List.length_map,zk9]at h1;have:=nV.o;omega
       have mj:s.graves.any (zcf fr dy)=true:=by
        cases hc:s.graves.any (zcf fr dy)
        ·have h1:=iU.o;rw[List.filter_eq_nil_iff.2 (fun x hx=>by have:=List.any_eq_false.1 hc x hx;simpa using this)]at h1;have:=nV.o;rw[<-h1]at this;exact absurd this HZ.o
        ·rfl
       rw[List.nil_append,List.nil_append,List.length_nil,iU.o]at yU;have hX:=HX.o;rw[mj,<-yU.1,<-yU.2,<-jn]at hX;simp only[Bool.false_eq_true,if_false,if_true]at hX;have eQ:=zHi hX;generalize(zdc fr EF.1 aL EF.2).2=fl at*;obtain⟨kH,gu,dr,qx,I6,lQ,EG,vp⟩:=yH8 jn xx bv hF hD hO jt (fun j hj=>qH.o w (Below.refl _ _) j hj);have vl:Hid ((s.graves.filter (zcf fr dy)).length=HL.length):=by show _=_;rw[iU.o,nV.o]
       clear yU mj hX jn bv hm hF hD hO jt xx HX qH lz HM b8 HO HD kO uZ nY zD vg qE qu eL HE zK iU;cases fl
       ·have rO:=eQ.o;simp only[Bool.false_eq_true,if_false]at rO;have jZ:=zHi rO;clear rO eQ;have iD:=qx.o.size;have B9:∃HI,HI=zbf fr dy 0 s.graves:=⟨_,rfl⟩
        obtain⟨HI,Ck⟩:=B9;rw[<-Ck]at jZ vp;have ko:HI.length=HL.length:=by
         rw[Ck,zf8,vl.o]
        have i8:HL.length<=nn:=by
         obtain⟨A',c',e',_,h'⟩:=EG.o.sl zof;simp only[Value.slice.injEq]at e';have:=gu.o;omega
        have pS:HL.length<=hn:=by
         obtain⟨A',c',e',_,h'⟩:=lQ.o.sl zcL;exact Mba
        obtain⟨zJ,II,vo⟩:=yH3 ko i8 pS;clear Ck ko i8 pS vl;go_wp2_with fail
        go_loopw [129] (fun i wr=>∃j:Nat,j<=HL.length/\i=.int .i64 j/\Hid (WldC wr b dd cc pp wl rr mv (.slice TA ps.length tc) la co)/\Hid (PplAt base wr Bk dd cc pp wl rr mv s)/\Hid (TombsAt base wr Bk (.slice TA ps.length tc) ps (zd7 s.graves (HI.take j) ((es.map (·.1)).take j)))/\Hid (Below base w wr)/\wr.heap[w.heap.size]?=some (.cells #[.int .i64 kd,.int .i64 dy,.string pl,.string fr,.slice B ts.length c,.int .i64 cl,.int .i64 yr] 69)/\Hid (KeepD w wr)/\OwnS wr (w.heap.size+1+1) 73 1 ptrC (.slice HA HL.length hn) HL/\OwnS wr (w.heap.size+1+1) 88 6 tmC (.slice NA HL.length nn) es/\Hid (∀e∈es,TmOk wr w.heap.size e)/\w.heap.size<=wr.heap.size) (fun i _=>HL.length-(intOf i).toNat)
        case atStart=>exact⟨0,Nat.zero_le _,rfl,HC.o.keep qx.o,HP.o.keep qx.o,HT.o.keep qx.o,qx.o.mono Mcu,I6.o,KeepD.below qx.o,lQ.o,by rw[<-gu.o]at*;exact EG.o,dr.o,iD⟩
        case round=>
         obtain⟨j,hj,rfl,Em,pw,nz,bS,Cc,vt,Ak,wC,vF,kx⟩:=hrel;obtain⟨AY,vE,EI⟩:=yH3 Cc Ak wC;by_cases ae:j<HL.length
         ·have oP:j<es.length:=by have:=gu.o;omega
          obtain⟨i,g,hi,g7,aG,_,fT⟩:=vp.o j ae;have FN:HL[j]<w.heap.size:=by obtain⟨_,_,_,_,_,t1,_⟩:=fT;exact zab t1
          obtain⟨cK,dD,Cm,sd,wu⟩:=(Ak.sl' zcL).at ae;subst Cm;have i0:wr.cell? ⟨cK,dD+j,none⟩=some (.pointer (some ⟨HL[j],0,none⟩)):=by have:=wu 0 _ rfl;simpa using this
          obtain⟨nb,noff,JL,oR,rC⟩:=(wC.sl' zof).at oP;subst JL;have bv:=vF.o es[j] (List.getElem_mem oP);have eF:i<(zd7 s.graves (HI.take j) ((es.map (·.1)).take j)).length:=by rw[zjN];exact(List.getElem?_eq_some_iff.1 aG).1
          obtain⟨H,aM,D,dc,frm,t1,t2,_⟩:=nz.o.all i _ _ g7 (List.getElem?_eq_getElem eF);have bw:zd7 s.graves (HI.take (j+1)) ((es.map (·.1)).take (j+1))=(zd7 s.graves (HI.take j) ((es.map (·.1)).take j)).set i es[j].1:=by
           have Gj:j<HI.length:=by have:=zJ.o;omega
           have KL:j<(es.map (·.1)).length:=by rw[List.length_map];exact oP
           have Jz:HI[j]=i:=by
            rw[List.getElem?_eq_getElem Gj]at hi;exact Option.some.inj hi
           rw[List.take_succ_eq_append_getElem Gj,List.take_succ_eq_append_getElem KL,List.getElem_map,Jz];exact ziK _ _ _ _ _ (by rw[List.length_take,List.length_take];omega)
          obtain⟨bT,qO,lR⟩:=yH3 bw g7 bv;generalize HL[j]=T at*;generalize hE:es[j]=E at*;obtain⟨⟨gp,gc,gf,gh,gd⟩,efr,⟨EH,ehc⟩,⟨ED,edc⟩⟩:=E;have n0:wr.cell? ⟨nb,noff+j*6,none⟩=some (.string gp):=rC 0 _ rfl;have n1:wr.cell? ⟨nb,noff+j*6+1,none⟩=some (.int .i64 gc):=rC 1 _ rfl;have n2:wr.cell? ⟨nb,noff+j*6+2,none⟩=some (.int .i64 efr):=rC 2 _ rfl;have n3:wr.cell? ⟨nb,noff+j*6+3,none⟩=some (.int .i64 gf):=rC 3 _ rfl;have n4:wr.cell? ⟨nb,noff+j*6+4,none⟩=some (.slice EH gh.length ehc):=rC 4 _ rfl;have n5:wr.cell? ⟨nb,noff+j*6+5,none⟩=some (.slice ED gd.length edc):=rC 5 _ rfl;have ca:=zab t1;have dO:=zHi t1;unfold zbw at t1;generalize aW:(zd7 s.graves (HI.take j) ((es.map (·.1)).take j))[i]=gg at*;obtain⟨z0,z1,z2,z3,z4,z5⟩:=cF6 t1;have fz:∀j,wr.frozen? ⟨T,j,none⟩=false:=fun j=>by simp only[World.frozen?,t1];rfl
          have ar:(j:Int)<(HL.length:Int):=Mcu;have aT:(0:Int)<=(j:Int):=Mcu;have hkh:(j:Int)<=(hn:Int):=by have:=vo.o;omega
          have jq:(j:Int)<=(nn:Int):=by have:=II.o;omega
          have hnT:nb≠T:=by
           have:=(wC.ge nb rfl).1;omega
          obtain⟨am,r9⟩:=yH2 ae FN;clear aW hE bw g7 bv wu rC hi aG fT t1 Cc Ak wC eF oP;go_wp2_with fail
          go_round
          case rel=>
           have hg:=zce wr T (.string gp) (.int .i64 gc) (.int .i64 efr) (.int .i64 gf) (.slice EH gh.length ehc) (.slice ED gd.length edc);have JY:=zi7 (show wr.heap[T]?=some (.cells #[.string gg.place,.int .i64 gg.cls,.int .i64 frm,.int .i64 gg.fin,.slice H gg.holders.length aM,.slice D gg.died.length dc] 88) from dO.o) (.string gp) (.int .i64 gc) (.int .i64 efr) (.int .i64 gf) (.slice EH gh.length ehc) (.slice ED gd.length edc);have FN:=r9.o;have AD:∀(k:Nat) (cur:Array Value) (t:TypeId) (f:Nat×Nat),wr.heap[k]?=some (.cells cur t f)->t=64\/t=9->((((((wr.setCell ⟨T,0,none⟩ (.string gp)).setCell ⟨T,1,none⟩ (.int .i64 gc)).setCell ⟨T,2,none⟩ (.int .i64 efr)).setCell ⟨T,3,none⟩ (.int .i64 gf)).setCell ⟨T,4,none⟩ (.slice EH gh.length ehc)).setCell ⟨T,5,none⟩ (.slice ED gd.length edc)).heap[k]?=wr.heap[k]?:=fun k cur t f hk ht=>
            hg.block k (zab hk) (fun e=>by
             simp only[Option.some.injEq]at e;rw[e,show wr.heap[T]?=_ from dO.o]at hk;simp only[Option.some.injEq,Obj.cells.injEq]at hk;rw[<-hk.2.1]at ht;revert ht
             decide)
           have hN:TombAt ((((((wr.setCell ⟨T,0,none⟩ (.string gp)).setCell ⟨T,1,none⟩ (.int .i64 gc)).setCell ⟨T,2,none⟩ (.int .i64 efr)).setCell ⟨T,3,none⟩ (.int .i64 gf)).setCell ⟨T,4,none⟩ (.slice EH gh.length ehc)).setCell ⟨T,5,none⟩ (.slice ED gd.length edc)) base Bk T ⟨gp,gc,gf,gh,gd⟩:=
            ⟨EH,ehc,ED,edc,efr,JY,t2,lR.o.hc,lR.o.dc,lR.o.hs.kept hg dO.o Mcw,lR.o.ds.kept hg dO.o Mcw,fun _ a ha hb=>by
              have h1:=lR.o.ge a ha;have h2:=ppl_rows HP.o _ hb
              omega⟩
           refine⟨j+1,am.o,by go_num,wldC_tomb Em.o dO.o hg,pw.o.kept hg dO.o Mcw Mcw Mcw,?_,zaU bS.o hg t2 Mcu,(hg.block _ (zab AY.o) Mcz).trans AY.o,vt.o.trans (KeepD.cells hg dO.o Mcw),vE.o.kept hg dO.o Mcw,EI.o.grown hg (.inr fun e=>by have:=(EI.o.ge _ e).1;omega),fun e he=>(vF.o e he).same AD,Nat.le_trans kx hg.size⟩;show TombsAt _ _ _ _ _ _;rw[bT.o];exact zmW nz.o qO.o dO.o hg hN
          case measure=>have:=am.o;simp only[intOf];omega
         ·have ar:¬(j:Int)<(HL.length:Int):=Mcu;have h1:HI.take j=HI:=List.take_of_length_le (by have:=zJ.o;omega);have h2:(es.map (·.1)).take j=es.map (·.1):=List.take_of_length_le (by have:=gu.o;rw[List.length_map];omega);rw[h1,h2]at nz;clear h1 h2 Cc Ak wC;go_wp2_with fail
          go_meet
          exact⟨_,jZ.o,⟨Bk,dd,cc,pp,wl,rr,mv,_,ps,ba,Em.o,⟨pw.o.nd,pw.o.ge,pw.o.dead,pw.o.rows,pw.o.marr,pw.o.wills,pw.o.ren⟩,nz.o⟩,bS.o,AY.o,vt.o⟩
       ·have rO:=eQ.o;simp only[if_true]at rO;have jZ:=zHi rO;clear rO eQ;go_wp2_with fail
        go_ret
        exact zbR HW.o qx.o jZ.o
   case rest=>
    obtain⟨gs,av,K6,eD,Ab,JH⟩:=hcut;have Ir:=zHi JH;obtain⟨W9,rfl⟩:∃x,x=wc:=⟨_,rfl⟩
    obtain⟨Bk',d',c',p',wl',r',mv',tv',ps',ei,cF,gD,fS⟩:=K6;have sd:=zab cF;have bx:=zab Ab;obtain⟨I0,BE,ET,eo⟩:=yH4 cF gD fS eD;unfold WldC at cF;obtain z0:=cF1 cF;obtain⟨-,-,-,z3⟩:=cF4 Ab;obtain⟨es,ec,hx⟩:=zbo gD.dead;have om:=zHi hx;have nI:=gD.dead.at.lt;have dt:b≠d':=fun e=>by subst e;rw[cF]at hx;simp at hx
    have E8:w.heap.size≠d':=fun e=>by rw[<-e,Ab]at hx;simp at hx
    clear cF gD fS eD Ab hx;go_upto_region 37 with fail
    refine wp_region_held_drew (S:=(fun w'=>w'.cell? ⟨b,0,none⟩=some (.map (some d'))/\w'.cell? ⟨w.heap.size,3,none⟩=some (.string fr))) Mcv ?hS ?hrest
    case hS=>exact⟨z0,z3⟩
    case hrest=>
     intro hHeld;refine TkH 0 ?_;refine TkH 1 ?_;refine TkH 2 ?_;refine TkH 3 ?_;refine TkH 4 ?_;refine TkH 5 ?_;refine TkH 6 ?_;refine OnH 7 fun K hK=>?_
     obtain⟨w6,hrun,iN,bF,iD⟩:=zcc (w:=W9.drew) zll (BE.o.dead.keep (w':=W9.drew) rfl) fr true;refine zdh rfl _ _ _ rfl _ _ _ rfl rfl rfl w6 hrun ?_;have oJ:W9.grownBy w6 (some d'):=⟨bF.os,bF.tape,bF.output,bF.size,bF.block⟩
     have p6:w6.cell? ⟨b,0,none⟩=some (.map (some d')):=(zbd oJ sd dt).trans z0;have q6:w6.cell? ⟨w.heap.size,3,none⟩=some (.string fr):=(zbd oJ bx E8).trans z3;obtain⟨vA,jD⟩:=yH2 iN oJ;clear iN bF oJ hrun;refine hK.out _ _ ?_ (fun hHeld=>?_);focus((try dsimp only);refine⟨?_,?_⟩<;>assumption)
     clear hK K;try simp only[Act.put,List.setIfInBounds_toArray,List.set_cons_zero,List.set_cons_succ]
     refine wpAnyH_done Mcv ?_ _;go_wp2_with fail
     go_ret
     rw[av.o];have eV:=BE.o.ge;have us:mput eqS fr true (s.dead.map fun n=>(n,true))=(s.dead++[fr]).map fun n=>(n,true):=by
      have hz:=ziL (eq:=eqS) (k:=fr) (l:=s.dead) (by rw[zhI];exact sk);rw[zkA hz];simp
     have sL:MapS w6 d' ekS evB ((s.dead++[fr]).map fun n=>(n,true)):=by
      rw[<-us];exact vA.o
     exact⟨rfl,zmT ei I0.o ET.o jD.o om.o rfl (ppl_dead BE.o jD.o sL),zaU eo.o jD.o eV.1 (by have:=HW.o.lt;omega),Ir.o.trans (KeepD.map jD.o om.o)⟩
 ·go_quiet (fail)
  go_wp2_with fail
  go_ret
  exact zbR HW.o Bw HX.o

import Derived.Test.YtbobmplpdmplkaaGreatDoorOA
import Derived.Test.YtbobmplpdmplkaaGreatDoorE1
set_option linter.all false
set_option maxRecDepth 100000
set_option maxHeartbeats 4000000
namespace Go.Proofs.YtbobmplpdmplkaaGreatDoor
open Go.RowKit Go.Shelf
attribute [local go_sem] World.cell?_alloc_mark zaf za4 zam za7 zaw zax zay zaz za0 za1 za2
attribute [local go_sem] zan zac
theorem estate_bd{s:St}{law:Law}{n:ByteArray}(hw:WillOk (zbw s n))(hl:za8 16 law.num law.den=true):Bd (zch s law n).1 1:=by
 have hi:=zky (s:=s) (frm:=n) hw (zbw s n).length;rw[List.take_of_length_le (Nat.le_refl _)]at hi;unfold zch;generalize zdh s n (zbw s n) ([],false) 1=y at*;obtain⟨⟨o,f⟩,r⟩:=y;obtain⟨o1,o2,_,_⟩:=own_ok hi.isN hi.nn hi.le hl;have hb:=hi.bd;have hn:=hi.nn;simp only at*;split
 ·exact(zf1 (fl:=f) hb hn).up6 Mc0
 ·split
  ·exact(zg5 (fl:=f) hn hb).up6 Mc0
  ·exact(zg5 (fl:=(zcR (zcm s n) (r*Rat.divInt law.num law.den) (o,f)).2) (show 0<=r-r*Rat.divInt law.num law.den by grind) (zf1 (n:=zcm s n) (fl:=f) hb o1)).up6 Mc0
theorem death_bd{g:Grave}{n:ByteArray}{hs:Parts}(hG:GoodG g)(hE:Bd hs 1):0<=zag g.holders n/\zaI (zag g.holders n)/\zag g.holders n<=1/\∀(f:Bool) (k:Nat),Bd (zec (zag g.holders n) (hs.take k) (setP g.holders n 0,f)).1 1:=by
 have ho:=zb9 hG.good n;have bI:=zdv hG.good n;have dO:sumQ g.holders<=1:=by
  rcases hG.one with h|h
  ·rw[h];decide
  ·rw[h];exact Rat.le_refl
 have hb:Bd (setP g.holders n 0) (1-zag g.holders n):=by
  refine⟨zhA hG.good McA,zen hG.small McA,?_⟩;rw[zm0 hG.good];grind
 refine⟨ho,zbZ ho Mc0 (zcL n hG.small),by grind,fun f k=>?_⟩
 have h2:=zm1 ho (l:=hs.take k) (f:=f) (fun p hp=>by
  have:=hE.good.pos p (List.mem_of_mem_take hp)
  grind) hb
 refine h2.up ?_;have h3:=zl6 hs hE.good.pos k;have h4:=hE.le;have h5:=Rat.mul_nonneg ho (show 0<=1-sumQ (hs.take k) by grind);grind
theorem sum_mem{l:Parts}(h:∀p∈l,0<p.2){p:ByteArray×Rat}(hp:p∈l):p.2<=sumQ l:=by
 induction l with
 |nil=>cases hp
 |cons x l ih=>
  rw[sumQ];have h1:=zj1 (l:=l) fun q hq=>h q MdN
  have h2:=h x McB;rcases List.mem_cons.1 hp with rfl|hp
  ·grind
  ·have:=ih (fun q hq=>h q MdN) hp;grind
theorem zdF{hs:Parts}(hE:Bd hs 1){p:ByteArray×Rat}(hp:p∈hs):0<p.2/\p.2<=1/\zaI p.2:=by
 have h0:=hE.good.pos p hp;have h1:p.2<=1:=by
  have:=hE.le;have h2:=sum_mem hE.good.pos hp;grind
 refine⟨h0,h1,zbZ Mc0 h1 ?_⟩;have:=hE.small;unfold zaE at this;rw[List.any_eq_false]at this;simpa using this p hp
theorem zoQ(own:Rat)(hs:Parts)(x:Parts×Bool){k:Nat}(h:k<hs.length):zec own (hs.take (k+1)) x=zeY own hs[k] (zec own (hs.take k) x):=by
 rw[List.take_succ_eq_append_getElem h,zeZ];rfl
theorem tomb_set5{W:World}{T:Nat}{pl:ByteArray}{cl fr en:Int}{v dv:Value}(h:zby W T pl cl fr en v dv)(v':Value):zby (W.setCell ⟨T,5,none⟩ v') T pl cl fr en v v':=by
 unfold zby at*;have:=Joins.block_setCell (i:=5) h v';simpa using this
theorem zk9{α:Type}{W:World}{base:Nat}{e t:TypeId}{size:Nat}{f:α->List Value}{v:Value}{xs:List α}{T:Nat}{cs:Array Value}{fr:Nat×Nat}(h:OwnS W base e size f v xs)(hT:W.heap[T]?=some (.cells cs t fr))(ai:t≠e):za5 v≠some T:=by
 exact MY
def zbO(n:ByteArray)(day:Int)(ps:List Nat)(gs:List Grave):List Nat:=(zbd n day 0 gs).map fun i=>ps.getD i 0
theorem zoR(a b:Int)(w:World):(Instr.field 31 (.agg #[.int .i64 a,.int .i64 b]) 0).run Tryz.prog w=.ok (.int .i64 a) w:=by kernel_rfl
abbrev Tm:=Grave×Int×(Option Addr×Nat)×(Option Addr×Nat)
def tmC(e:Tm):List Value:=[.string e.1.place,.int .i64 e.1.cls,.int .i64 e.2.1,.int .i64 e.1.fin,.slice e.2.2.1.1 e.1.holders.length e.2.2.1.2,.slice e.2.2.2.1 e.1.died.length e.2.2.2.2]
theorem zoc(e:Tm):(tmC e).length=6:=rfl
theorem tm_one(e:Tm):∀u∈tmC e,u.oneCell'=true:=by simp[tmC,Value.oneCell']
theorem elTm:ElTy Tryz.prog 205 95 6 88:=zd4 (z:=.agg #[.string ⟨#[]⟩,.int .i64 0,.int .i64 0,.int .i64 0,.slice none 0 0,.slice none 0 0]) Mcz Mcz rfl McA
structure TmOk (W:World) (n0:Nat) (e:Tm):Prop where
 hs:Ro W 71 zaa e.2.2.1.1 e.1.holders
 hc:e.1.holders.length<=e.2.2.1.2
 ds:Ro W 9 sC e.2.2.2.1 e.1.died
 dc:e.1.died.length<=e.2.2.2.2
 ge:∀a,e.2.2.2.1=some a->n0<=a.block
theorem TmOk.same{W W':World}{n0:Nat}{e:Tm}(h:TmOk W n0 e)(hk:∀(k:Nat) (cur:Array Value) (t:TypeId) (f:Nat×Nat),W.heap[k]?=some (.cells cur t f)->t=71\/t=9->W'.heap[k]?=W.heap[k]?):TmOk W' n0 e:=
 ⟨h.hs.same fun b cur f hb _=>hk b cur _ f hb (.inl rfl),h.hc,h.ds.same fun b cur f hb _=>hk b cur _ f hb (.inr rfl),h.dc,h.ge⟩
theorem held_tomb{n:ByteArray}{day:Int}{ps:List Nat}{gs:List Grave}{base:Nat}{W:World}{B:List Nat}{tv:Value}(hT:TombsAt base W B tv ps gs){j:Nat}(hj:j<(zbO n day ps gs).length):
 ∃i g,(zbd n day 0 gs)[j]?=some i/\ps[i]?=some (zbO n day ps gs)[j]/\gs[i]?=some g/\(gs.filter (zc7 n day))[j]?=some g/\TombAt W base B (zbO n day ps gs)[j] g:=by
 have sj:j<(zbd n day 0 gs).length:=by unfold zbO at hj;simpa using hj
 obtain⟨_,g,h2,h3⟩:=znR n day gs 0 j _ (List.getElem?_eq_getElem sj);rw[Nat.sub_zero]at h2;have hi:(zbd n day 0 gs)[j]<ps.length:=by have:=(List.getElem?_eq_some_iff.1 h2).1;have:=hT.len;omega
 have hp:ps[(zbd n day 0 gs)[j]]?=some (zbO n day ps gs)[j]:=by
  have e:(zbO n day ps gs)[j]=ps.getD (zbd n day 0 gs)[j] 0:=by unfold zbO;simp
  rw[e,List.getElem?_eq_getElem hi,List.getD_eq_getElem?_getD,List.getElem?_eq_getElem hi];rfl
 exact⟨_,g,List.getElem?_eq_getElem sj,hp,h2,h3,hT.all _ _ _ hp h2⟩
theorem sl_tm{w:World}{b:Nat}{e:Tm}{t:TypeId}{fr:Nat×Nat}(h:w.heap[b]?=some (.cells (tmC e).toArray t fr)):Sl w 6 tmC (some ⟨b,0,none⟩) [e]:=fun _=>⟨b,0,rfl,zab h,fun k y hy j u hu=>by
 have hk:k=0:=McK;subst hk;simp only[List.getElem?_cons_zero,Option.some.injEq]at hy;subst hy;simp only[World.cell?,h,Nat.zero_mul,Nat.zero_add,Nat.add_zero]
 simpa using hu⟩
theorem ppl_rows{base:Nat}{W:World}{B:List Nat}{d c p wl r:Nat}{mv:Value}{s:St}(h:PplAt base W B d c p wl r mv s):∀g∈B,g<W.heap.size:=fun g hg=>by
 obtain⟨mc,mp,_,_,k3,k4,k5,_,kn1,kn2⟩:=h.rows;have key:∀ {m:List (ByteArray×Value)} {f:ByteArray->List ByteArray},(m.map (·.1)).Nodup->(∀n,RowIs W base m n (f n))->g∈zaU m->g<W.heap.size:=fun {m f} hk hr h=>by
  obtain⟨e,he,eT⟩:=zcI.1 h;have h1:=zgp hk (show(e.1,e.2)∈m from he);rcases hr e.1 with⟨h2,_⟩|⟨v,h2,h3⟩
  ·rw[h2]at h1;cases h1
  ·rw[h2]at h1;simp only[Option.some.injEq]at h1;rw[h1]at h3;exact(h3.ge g eT).2
 rw[k5,zc0,List.mem_append]at hg;rcases hg with hg|hg
 ·exact key kn1 k3 hg
 ·exact key kn2 k4 hg
theorem zmR{base i T:Nat}{W W':World}{B ps:List Nat}{tv:Value}{gs:List Grave}{g':Grave}{cs:Array Value}{fr:Nat×Nat}(hT:TombsAt base W B tv ps gs)
 (hi:ps[i]?=some T)(hx:W.heap[T]?=some (.cells cs 95 fr))(hg:W.grownBy W' (some T))(hN:TombAt W' base B T g'):TombsAt base W' B tv ps (gs.set i g'):=by
 refine⟨hT.own.kept hg hx McA,by simp[hT.len],hT.nd,fun j T' g e1 e2=>?_⟩;by_cases hj:i=j
 ·subst hj;rw[hi]at e1;have eV:i<gs.length:=MdU;exact Mbv
 ·exact Mal
theorem wldC_tomb{W W':World}{b d c p wl r T:Nat}{mv tv:Value}{la co:Int}{cs:Array Value}{fr:Nat×Nat}(h:WldC W b d c p wl r mv tv la co)(hx:W.heap[T]?=some (.cells cs 95 fr))(hg:W.grownBy W' (some T)):WldC W' b d c p wl r mv tv la co:=
 (hg.block b (zab h) (fun e=>by
   simp only[Option.some.injEq]at e;subst e;unfold WldC at h;rw[h]at hx
   simp at hx)).trans h
theorem zoS{w W W':World}{g n:Nat}(h:w.grownBy W (some g))(hb:Below n W W')(hn:w.heap.size<=n):w.grownBy W' (some g):=
 ⟨hb.os.trans h.os,hb.tape.trans h.tape,hb.output.trans h.output,Nat.le_trans h.size hb.size,fun k hk ai=>(hb.block k Mcy).trans (h.block k hk ai)⟩
theorem zjJ{w W W':World}{g n:Nat}(hb:Below n w W)(hn:w.heap.size<=n)(h:W.grownBy W' (some g)):w.grownBy W' (some g):=
 ⟨h.os.trans hb.os,h.tape.trans hb.tape,h.output.trans hb.output,Nat.le_trans hb.size h.size,fun k hk ai=>(h.block k (Nat.lt_of_lt_of_le hk hb.size) ai).trans (hb.block k Mcy)⟩
theorem B_drop{w W:World}(h:Below w.drew.heap.size w.drew W):Below w.heap.size w W:=⟨h.os,h.tape,h.output,h.size,h.block⟩
theorem death_any(base b:Nat)(s:St)(la co last:Int)(laws:List Law)(LA:Option Addr)(lc:Nat)(d:Deed)(B:Option Addr)(c:Nat)(w:World)(hW:WldAt base w b s la co)(j9:GoodSt s last)(hl:last<=d.day)(hk:d.kind=8)(eX:za8 16 (zba laws d.day).num (zba laws d.day).den=true)(fF:laws.length<=10)(ii:Sl w 4 Law.cells LA laws)
 (kY:s.graves.length<=1000)(bV:s.children.length<=1000)(ft:s.marriages.length<=1000)(cG:(zbw s d.frm).length<=1000)(cz:∀g∈s.graves,g.holders.length<=70000/\g.died.length<=1000):
 Calls Tryz.prog 125 #[.pointer (some ⟨b,0,none⟩),.slice LA laws.length lc,d.v B c] w (zbH base b (zdH laws s d) la co w):=by
 have hq:=deathP_eq j9 hl eX;have EQ:=estate_bd (s:=s) (law:=zba laws d.day) (j9.wills d.frm) eX;have am:=hW;obtain⟨Bk,dd,cc,pp,wl,rr,mv,tv,ps,ba,hC,hP,hT⟩:=hW;have dg:=zab hC;obtain⟨kd,dy,pl,fr,ts,cl,yr⟩:=d;simp only at*;clear hk;have HX:Hid (zdH laws s ⟨kd,dy,pl,fr,ts,cl,yr⟩=_):=hq;generalize zdH laws s ⟨kd,dy,pl,fr,ts,cl,yr⟩=X at*;obtain⟨TA,tc,rfl,_,ud⟩:=hT.own.sl zdb;have Fp:=hT.own;obtain⟨pi,HC,HP,HT,HW,dC,qt,eu⟩:=yH8 hT.len hC hP hT am j9 cz ii;have qj:=zHi EQ;unfold WldC at hC;obtain⟨c0,-,-,-,-,-,c6⟩:=cF7 hC;have fM:=zHi (fun W (hB:Below w.heap.size w W)=>zdc (HP.o.keep hB) fr);have aQ:∀q',_:=fun q'=>fM.o ((w.alloc (.cells #[.int .i64 kd,.int .i64 dy,.string pl,.string fr,.slice B ts.length c,.int .i64 cl,.int .i64 yr] 76)).drewN q') (zd3 Bw _)
 generalize rW:zaJ s fr=dx at*;clear hC hP hT am j9 cz ii hq EQ;unfold Deed.v;simp only;go_enter Tryz.func125,Tryz.ntmps125
 go_upto_region 1 with fail
 cases dx
 ·go_quiet (fail)
  go_upto_block 0 with fail
  have bG:Below w.heap.size w (((w.alloc (.cells #[.int .i64 kd,.int .i64 dy,.string pl,.string fr,.slice B ts.length c,.int .i64 cl,.int .i64 yr] 76)).drewN nq).alloc (.cells #[.bool false] 200)):=zad (zd3 Bw _) _;have D2:(((w.alloc (.cells #[.int .i64 kd,.int .i64 dy,.string pl,.string fr,.slice B ts.length c,.int .i64 cl,.int .i64 yr] 76)).drewN nq).alloc (.cells #[.bool false] 200)).heap[w.heap.size]?=some (.cells #[.int .i64 kd,.int .i64 dy,.string pl,.string fr,.slice B ts.length c,.int .i64 cl,.int .i64 yr] 76):=zal (zar _ _ _ rfl);have M2:MarkAt (((w.alloc (.cells #[.int .i64 kd,.int .i64 dy,.string pl,.string fr,.slice B ts.length c,.int .i64 cl,.int .i64 yr] 76)).drewN nq).alloc (.cells #[.bool false] 200)) (w.heap.size+1) false:=zar _ _ _ (by simp[World.drewN]);have s2:(((w.alloc (.cells #[.int .i64 kd,.int .i64 dy,.string pl,.string fr,.slice B ts.length c,.int .i64 cl,.int .i64 yr] 76)).drewN nq).alloc (.cells #[.bool false] 200)).heap.size=w.heap.size+1+1:=by simp[World.drewN]
  generalize(((w.alloc (.cells #[.int .i64 kd,.int .i64 dy,.string pl,.string fr,.slice B ts.length c,.int .i64 cl,.int .i64 yr] 76)).drewN nq).alloc (.cells #[.bool false] 200))=W2 at*;obtain⟨aJ,jB,pf,S2⟩:=yH4 bG D2 M2 s2;clear D2 M2 s2 aQ;have bn:=bG.size;clear bG;go_cut [8,10,35]from 36 (fun v8 _ _ wc=>∃A n,v8=.slice A (zbO fr dy ps s.graves).length n/\OwnS wc W2.heap.size 80 1 ptrC v8 (zbO fr dy ps s.graves)/\Below W2.heap.size W2 wc)
  case first=>
   go_wp2_with fail
   go_loopw [8,35] (fun v i wr=>∃(k:Nat),k<=ps.length/\i=.int .i64 k/\OwnS wr W2.heap.size 80 1 ptrC v (zbO fr dy ps (s.graves.take k))/\Below W2.heap.size W2 wr) (fun _ i _=>ps.length-(intOf i).toNat)
   case atStart=>exact⟨0,Nat.zero_le _,rfl,OwnS.nil,Below.refl _ _⟩
   case round=>
    obtain⟨k,hk,rfl,aa,hB⟩:=hrel;obtain⟨VA,vc,rfl,_,kB⟩:=aa.sl zdb;have bk:Below w.heap.size w wr:=aJ.o.trans (hB.mono bn);have hsz:=hB.size;obtain⟨HO,HB⟩:=yH2 aa hB;have e1:wr.cell? ⟨w.heap.size,1,none⟩=some (.int .i64 dy):=(zah hB MdX).trans (by simp only[World.cell?,jB.o];rfl);have e3:wr.cell? ⟨w.heap.size,3,none⟩=some (.string fr):=(zah hB MdX).trans (by simp only[World.cell?,jB.o];rfl);have bu:w.heap.size<wr.heap.size:=MdX;by_cases ae:k<ps.length
    ·have pI:k<s.graves.length:=by have:=pi.o;omega
     have JF:=(HT.o.keep bk).all k ps[k] s.graves[k] (List.getElem?_eq_getElem ae) (List.getElem?_eq_getElem pI);have bf:=dC.o.graves s.graves[k] (List.getElem_mem pI);have s9:=qt.o s.graves[k] (List.getElem_mem pI)
     obtain⟨TB,toff,JE,hTb,Fq⟩:=(show Sl wr 1 ptrC TA ps from by
      obtain⟨A',c',e',h',_⟩:=(Fp.keep bk).sl zdb;simp only[Value.slice.injEq]at e'
      rw[e'.1];exact h').at ae
     subst JE;have bL:=held_snoc fr dy s.graves pI;have iw:ps.getD k 0=ps[k]:=Mdm;have i0:wr.cell? ⟨TB,toff+k,none⟩=some (.pointer (some ⟨ps[k],0,none⟩)):=by have:=Fq 0 _ rfl;simpa using this
     have FQ:zbO fr dy ps (s.graves.take (k+1))=zbO fr dy ps (s.graves.take k)++if zc7 fr dy s.graves[k]then[ps[k]]else[]:=by
      unfold zbO;rw[bL,List.map_append];cases zc7 fr dy s.graves[k]
      ·rfl
      ·show _++[ps.getD k 0]=_;rw[iw];rfl
     generalize ps[k]=T at*;generalize s.graves[k]=g at*;have Gm:zc7 fr dy g=(zaV g dy&&decide (0<(zag g.holders fr).num)):=rfl;obtain⟨H,aN,D,dc,frm,t1,t2,t3,t4,t5,t6,t7⟩:=JF;have df:=zab t1;unfold zby at t1;obtain⟨-,-,-,g3,g4⟩:=cF5 t1;obtain⟨AJ,gK,AG,yW⟩:=yH4 (fun W (hW:Below wr.heap.size wr W)=>zip g H aN T dy W ((zah hW df).trans g3) ((zah hW df).trans g4)) (fun W (hW:Below wr.heap.size wr W)=>zer g.holders H aN T fr W ((zah hW df).trans g4) (Nat.lt_of_lt_of_le df hW.size) Mcy bf.good.asc (Ro.sl zap (t5.keep hW))) FQ Gm;generalize zaV g dy=fi at*;generalize zag g.holders fr=q at*;unfold zaA at gK;have ar:(k:Int)<(ps.length:Int):=Mcy;have aQ:(0:Int)<=(k:Int):=Mcy;have fq:(k:Int)<=(tc:Int):=Mcy;have dV:(zbO fr dy ps (s.graves.take k)).length<=1000:=by
      unfold zbO;rw[List.length_map,zf2];exact MaQ
     generalize zbO fr dy ps (s.graves.take k)=ei at*;have dP:=zHi dV;clear bf s9 bL FQ Gm t1 t5 t6 t7 t2 t3 t4 Fq aa hB bk dV iw g3 g4;have zQ:=zoR q.num q.den;cases fi
     ·rw[Bool.false_and]at yW;go_wp2_with (go_at_call 34;refine(AJ.o _ Bw).mono ?_;rintro e wq ⟨rfl,z,rfl⟩)
      go_round
      case rel=>exact⟨k+1,by omega,by go_num,by rw[AG.o,yW.o];simpa using HO.o.keep (n:=wr.heap.size) Bw,HB.o.trans ((Bw:Below wr.heap.size wr _).mono hsz)⟩
      case measure=>simp[intOf];omega
     ·by_cases hq:0<q.num
      ·have Ba:Hid (zc7 fr dy g=true):=by show _=_;rw[yW.o];simpa using hq
       go_wp2_with (first
        |(go_at_call 34;refine(AJ.o _ Bw).mono ?_;rintro e wq ⟨rfl,z,rfl⟩)
        |(go_at_call 32;refine(gK.o _ Bw).mono ?_;rintro e wq2 ⟨rfl,z2,rfl⟩)
        |(at_builtin;go_loud(refine zat (v:=.slice VA ei.length vc) (n:=ei.length) (m:=1) rfl _ _ rfl elTomb zdb znI rfl (HO.o.keep (n:=wr.heap.size) Bw) rfl rfl rfl (sl_ptr (T:=T) (zar _ _ _ MdE)) (by have:=dP.o;simp[maxLen];omega) (by have:=dP.o;omega) McH ?_);intro v3 w3 h1 h2 h3))
       have ax:Below W2.heap.size W2 w3:=Below.grown (a:=W2) (B:=W2.heap.size) (HB.o.trans ((Bw:Below wr.heap.size wr _).mono hsz)) h2 McH (fun j hj=>(HO.o.ge j hj).1);obtain⟨aD,H1⟩:=yH2 ax h1;clear h1 h2 h3 ax;go_wp2_with fail
       go_round
       case rel=>exact⟨k+1,by omega,by go_num,by rw[AG.o,Ba.o];exact H1.o,aD.o⟩
       case measure=>simp[intOf];omega
      ·have Ba:Hid (zc7 fr dy g=false):=by show _=_;rw[yW.o];simpa using hq
       go_wp2_with (first
        |(go_at_call 34;refine(AJ.o _ Bw).mono ?_;rintro e wq ⟨rfl,z,rfl⟩)
        |(go_at_call 32;refine(gK.o _ Bw).mono ?_;rintro e wq2 ⟨rfl,z2,rfl⟩))
       go_round
       case rel=>exact⟨k+1,by omega,by go_num,by rw[AG.o,Ba.o];simpa using HO.o.keep (n:=wr.heap.size) Bw,HB.o.trans ((Bw:Below wr.heap.size wr _).mono hsz)⟩
       case measure=>simp[intOf];omega
    ·have ar:¬(k:Int)<(ps.length:Int):=Mcy;have iP:zbO fr dy ps (s.graves.take k)=zbO fr dy ps s.graves:=by rw[List.take_of_length_le (by have:=pi.o;omega)]
     have g9:=zHi iP;clear iP aa hB bk;go_wp2_with fail
     go_meet
     have hO:=HO.o;rw[g9.o]at hO⊢;exact⟨VA,vc,rfl,hO,HB.o⟩
  case rest=>
   obtain⟨HA,hn,rfl,aa,hB⟩:=hcut;have bk:Below w.heap.size w wc:=aJ.o.trans (hB.mono bn);have hD:wc.heap[w.heap.size]?=some (.cells #[.int .i64 kd,.int .i64 dy,.string pl,.string fr,.slice B ts.length c,.int .i64 cl,.int .i64 yr] 76):=(hB.block _ MdX).trans jB.o;have hM:MarkAt wc (w.heap.size+1) false:=(hB.block _ MdX).trans pf.o;have mf:(zbO fr dy ps s.graves).length=0->s.graves.any (zc7 fr dy)=false:=fun h=>by
    unfold zbO at h;rw[List.length_map,zf2]at h;rw[List.any_eq_false];intro g hg hq;have:g∈s.graves.filter (zc7 fr dy):=List.mem_filter.2 ⟨hg,hq⟩;rw[List.eq_nil_of_length_eq_zero h]at this;cases this
   obtain⟨ly,HO,b8,HD,HM⟩:=yH5 mf aa bk hD hM;clear mf aa bk hD hM;go_upto_if 58 with fail
   go_cut [11,12,14,15,16,18,19,20,21,58]from 59 (fun _ _ _ _ _ _ _ _ _ _ W=>∃gs,Hid (X=({s with graves:=gs,dead:=s.dead++[fr]},0))/\WldAt base W b {s with graves:=gs} la co/\Below base w W/\W.heap[w.heap.size]?=some (.cells #[.int .i64 kd,.int .i64 dy,.string pl,.string fr,.slice B ts.length c,.int .i64 cl,.int .i64 yr] 76)/\KeepD w W)
   case first=>
    by_cases hz:(zbO fr dy ps s.graves).length=0
    ·have iS:¬(0:Int)<((zbO fr dy ps s.graves).length:Int):=Mcy;have hX:=HX.o;rw[ly.o hz]at hX;have au:=zHi hX;clear hz hX;go_wp2_with fail
     go_meet
     refine⟨s.graves,?_,HW.o.keep b8.o,b8.o.mono (by have:=HW.o.lt;omega),HD.o,KeepD.below b8.o⟩;show _=_;rw[au.o];simp
    ·have iS:(0:Int)<((zbO fr dy ps s.graves).length:Int):=Mcy;have HZ:=zHi hz;have d1:wc.cell? ⟨w.heap.size,1,none⟩=some (.int .i64 dy):=by simp only[World.cell?,HD.o];rfl
     have d3:wc.cell? ⟨w.heap.size,3,none⟩=some (.string fr):=by simp only[World.cell?,HD.o];rfl
     have bu:w.heap.size<wc.heap.size:=zab HD.o;have aG:=b8.o.size;have te:=zHi (show∃EF,EF=zch s (zba laws dy) fr from⟨_,rfl⟩);obtain⟨EF,pB⟩:=te.o;rw[<-pB]at qj HX;have hel:EF.1.length<=3000:=by
      have h1:=qj.o.good;have h2:=ziK (s:=s) (law:=zba laws dy) (n:=fr) (by rw[<-pB];exact h1);rw[<-pB]at h2;omega
     obtain⟨eG,HE⟩:=yH2 hel pB;clear hz pB te hel;go_upto_region 12 with fail
     clear iS;go_cut [11,58]from 59 (fun v11 _ W=>∃A n,v11=.slice A EF.1.length n/\OwnS W (w.heap.size+1+1) 71 3 zaa v11 EF.1/\MarkAt W (w.heap.size+1) EF.2/\wc.grownBy W (some (w.heap.size+1)))
     case first=>
      refine wp_region_held_drew (S:=(fun w'=>w'.cell? ⟨w.heap.size,1,none⟩=some (.int .i64 dy)/\w'.cell? ⟨w.heap.size,3,none⟩=some (.string fr))) Mcz ?hS ?hrest
      case hS=>exact⟨d1,d3⟩
      case hrest=>
       intro hHeld;refine TkH 0 ?_;refine TkH 1 ?_;refine TkH 2 ?_;refine TkH 3 ?_;refine TkH 4 ?_;refine TkH 5 ?_;refine TkH 7 ?_;refine TkH 8 ?_;refine OnH 6 fun K hK=>?_
       go_simp
       refine(zop laws LA lc dy _ fF (eu.o.keep (b8.o.trans ((zaK (Below.refl _ _)).mono aG)))).mono ?_;rintro e w5 ⟨rfl,z,rfl⟩;refine NxM hK (fun hHeld=>?_) (⟨(za4 _ _ _ _ bu).trans d1,(za4 _ _ _ _ bu).trans d3⟩);clear hK K;refine OnH 9 fun K hK=>?_
       go_simp
       refine(zoM base b (w.heap.size+1) s last (zba laws dy) fr _ ?q1 dC.o ?q2 bV ft cG eX).mono ?_
       case q1=>exact fun W hW=>HW.o.peo.keep (zaQ (b8.o.trans ((zbv (zaK (Below.refl _ _)) z).mono aG)) hW Mcy)
       case q2=>exact HM.o.drew.ext z
       rintro e w6 ⟨v,rfl,n1,n2,n3⟩;rw[<-HE.o]at n1 n2;have n3':wc.grownBy w6 (some (w.heap.size+1)):=⟨n3.os,n3.tape,n3.output,Nat.le_trans MdE n3.size,fun k hk ai=>(n3.block k McH ai).trans (zcJ _ _ _ hk)⟩
       obtain⟨N1,N2,N3⟩:=yH3 n1 n2 n3';clear n1 n2 n3 n3';refine NxM hK (fun hHeld=>?_) (⟨(zbb N3.o bu Mcy).trans d1,(zbb N3.o bu Mcy).trans d3⟩);clear hK K;refine OnH 10 fun K hK=>?_
       go_simp
       refine NxM hK (fun hHeld=>?_) (⟨(zbb N3.o bu Mcy).trans d1,(zbb N3.o bu Mcy).trans d3⟩);clear hK K;refine wpAnyH_done Mcz ?_ _;go_wp2_with fail
       go_meet
       obtain⟨A9,n9,rfl,_,_⟩:=N1.o.sl zap;exact⟨A9,n9,rfl,OwnS.base_le N1.o (by have:=S2.o;have:=hB.size;simp[zaf];omega),N2.o,N3.o⟩
     case rest=>
      obtain⟨EA,en,rfl,n1,n2,n3⟩:=hcut;have EY:Below w.heap.size w wc:=zaQ b8.o n3 Mcy Mec;have EN:wc.heap[w.heap.size]?=some (.cells #[.int .i64 kd,.int .i64 dy,.string pl,.string fr,.slice B ts.length c,.int .i64 cl,.int .i64 yr] 76):=(n3.block _ bu McB).trans HD.o
      have tG:OwnS wc (w.heap.size+1+1) 80 1 ptrC (.slice HA (zbO fr dy ps s.graves).length hn) (zbO fr dy ps s.graves):=(OwnS.base_le HO.o MdX).grown n3 (by
       cases hb:za5 (.slice HA (zbO fr dy ps s.graves).length hn)with
       |none=>exact .inl rfl
       |some g=>exact .inr fun e=>by have:=(HO.o.ge g hb).1;have:=S2.o;simp at e;omega)
      obtain⟨kO,uD,nY,yH,uF⟩:=yH5 tG n1 n2 EN EY;have jN:=n3.size;have hHL:(zbO fr dy ps s.graves).length<=1000:=by
       unfold zbO;rw[List.length_map,zf2];exact Nat.le_trans (List.length_filter_le _ _) kY
      have eS:(zbO fr dy ps s.graves).length=(s.graves.filter (zc7 fr dy)).length:=by
       unfold zbO;rw[List.length_map,zf2]
      obtain⟨nU,qx⟩:=yH2 eS (fun(W:World) (hB:Below w.heap.size w W) j hj=>held_tomb (n:=fr) (day:=dy) (HT.o.keep hB) (j:=j) hj);have EZ:∀g∈s.graves.filter (zc7 fr dy),GoodG g/\g.holders.length<=70000/\g.died.length<=1000:=fun g hg=>⟨dC.o.graves g (List.mem_filter.1 hg).1,qt.o g (List.mem_filter.1 hg).1⟩
      have qv:=zHi EZ;clear n1 n2 n3 tG EN EY d1 d3 bu eS EZ;generalize hHs:zbO fr dy ps s.graves=HL at*;generalize sg:s.graves.filter (zc7 fr dy)=aI at*;obtain⟨yR,iV⟩:=yH2 hHs sg;clear hHs sg;go_upto_block 2 with fail
      go_cut [12,14,15,16,18,19,71]from 72 (fun v12 _ _ _ _ _ _ W=>∃A n es,v12=.slice A HL.length n/\OwnS W (w.heap.size+1+1) 95 6 tmC v12 es/\es.map (·.1)=(zcW fr EF.1 aI EF.2).1/\(∀e∈es,TmOk W w.heap.size e)/\MarkAt W (w.heap.size+1) (zcW fr EF.1 aI EF.2).2/\Below w.heap.size w W/\W.heap[w.heap.size]?=some (.cells #[.int .i64 kd,.int .i64 dy,.string pl,.string fr,.slice B ts.length c,.int .i64 cl,.int .i64 yr] 76)/\OwnS W (w.heap.size+1+1) 80 1 ptrC (.slice HA HL.length hn) HL)
      case first=>
       go_wp2_with fail
       go_loopw [12,71] (fun v i wr=>∃(j:Nat) (es:List Tm),j<=HL.length/\i=.int .i64 j/\OwnS wr (w.heap.size+1+1) 95 6 tmC v es/\Hid (es.map (·.1)=(zcW fr EF.1 (aI.take j) EF.2).1)/\Hid (∀e∈es,TmOk wr w.heap.size e)/\MarkAt wr (w.heap.size+1) (zcW fr EF.1 (aI.take j) EF.2).2/\Below w.heap.size w wr/\wr.heap[w.heap.size]?=some (.cells #[.int .i64 kd,.int .i64 dy,.string pl,.string fr,.slice B ts.length c,.int .i64 cl,.int .i64 yr] 76)/\OwnS wr (w.heap.size+1+1) 80 1 ptrC (.slice HA HL.length hn) HL/\OwnS wr (w.heap.size+1+1) 71 3 zaa (.slice EA EF.1.length en) EF.1/\w.heap.size+1+1<=wr.heap.size) (fun _ i _=>HL.length-(intOf i).toNat)
       case atStart=>exact⟨0,[],Nat.zero_le _,rfl,OwnS.nil,rfl,fun e he=>by(cases he),nY.o,uF.o,yH.o,kO.o,uD.o,by have:=S2.o;have:=hB.size;omega⟩
       case round=>
        obtain⟨j,es,hj,rfl,aa,kG,dG,hm,hF,hD,hO,hE,hsz⟩:=hrel;obtain⟨NA,nc,rfl,_,xF⟩:=aa.sl zoc;have eS:=nU.o;have rY:es.length=j:=by
         have h1:=congrArg List.length kG.o;rw[List.length_map,zkw,List.length_take]at h1;omega
        obtain⟨HN,HM,HF,fV,dR,uE⟩:=yH6 aa hm hF hD hO hE;obtain⟨-,-,-,e3⟩:=cF4 hD;have bu:=zab hD;by_cases ae:j<HL.length
        ·obtain⟨i,g,hi,gZ,aO,CN,gR⟩:=qx.o wr hF j ae;obtain⟨bf,hgh,bN⟩:=qv.o g (List.mem_of_getElem? CN)
         obtain⟨cJ,dt,BU,rS,vK⟩:=(show Sl wr 1 ptrC HA HL from by
          obtain⟨A',c',e',h',_⟩:=hO.sl zdb;simp only[Value.slice.injEq]at e'
          rw[e'.1];exact h').at ae
         subst BU;have i0:wr.cell? ⟨cJ,dt+j,none⟩=some (.pointer (some ⟨HL[j],0,none⟩)):=by have:=vK 0 _ rfl;simpa using this
         have bL:=next_snoc fr EF.1 aI EF.2 (k:=j) Mcy;have wW:aI[j]' Mcy=g:=by
          have:=List.getElem?_eq_getElem (l:=aI) (i:=j) Mcy;rw[CN]at this;exact(Option.some.inj this).symm
         rw[wW]at bL;have cN:=zHi bL;generalize HL[j]=T at*;obtain⟨H,aN,D,dc,frm,t1,t2,t3,t4,t5,t6,t7⟩:=gR;have df:=zab t1;unfold zby at t1;obtain⟨m0,m1,m2,m3,m4,m5⟩:=cF6 t1;obtain⟨ez,kQ,ct⟩:=yH3 t1 t6 (fun W (hW:Below wr.heap.size wr W)=>ze9 g.holders H g.holders.length aN W rfl Mcy (Ro.sl zap (t5.keep hW)));have Ce:T≠wr.heap.size:=Mcy;have lj:w.heap.size≠wr.heap.size:=Mcy;have ar:(j:Int)<(HL.length:Int):=Mcy;have aQ:(0:Int)<=(j:Int):=Mcy;have Ja:(HL.length:Int)<=(hn:Int):=by
          obtain⟨A',c',e',_,h'⟩:=hO.sl zdb;exact Mba
         generalize zcW fr EF.1 (aI.take j) EF.2=nx at*;obtain⟨lH,fW⟩:=yH2 eS rY;clear eS rY aa hm hF hD hO hE vK bL wW CN aO gZ hi t1 t5 t6 t7 t2 t3 t4;go_upto_region 18 with fail
         have zh:Below wr.heap.size wr (wr.alloc (.cells #[.string g.place,.int .i64 g.cls,.int .i64 frm,.int .i64 g.fin,.slice H g.holders.length aN,.slice D g.died.length dc] 95)):=Bw;have zJ:(wr.alloc (.cells #[.string g.place,.int .i64 g.cls,.int .i64 frm,.int .i64 g.fin,.slice H g.holders.length aN,.slice D g.died.length dc] 95)).heap[wr.heap.size]?=some (.cells #[.string g.place,.int .i64 g.cls,.int .i64 frm,.int .i64 g.fin,.slice H g.holders.length aN,.slice D g.died.length dc] 95):=zar _ _ _ rfl;have Fm:(wr.alloc (.cells #[.string g.place,.int .i64 g.cls,.int .i64 frm,.int .i64 g.fin,.slice H g.holders.length aN,.slice D g.died.length dc] 95)).heap.size=wr.heap.size+1:=McB;generalize wr.alloc (.cells #[.string g.place,.int .i64 g.cls,.int .i64 frm,.int .i64 g.fin,.slice H g.holders.length aN,.slice D g.died.length dc] 95)=WA at*;have y4:=(zah (o:=4) zh df).trans m4;obtain⟨By,qe,jY⟩:=yH3 zJ zh Fm;have aW:=ct.o WA zh;have nS:=zHi aW;clear zJ zh Fm aW ct;have Dr:Below wr.heap.size wr WA:=qe.o;go_cut [83]from 78 to 124 (fun _ W=>∃A1 c1,zby W wr.heap.size g.place g.cls frm g.fin (.slice A1 g.holders.length c1) (.slice D g.died.length dc)/\OwnS W wr.heap.size 71 3 zaa (.slice A1 g.holders.length c1) g.holders/\Below wr.heap.size wr W)
         case first=>
          clear qx qv dG kG HM lH fW cN HN uE dR fV HF kQ ez kO uD nY yH uF yR iV HO b8 HD ly aJ jB pf S2 fM qj eu qt dC HW HT HP HC pi
          go_wp2_with (go_at_call 154
                       go_must(refine nS.o.mono ?_)
                       rintro e wq ⟨hv,rfl,o1,o2⟩;obtain⟨A1,c1,sO,_,_⟩:=o1.sl zap;subst sO;have x1:=(o2.block wr.heap.size (by have:=jY.o;omega)).trans By.o;have x3:=zab x1;have x4:wq.frozen? ⟨wr.heap.size,4,none⟩=false:=(by simp only[World.frozen?,x1];rfl)
                       have x5:wq.cell? ⟨wr.heap.size,4,none⟩=some (.slice H g.holders.length aN):=(by simp only[World.cell?,x1];rfl)
                       obtain⟨X1,O1,O2⟩:=yH3 x1 o1 o2
                       clear x1 o1 o2)
          go_meet
          refine⟨A1,c1,zgr (show zby wq wr.heap.size g.place g.cls frm g.fin (.slice H g.holders.length aN) (.slice D g.died.length dc) from X1.o) _,?_,zaP (qe.o.trans (O2.o.mono (by have:=jY.o;omega))) McB _⟩;refine OwnS.base_le (OwnS.grown O1.o (zav _ _ _ _) (.inr fun e=>?_)) (by have:=jY.o;omega);have:=(O1.o.ge _ e).1;have:=jY.o;omega
         case rest=>
          obtain⟨A1,c1,cr,eh,eA⟩:=hcut;have yq:=eA.size;have bM:=zab cr;have d3:wc.cell? ⟨w.heap.size,3,none⟩=some (.string fr):=(zah eA bu).trans e3;have q5:wc.cell? ⟨T,5,none⟩=some (.slice D g.died.length dc):=(zah eA df).trans m5;have dZ:=zHi (fun W (hW:Below wc.heap.size wc W)=>zhq g.died D g.died.length dc W rfl Mcy (Ro.sl za9 ((kQ.o.keep eA).keep hW)));obtain⟨fh,jW,av⟩:=yH3 cr eh eA;clear cr eh eA;go_upto_region 19 with fail
          go_cut [93]from 84 to 124 (fun _ W=>∃A2 c2,zby W wr.heap.size g.place g.cls frm g.fin (.slice A1 g.holders.length c1) (.slice A2 (g.died.length+[fr].length) c2)/\OwnS W wr.heap.size 9 1 sC (.slice A2 (g.died.length+[fr].length) c2) (g.died++[fr])/\OwnS W wr.heap.size 71 3 zaa (.slice A1 g.holders.length c1) g.holders/\Below wr.heap.size wr W)
          case first=>
           clear qx qv dG kG HM lH fW cN HN uE dR fV HF kQ ez kO uD nY yH uF yR iV HO b8 HD ly aJ jB pf S2 fM qj eu qt dC HW HT HP HC pi nS By qe jY;refine wp_region_held_drew (S:=(fun w'=>w'.cell? ⟨w.heap.size,3,none⟩=some (.string fr)/\w'.cell? ⟨T,5,none⟩=some (.slice D g.died.length dc))) Mcz ?hS ?hrest
           case hS=>exact⟨d3,q5⟩
           case hrest=>
            intro hHeld;refine TkH 0 ?_;refine TkH 1 ?_;refine TkH 2 ?_;refine TkH 3 ?_;refine TkH 5 ?_;refine TkH 6 ?_;refine wpAnyH_ready (rs:=[4,7]) Mcz McB (AllReadyH.cons (List.getElem?_toArray.trans rfl) (fun K hK=>?_) (AllReadyH.cons (List.getElem?_toArray.trans rfl) (fun K hK=>?_) AllReadyH.nil))
            ·go_simp
             refine(dZ.o _ Bw).mono ?_;rintro e w5 ⟨hv,rfl,o1,o2⟩;obtain⟨A5,c5,sO,_,_⟩:=o1.sl za9;subst sO;have z0:=o2.size;have z1:w.heap.size<w5.heap.size:=by simp at z0;omega
             have z2:T<w5.heap.size:=by simp at z0;omega
             have z3:w5.cell? ⟨w.heap.size,3,none⟩=some (.string fr):=(zah o2 McD).trans d3;have z5:w5.cell? ⟨T,5,none⟩=some (.slice D g.died.length dc):=(zah o2 McD).trans q5;refine NxM hK (fun hHeld=>?_) (⟨z3,z5⟩);clear hK K;refine OnH 7 fun K hK=>?_
             go_simp
             refine NxM hK (fun hHeld=>?_) (⟨(zah (zad (Below.refl _ _) _) z1).trans z3,(zah (zad (Below.refl _ _) _) z2).trans z5⟩);clear hK K;refine OnH 8 fun K hK=>?_
             have oK:Below wc.drew.heap.size wc.drew (w5.alloc (.cells #[.string fr] 9)):=(zad o2 _)
             refine zak (v:=.slice A5 g.died.length c5) (n:=g.died.length) (m:=1) rfl _ _ rfl zbB za9 zbA rfl (xs:=g.died) (ys:=[fr]) (o1.keep (n:=w5.heap.size) Bw) rfl rfl rfl (zcl (zar w5 _ _ McB)) McS Mcy (by have:=z0;simp at this⊢;omega) ?_;exact Mt
            ·go_simp
             have py:Below wc.heap.size wc (wc.drew.alloc (.cells #[.string fr] 9)):=zad (zaK (Below.refl _ _)) _;refine NxM hK (fun hHeld=>?_) (⟨(zah py Mcy).trans d3,(zah py Mcy).trans q5⟩);clear hK K;refine OnH 4 fun K hK=>?_
             go_simp
             have D3:=d3;have Q5:=q5;have d3:=(zah py Mcy).trans D3;have q5:=(zah py Mcy).trans Q5;refine(dZ.o _ Bw).mono ?_;rintro e w5 ⟨hv,rfl,o1,o2⟩;obtain⟨A5,c5,sO,_,_⟩:=o1.sl za9;subst sO;have z0:=o2.size;have z1:w.heap.size<w5.heap.size:=by simp at z0;omega
             have z2:T<w5.heap.size:=by simp at z0;omega
             have z3:w5.cell? ⟨w.heap.size,3,none⟩=some (.string fr):=(zah o2 McD).trans d3;have z5:w5.cell? ⟨T,5,none⟩=some (.slice D g.died.length dc):=(zah o2 McD).trans q5;have d3:=D3;have q5:=Q5;have qX:=py.trans (o2.mono McB);have Jo:=(o2.block wc.heap.size McB).trans (zar wc.drew _ _ rfl);refine NxM hK (fun hHeld=>?_) (⟨z3,z5⟩);clear hK K;refine OnH 8 fun K hK=>?_
             have oK:Below wc.drew.heap.size wc.drew (w5):=⟨qX.os,qX.tape,qX.output,qX.size,qX.block⟩
             refine zak (v:=.slice A5 g.died.length c5) (n:=g.died.length) (m:=1) rfl _ _ rfl zbB za9 zbA rfl (xs:=g.died) (ys:=[fr]) (o1.keep (n:=w5.heap.size) Bw) rfl rfl rfl (zcl Jo) McS Mcy (by have:=z0;simp at this⊢;omega) ?_;exact Mt
          case rest=>
           obtain⟨A2,c2,cr,jn,eh,eA⟩:=hcut;obtain⟨W3,rfl⟩:∃x,x=wc:=⟨_,rfl⟩
           obtain⟨WR,rfl⟩:∃x,x=wr:=⟨_,rfl⟩
           have yq:=eA.size;have bM:=zab cr;have d3:W3.cell? ⟨w.heap.size,3,none⟩=some (.string fr):=(zah eA bu).trans e3;have yA:W3.cell? ⟨WR.heap.size,4,none⟩=some (.slice A1 g.holders.length c1):=Mdi;obtain⟨iJ,iv,l9,dl⟩:=death_bd (n:=fr) (hs:=EF.1) bf qj.o;have nN:∀W,Below W3.heap.size W3 W->_:=fun W hB=>zer g.holders A1 c1 WR.heap.size fr W ((zah hB bM).trans yA) (Nat.lt_of_lt_of_le bM hB.size) Mcy bf.good.asc (Ro.sl zap (eh.ro'.keep hB))
           have iz:∀W,zby W WR.heap.size g.place g.cls frm g.fin (.slice A1 g.holders.length c1) (.slice A2 (g.died.length+[fr].length) c2)->OwnS W WR.heap.size 71 3 zaa (.slice A1 g.holders.length c1) g.holders->Calls Tryz.prog 152 #[.pointer (some ⟨WR.heap.size,0,none⟩),.string fr,.agg #[.int .i64 0,.int .i64 1]] W (zkn W WR.heap.size WR.heap.size g.place g.cls frm g.fin (.slice A2 (g.died.length+[fr].length) c2) (.slice A1 g.holders.length c1) (setP g.holders fr 0)):=fun W h1 h2=>zir WR.heap.size WR.heap.size g.holders _ g.place g.cls frm g.fin _ fr 0 W h1 (Nat.le_refl _) h2 bf.good.asc Mcy
           obtain⟨own,aa⟩:∃own,own=zag g.holders fr:=⟨_,rfl⟩
           rw[<-aa]at nN iJ iv l9 dl;obtain⟨g8,fZ,dh,dH,fh,jW,fU,av⟩:=yH8 nN iz dl aa cr eh jn eA;clear nN iz dl aa cr eh jn eA yA;unfold zaA at g8
           go_upto_region 22 with(first
            |(go_at_call 32
              go_must(refine(g8.o _ Bw).mono ?_)
              rintro e wq ⟨rfl,z,hz⟩;have cL:Below W3.heap.size W3 wq:=(by rw[hz];exact Bw)
              have d3q:=(zah cL (show w.heap.size<W3.heap.size by omega)).trans d3;have dlq:=cL.size;have cG:w.heap.size<wq.heap.size:=Mcy;have jF:=zHi cL
              clear hz cL)
            |(go_at_call 152
              go_must(refine(fZ.o _ ?q1 ?q2).mono ?_)
              case q1=>exact zal ((jF.o.block _ bM).trans fh.o)
              case q2=>exact jW.o.keep (n:=W3.heap.size) (zad jF.o _)
              rintro e wz ⟨rfl,v',t1,t2,t3,t4⟩;obtain⟨T1,T2,T3,T4⟩:=yH4 t1 t2 t3 t4
              clear t1 t2 t3 t4))
           have eO:Below WR.heap.size WR wz:=(av.o.trans ((zad jF.o _).mono Mcy)).trans T3.o;have yE:=eO.size;have wj:(wq.alloc (zbu own)).heap[WR.heap.size]?=some (.cells #[.string g.place,.int .i64 g.cls,.int .i64 frm,.int .i64 g.fin,.slice A1 g.holders.length c1,.slice A2 (g.died.length+[fr].length) c2] 95):=zal ((jF.o.block _ bM).trans fh.o);have vW:=jW.o.keep (n:=W3.heap.size) (zad jF.o (zbu own));have vG:=fU.o.keep (n:=W3.heap.size) (zad jF.o (zbu own));have cg:∀(j:Nat) (cur:Array Value) (t:TypeId) (f:Nat×Nat),(wq.alloc (zbu own)).heap[j]?=some (.cells cur t f)->t≠95->t≠71->wz.heap[j]?=(wq.alloc (zbu own)).heap[j]?:=fun j cur t f hj n1 n2=>
            T4.o j (zab hj) (fun e=>by rw[e,wj]at hj;simp only[Option.some.injEq,Obj.cells.injEq]at hj;exact n1 hj.2.1.symm) (zk9 vW hj n2)
           have EP:OwnS wz WR.heap.size 9 1 sC (.slice A2 (g.died.length+[fr].length) c2) (g.died++[fr]):=vG.same (fun j cur _ hj=>cg j cur _ _ hj McA McA);have zt:wz.heap[wq.heap.size]?=some (zbu own):=(cg _ _ _ _ (zar wq (zbu own) _ rfl) McA McA).trans (zar wq (zbu own) _ rfl);have Fa:MarkAt wz (w.heap.size+1) nx.2:=HM.o.keep eO (zab HM.o);have si:WR.grownBy wz (some (w.heap.size+1)):=⟨eO.os,eO.tape,eO.output,eO.size,fun k hk _=>eO.block k hk⟩
           have xq:=zin (n:=fr) (q:=0) (l:=g.holders);have Jr:WR.heap.size<wq.heap.size:=by have:=jF.o.size;omega
           have ft:=zab HM.o;obtain⟨O,hO⟩:∃O,O=wq.heap.size:=⟨_,rfl⟩
           rw[<-hO]at zt Jr⊢;have hOz:=zab zt;obtain⟨dF,uz,uH,AU,uL,pe⟩:=yH6 eO EP zt Fa si xq;clear eO EP zt Fa si cg wj vW vG xq d3q dlq hO d3 jF T3 T4 g8 fZ cG;go_upto_block 4 with fail
           go_cut [18,19,103]from 104 to 124 (fun _ _ _ W=>∃v out fl,Hid ((out,fl)=zdw fr EF.1 g nx.2)/\MarkAt W (w.heap.size+1) fl/\zby W WR.heap.size g.place g.cls frm g.fin v (.slice A2 (g.died.length+[fr].length) c2)/\OwnS W WR.heap.size 71 3 zaa v out/\OwnS W WR.heap.size 9 1 sC (.slice A2 (g.died.length+[fr].length) c2) (g.died++[fr])/\WR.grownBy W (some (w.heap.size+1)))
           case first=>
            clear pi HC HP HT HW dC qt eu c0 c6 aJ pf S2 bn b8 aG HE uD nY uF jN ly HZ qv nU yR iV HO kO ar aQ Ja kG lH fW y4 nS d3 q5 dG HN HF e3 i0 m0 m1 m2 m3 m4 m5 kQ Ce lj qe jY Dr fU av dR Fp;go_wp2_with fail
            go_loopw [103] (fun i W=>∃(k:Nat) (v:Value) (out:Parts) (fl:Bool),k<=EF.1.length/\i=.int .i64 k/\Hid ((out,fl)=zec own (EF.1.take k) (setP g.holders fr 0,nx.2))/\Hid (out.length<=g.holders.length+1+k)/\MarkAt W (w.heap.size+1) fl/\zby W WR.heap.size g.place g.cls frm g.fin v (.slice A2 (g.died.length+[fr].length) c2)/\OwnS W WR.heap.size 71 3 zaa v out/\OwnS W WR.heap.size 9 1 sC (.slice A2 (g.died.length+[fr].length) c2) (g.died++[fr])/\WR.grownBy W (some (w.heap.size+1))/\W.heap[O]?=some (zbu own)) (fun i _=>EF.1.length-(intOf i).toNat)
            case atStart=>exact⟨0,v',setP g.holders fr 0,nx.2,Nat.zero_le _,rfl,rfl,pe.o,AU.o,T1.o,T2.o,uz.o,uL.o,uH.o⟩
            case round=>
             obtain⟨k,v,out,fl,hk,rfl,om,dP,hm,cr,eh,jn,dq,km⟩:=hrel;clear pe AU T1 T2 uz uL uH dF;obtain⟨A3,c3,rfl,rl,mn⟩:=eh.sl zap;have dl:Bd out 1:=by have:=dh.o nx.2 k;rw[<-om.o]at this;exact this
             have zn:=uE.o.grown dq (.inr fun e=>by have:=(uE.o.ge _ e).1;omega);have sS:=zab cr;have vU:=zab km;have KK:=zab hm;have yA:wr.cell? ⟨WR.heap.size,4,none⟩=some (.slice A3 out.length c3):=Mdi;obtain⟨HD,E7,qO,i8,qh,ej,tg,Iq⟩:=yH8 dl hm cr eh jn dq km rl;have HE3:=zHi zn;clear dl hm cr eh jn km rl dq;by_cases mK:k<EF.1.length
             ·obtain⟨b',off,rfl,cJ,hc⟩:=(zn.sl' zap).at mK;obtain⟨iL,iM,ei⟩:=zdF qj.o (List.getElem_mem mK);have aI:=zoQ own EF.1 (setP g.holders fr 0,nx.2) mK;rw[<-om.o]at aI;have tP:EF.1.length<=en:=by
               obtain⟨A',c',e',_,h'⟩:=zn.sl zap;exact Mba
              generalize EF.1[k]=p at*;obtain⟨pn,q⟩:=p;simp only at iL iM ei;have i0:wr.cell? ⟨b',off+k*3,none⟩=some (.string pn):=hc 0 _ rfl;have i1:wr.cell? ⟨b',off+k*3+1,none⟩=some (.int .i64 q.num):=hc 1 _ rfl;have i2:wr.cell? ⟨b',off+k*3+2,none⟩=some (.int .i64 q.den):=hc 2 _ rfl;have o0:wr.cell? ⟨O,0,none⟩=some (.int .i64 own.num):=by simp only[World.cell?,tg.o,zbu];rfl
              have o1:wr.cell? ⟨O,1,none⟩=some (.int .i64 own.den):=by simp only[World.cell?,tg.o,zbu];rfl
              have wY:zaI (zbg (own*q)):=zbZ (zcu (Rat.mul_nonneg iJ (Rat.le_of_lt iL))) (Rat.le_trans (zgV (Rat.mul_nonneg iJ (Rat.le_of_lt iL))) (zjB iJ l9 (Rat.le_of_lt iL) iM)) (zgk _);obtain⟨dC,AD,qA⟩:=yH3 aI wY mK;have oY:wrap64 ((k:Int)+1)=(k:Int)+1:=by
               have:=eG.o;unfold wrap64;omega
              have Br:=zHi oY;clear oY;have xE:∀W,MarkAt W (w.heap.size+1) fl->Calls Tryz.prog 155 #[.pointer (some ⟨w.heap.size+1,0,none⟩),.agg #[.int .i64 own.num,.int .i64 own.den],.agg #[.int .i64 q.num,.int .i64 q.den]] W (zeA W (w.heap.size+1) fl (own*q)):=fun W h=>zhE (w.heap.size+1) fl W h own q iv ei
              have AT:=zHi xE;have xh:(k:Int)<(EF.1.length:Int):=Mcy;have Ks:(0:Int)<=(k:Int):=Mcy;have Kv:(k:Int)<=(en:Int):=Mcy;have Ff:O≠wr.heap.size:=Mcy;have tX:out.length<=90000:=by have:=dP.o;have:=eG.o;omega
              have tY:w.heap.size+1≠wr.heap.size:=Mcy;clear hc aI wY iL iM xE tP zn
              go_wp2_with (go_at_call 155
                           go_must(refine(AT.o _ (E7.o.alloc _)).mono ?_)
                           rintro e wq ⟨rfl,m1,m2⟩;have iR:=m2.size;have y0:wq.heap[wr.heap.size]?=some (.cells #[.string pn,.int .i64 q.num,.int .i64 q.den] 71):=(m2.block _ McB McD).trans (zar _ _ _ rfl);have y1:wq.cell? ⟨wr.heap.size,0,none⟩=some (.string pn):=(by simp only[World.cell?,y0];rfl)
                           have y3:wr.heap.size<wq.heap.size:=zab y0;obtain⟨M1,M2⟩:=yH2 m1 m2;clear m1 m2 y0
                           simp only[zaA])
              have vS:OwnS wq WR.heap.size 71 3 zaa (.slice A3 out.length c3) out:=OwnS.grown (W:=wr.alloc _) (i8.o.keep (n:=wr.heap.size) (zad (Below.refl _ _) _)) M2.o (.inr fun e=>by have:=(i8.o.ge _ e).1;omega);have m9:zby wq WR.heap.size g.place g.cls frm g.fin (.slice A3 out.length c3) (.slice A2 (g.died.length+[fr].length) c2):=(M2.o.block _ McD McD).trans (zal qO.o);have DH:wq.cell? ⟨WR.heap.size,4,none⟩=some (.slice A3 out.length c3):=by unfold zby at m9;simp only[World.cell?,m9];rfl
              have bv:WR.heap.size<wq.heap.size:=zab m9;obtain⟨OQ,TQ⟩:=yH2 vS m9;have mV:zaI (zag out pn):=HD.o.share Rat.le_refl pn;generalize eB:zbg (own*q)=gt at*;generalize hsv2:zag out pn=sv at*;obtain⟨uK,vm,eI⟩:=yH3 eB hsv2 mV;have Lk:wr.heap.size≠wq.heap.size:=Mcy;have GK:WR.heap.size≠wq.heap.size:=Mcy;clear vS m9 mV eB hsv2 i0 i1 i2 o0 o1;go_region_held3 (fun w'=>w'.cell? ⟨wr.heap.size,0,none⟩=some (.string pn)/\w'.cell? ⟨wq.heap.size,0,none⟩=some (.int .i64 gt.num)/\w'.cell? ⟨wq.heap.size,1,none⟩=some (.int .i64 gt.den))
               ((refine⟨?_,?_,?_⟩<;>first|assumption|(simp[go_sem,y1,y3];done)))
               (first
                 |(go_at_call 32
                   go_loud(refine(zer out A3 c3 WR.heap.size pn _ ?q1 ?q2 Mcy HD.o.good.asc (Sl.keep (OQ.o.sl' zap) (n:=wq.heap.size) Bw)).mono ?_)
                   case q1=>simp[go_sem,DH,bv]
                   case q2=>simp;omega
                   rintro e w5 ⟨rfl,zs,rfl⟩;rw[vm.o]
                   simp only[zaA])
                 |(go_at_call 156
                   go_loud(refine(zhF (w.heap.size+1) (fl||bigQ (own*q)) _ ?q3 sv gt eI.o AD.o).mono ?_)
                   case q3=>(repeat(first|exact M1.o|refine MarkAt.ext ?_ _|refine MarkAt.drew ?_|refine MarkAt.alloc ?_ _))
                   rintro e w6 ⟨rfl,n1,n2⟩;have p3:w6.cell? ⟨wr.heap.size,0,none⟩=some (.string pn):=MdF;have p0:w6.cell? ⟨wq.heap.size,0,none⟩=some (.int .i64 gt.num):=Mc9;have p1:w6.cell? ⟨wq.heap.size,1,none⟩=some (.int .i64 gt.den):=Mc9;obtain⟨N1,N2⟩:=yH2 n1 n2;clear n1 n2
                   simp only[zaA])
                 |(go_at_call 152
                   go_loud(refine(zir WR.heap.size WR.heap.size out (.slice A3 out.length c3) g.place g.cls frm g.fin (.slice A2 (g.died.length+[fr].length) c2) pn (zbg (sv+gt)) _ ?q4 (Nat.le_refl _) ?q5 HD.o.good.asc tX).mono ?_)
                   case q4=>exact(N2.o.block _ McH McD).trans Mdx
                   case q5=>exact OwnS.grown (OQ.o.keep (n:=wq.heap.size) Bw) N2.o (.inr fun e=>by have:=(OQ.o.ge _ e).1;omega)
                   rintro e wz ⟨rfl,v',t1,t2,t3,t4⟩;have s3:wz.cell? ⟨wr.heap.size,0,none⟩=some (.string pn):=(World.cell?_of_block (w:=w6) (t4 wr.heap.size Mc5 Mcy (fun e=>by have:=(i8.o.ge _ e).2;omega))).trans p3;have s0:wz.cell? ⟨wq.heap.size,0,none⟩=some (.int .i64 gt.num):=(World.cell?_of_block (w:=w6) (t4 wq.heap.size Mc5 Mcy (fun e=>by have:=(i8.o.ge _ e).2;omega))).trans p0;have s1:wz.cell? ⟨wq.heap.size,1,none⟩=some (.int .i64 gt.den):=(World.cell?_of_block (w:=w6) (t4 wq.heap.size Mc5 Mcy (fun e=>by have:=(i8.o.ge _ e).2;omega))).trans p1;obtain⟨T1,T2,T3,T4⟩:=yH4 t1 t2 t3 t4
                   clear t1 t2 t3 t4))
              have AA:Hid (zeY own (pn,q) (out,fl)=(setP out pn (zbg (sv+gt)),fl||bigQ (own*q)||bigQ (sv+gt))):=by
               show _=_;unfold zeY;simp only[uK.o,vm.o]
              have cC:MarkAt wz (w.heap.size+1) (fl||bigQ (own*q)||bigQ (sv+gt)):=N1.o.keep T3.o Mcy;have iu:=zin (n:=pn) (q:=zbg (sv+gt)) (l:=out);have h6:wr.grownBy w6 (some (w.heap.size+1)):=zbo (zjJ (zad (Below.refl wr.heap.size wr) _) (Nat.le_refl _) M2.o) (zjJ (n:=wq.heap.size) (W:=((wq.alloc (zbu gt)).drew).ext zs) Bw (Nat.le_refl _) N2.o);have ku:=h6.size;have Gx:w6.heap[WR.heap.size]?=some (.cells #[.string g.place,.int .i64 g.cls,.int .i64 frm,.int .i64 g.fin,.slice A3 out.length c3,.slice A2 (g.died.length+[fr].length) c2] 95):=(h6.block _ sS McD).trans qO.o;have pR:OwnS w6 WR.heap.size 71 3 zaa (.slice A3 out.length c3) out:=i8.o.grown h6 (.inr fun e=>by have:=(i8.o.ge _ e).1;omega);have FC:=qh.o.grown h6 (.inr fun e=>by have:=(qh.o.ge _ e).1;omega);have CF:w6.heap[O]?=some (zbu own):=(h6.block O vU McD).trans tg.o;have cg:∀(j:Nat) (cur:Array Value) (t:TypeId) (f:Nat×Nat),w6.heap[j]?=some (.cells cur t f)->t≠95->t≠71->wz.heap[j]?=w6.heap[j]?:=fun j cur t f hj n1 n2=>
               T4.o j (zab hj) (fun e=>by rw[e,Gx]at hj;simp only[Option.some.injEq,Obj.cells.injEq]at hj;exact n1 hj.2.1.symm) (zk9 pR hj n2)
              have FG:=FC.same (W':=wz) (fun j cur _ hj=>cg j cur _ _ hj McA McA);have CI:wz.heap[O]?=some (zbu own):=(cg _ _ _ _ CF McA McA).trans CF;have si:WR.grownBy wz (some (w.heap.size+1)):=zoS (zbo ej.o h6) T3.o (Nat.le_refl _);obtain⟨AW,fX,uz,uH,uL⟩:=yH5 cC iu FG CI si;clear cC iu h6 Gx pR FC CF cg FG CI si p3 p0 p1 s3 s0 s1 y1;go_wp2_with fail
              go_round
              case rel=>
               have hel:=eG.o;have mK:=qA.o;have pJ:=AA.o.symm.trans dC.o.symm;have mL:(setP out pn (zbg (sv+gt))).length<=g.holders.length+1+(k+1):=by have:=fX.o;have:=dP.o;omega
               exact⟨k+1,v',setP out pn (zbg (sv+gt)),_,qA.o,by rw[Br.o];rfl,pJ,mL,AW.o,T1.o,T2.o,uz.o,uL.o,uH.o⟩
              case measure=>rw[Br.o];have:=qA.o;simp only[intOf];omega
             ·have ar:¬(k:Int)<(EF.1.length:Int):=Mcy;have jP:(out,fl)=zdw fr EF.1 g nx.2:=by
               rw[om.o,List.take_of_length_le Mcy];unfold zdw;rw[<-dH.o]
              have zb:=zHi jP;clear jP om dh;go_wp2_with fail
              go_meet
              exact⟨_,out,fl,zb.o,E7.o,qO.o,i8.o,qh.o,ej.o⟩
           case rest=>
            obtain⟨v9,out,fl,zb,hm,cr,eh,jn,dq⟩:=hcut;obtain⟨W4,rfl⟩:∃x,x=wc:=⟨_,rfl⟩
            obtain⟨A3,c3,rfl,_,mn⟩:=eh.sl zap;have nE:(g.died++[fr]).length<=c2:=by
             obtain⟨A',c',e',_,h'⟩:=jn.sl za9;exact Mba
            have s8:=dq.size;have jx:=cr;unfold zby at jx;obtain⟨m0,m1,m2,m3,m4,m5⟩:=cF6 jx;obtain⟨E,hE⟩:∃E:Tm,E=(⟨g.place,g.cls,g.fin,out,g.died++[fr]⟩,frm,(A3,c3),(A2,c2)):=⟨_,rfl⟩
            have ES:(tmC E).toArray= #[.string g.place,.int .i64 g.cls,.int .i64 frm,.int .i64 g.fin,.slice A3 out.length c3,.slice A2 (g.died.length+[fr].length) c2]:=by rw[hE];simp[tmC]
            have Fb:=HN.o.grown dq (.inr fun e=>by have:=(HN.o.ge _ e).1;omega);have CE:es.length<=1000:=by have:=fW.o;omega
            obtain⟨AX,Hu,DS,E8,B8,ux,DU,Hq⟩:=yH8 Fb ES hE hm eh jn dq nE;clear Fb ES hE hm cr eh jn dq jx dh pe uz uH AU uL dF T1 T2 fh jW fU av d3 q5 nS By qe jY nE;go_upto_region 28 with fail
            go_wp2_with (at_builtin
                         go_loud(refine zat (v:=.slice NA es.length nc) (n:=es.length) (m:=1) rfl _ _ rfl elTm zoc tm_one rfl (xs:=es) (ys:=[E]) (AX.o.keep (n:=W4.heap.size) Bw) rfl rfl rfl (sl_tm (by rw[Hu.o];exact zar _ _ _ McB)) McS Mcy McD ?_)
                         intro v5 w5 h1 h2 h3;obtain⟨H1,H2⟩:=yH2 h1 h2
                         clear h1 h2 h3)
            have oY:wrap64 ((j:Int)+1)=(j:Int)+1:=by
             unfold wrap64;omega
            obtain⟨Br,ak⟩:=yH2 oY ae;clear oY;go_wp2_with fail
            go_round
            case rel=>
             have Dp:=H2.o.size;simp only[World.size_alloc]at Dp;have Jq:=AX.o;have Ge:=HM.o;unfold MarkAt at Ge;have Kt:∀(k:Nat) (cur:Array Value) (t:TypeId) (f:Nat×Nat),WR.heap[k]?=some (.cells cur t f)->t≠200->W4.heap[k]?=WR.heap[k]?:=fun k cur t f hk n1=>
              DU.o.block k (zab hk) (fun e=>by
               simp only[Option.some.injEq]at e;rw[e,Ge]at hk;simp only[Option.some.injEq,Obj.cells.injEq]at hk
               exact n1 hk.2.1.symm)
             have zY:∀(k:Nat) (cur:Array Value) (t:TypeId) (f:Nat×Nat),W4.heap[k]?=some (.cells cur t f)->t≠95->w5.heap[k]?=W4.heap[k]?:=fun k cur t f hk n1=>by
              have hl:=zab hk;have a1:=H2.o.block k McD (fun e=>zk9 Jq hk n1 e.symm);exact a1.trans (Below.heap_alloc _ _ _ hl)
             have fR:∀(k:Nat) (cur:Array Value) (t:TypeId) (f:Nat×Nat),WR.heap[k]?=some (.cells cur t f)->t≠200->t≠95->w5.heap[k]?=WR.heap[k]?:=fun k cur t f hk n1 n2=>by
              have a1:=Kt k cur t f hk n1;exact(zY k cur t f (a1.trans hk) n2).trans a1
             have Cs:Below w.heap.size w w5:=Below.grown (a:=w) (B:=w.heap.size) (zad (zaQ HF.o DU.o Mcy) _ Mcy) H2.o McD (fun k hk=>by have:=(AX.o.ge k hk).1;omega);refine⟨j+1,es++[E],ak.o,by go_num,H1.o,?_,?_,?_,Cs,?_,?_,?_,by omega⟩
             ·show _=_;rw[cN.o,<-zb.o,List.map_append,kG.o,DS.o];rfl
             ·show∀e∈es++[E],TmOk w5 w.heap.size e;intro e he;rcases List.mem_append.1 he with he|he
              ·refine(dG.o e he).same fun k cur t f hk ht=>fR k cur t f hk ?_ ?_
               ·rcases ht with rfl|rfl<;>decide
               ·rcases ht with rfl|rfl<;>decide
              ·rw[List.mem_singleton.1 he,DS.o];refine⟨B8.o.ro'.same fun k cur f hk _=>zY k cur _ f hk McA,mn,ux.o.ro'.same fun k cur f hk _=>zY k cur _ f hk McA,Hq.o,fun a ha=>?_⟩;have ha:A2=some a:=ha;have:=(ux.o.ge a.block (by rw[ha];rfl)).1;omega
             ·rw[cN.o,<-zb.o];exact(zY _ _ _ _ E8.o McA).trans E8.o
             ·exact(fR _ _ _ _ fV.o McA McA).trans fV.o
             ·exact dR.o.same fun k cur _ hk=>fR k cur _ _ hk McA McA
             ·exact uE.o.same fun k cur _ hk=>fR k cur _ _ hk McA McA
            case measure=>have:=ak.o;simp only[intOf];omega
        ·have ar:¬(j:Int)<(HL.length:Int):=Mcy;have cQ:aI.take j=aI:=List.take_of_length_le Mcy;have FI:es.length=HL.length:=Mcy;rw[cQ]at kG HM;have Hw:=zHi FI;clear cQ FI rY aa hm hF hD hO hE eS;go_wp2_with fail
         go_meet
         exact⟨NA,nc,es,by rw[Hw.o],HN.o,kG.o,dG.o,HM.o,HF.o,fV.o,dR.o⟩
      case rest=>
       obtain⟨NA,nn,es,rfl,jv,jo,bE,hm,hF,hD,hO⟩:=hcut;obtain⟨W6,rfl⟩:∃x,x=wc:=⟨_,rfl⟩
       have ye:=zfO fr dy EF.1 s.graves [] EF.2;have aW:W6.cell? ⟨w.heap.size+1,0,none⟩=some (.bool (zcW fr EF.1 aI EF.2).2):=(zbS hm).1;have KL:=zab hm;have wT:es.length=HL.length:=by
        have h1:=congrArg List.length jo;rw[List.length_map,zkw]at h1;have:=nU.o;omega
       have mf:s.graves.any (zc7 fr dy)=true:=by
        cases hc:s.graves.any (zc7 fr dy)
        ·have h1:=iV.o;rw[List.filter_eq_nil_iff.2 (fun x hx=>by have:=List.any_eq_false.1 hc x hx;simpa using this)]at h1;have:=nU.o;rw[<-h1]at this;exact absurd this HZ.o
        ·rfl
       rw[List.nil_append,List.nil_append,List.length_nil,iV.o]at ye;have hX:=HX.o;rw[mf,<-ye.1,<-ye.2,<-jo]at hX;simp only[Bool.false_eq_true,if_false,if_true]at hX;have eL:=zHi hX;generalize(zcW fr EF.1 aI EF.2).2=fl at*;obtain⟨kG,fW,dG,qm,Hp,lM,Ea,uM⟩:=yH8 jo wT bE hF hD hO jv (fun j hj=>qx.o w (Below.refl _ _) j hj);have uJ:Hid ((s.graves.filter (zc7 fr dy)).length=HL.length):=by show _=_;rw[iV.o,nU.o]
       clear ye mf hX jo bE hm hF hD hO jv wT HX qx ly HM b8 HO HD kO uD nY yH uF qv qj eG HE yR iV;cases fl
       ·have rC:=eL.o;simp only[Bool.false_eq_true,if_false]at rC;have ka:=zHi rC;clear rC eL;have ku:=qm.o.size;have Ay:∃HI,HI=zbd fr dy 0 s.graves:=⟨_,rfl⟩
        obtain⟨HI,BT⟩:=Ay;rw[<-BT]at ka uM;have kZ:HI.length=HL.length:=by
         rw[BT,zf2,uJ.o]
        have gX:HL.length<=nn:=by
         obtain⟨A',c',e',_,h'⟩:=Ea.o.sl zoc;simp only[Value.slice.injEq]at e';have:=fW.o;omega
        have zW:HL.length<=hn:=by
         obtain⟨A',c',e',_,h'⟩:=lM.o.sl zdb;exact Mba
        obtain⟨yQ,In,AF⟩:=yH3 kZ gX zW;clear BT kZ gX zW uJ;go_wp2_with fail
        go_loopw [129] (fun i wr=>∃j:Nat,j<=HL.length/\i=.int .i64 j/\Hid (WldC wr b dd cc pp wl rr mv (.slice TA ps.length tc) la co)/\Hid (PplAt base wr Bk dd cc pp wl rr mv s)/\Hid (TombsAt base wr Bk (.slice TA ps.length tc) ps (zdx s.graves (HI.take j) ((es.map (·.1)).take j)))/\Hid (Below base w wr)/\wr.heap[w.heap.size]?=some (.cells #[.int .i64 kd,.int .i64 dy,.string pl,.string fr,.slice B ts.length c,.int .i64 cl,.int .i64 yr] 76)/\Hid (KeepD w wr)/\OwnS wr (w.heap.size+1+1) 80 1 ptrC (.slice HA HL.length hn) HL/\OwnS wr (w.heap.size+1+1) 95 6 tmC (.slice NA HL.length nn) es/\Hid (∀e∈es,TmOk wr w.heap.size e)/\w.heap.size<=wr.heap.size) (fun i _=>HL.length-(intOf i).toNat)
        case atStart=>exact⟨0,Nat.zero_le _,rfl,HC.o.keep qm.o,HP.o.keep qm.o,HT.o.keep qm.o,qm.o.mono Mcy,Hp.o,KeepD.below qm.o,lM.o,by rw[<-fW.o]at*;exact Ea.o,dG.o,ku⟩
        case round=>
         obtain⟨j,hj,rfl,DQ,ph,nt,cj,BM,uO,zA,vQ,uW,kv⟩:=hrel;obtain⟨Au,uV,Eb⟩:=yH3 BM zA vQ;by_cases ae:j<HL.length
         ·have oN:j<es.length:=by have:=fW.o;omega
          obtain⟨i,g,hi,gZ,aO,_,gR⟩:=uM.o j ae;have Fr:HL[j]<w.heap.size:=by obtain⟨_,_,_,_,_,t1,_⟩:=gR;exact zab t1
          obtain⟨cJ,dt,BU,rS,vK⟩:=(zA.sl' zdb).at ae;subst BU;have i0:wr.cell? ⟨cJ,dt+j,none⟩=some (.pointer (some ⟨HL[j],0,none⟩)):=by have:=vK 0 _ rfl;simpa using this
          obtain⟨nb,noff,Jp,sE,rj⟩:=(vQ.sl' zoc).at oN;subst Jp;have bE:=uW.o es[j] (List.getElem_mem oN);have eV:i<(zdx s.graves (HI.take j) ((es.map (·.1)).take j)).length:=by rw[zjF];exact(List.getElem?_eq_some_iff.1 aO).1
          obtain⟨H,aN,D,dc,frm,t1,t2,_⟩:=nt.o.all i _ _ gZ (List.getElem?_eq_getElem eV);have bL:zdx s.graves (HI.take (j+1)) ((es.map (·.1)).take (j+1))=(zdx s.graves (HI.take j) ((es.map (·.1)).take j)).set i es[j].1:=by
           have FS:j<HI.length:=by have:=yQ.o;omega
           have Kp:j<(es.map (·.1)).length:=by rw[List.length_map];exact oN
           have Jc:HI[j]=i:=by
            rw[List.getElem?_eq_getElem FS]at hi;exact Option.some.inj hi
           rw[List.take_succ_eq_append_getElem FS,List.take_succ_eq_append_getElem Kp,List.getElem_map,Jc];exact ziB _ _ _ _ _ (by rw[List.length_take,List.length_take];omega)
          obtain⟨cN,qD,lO⟩:=yH3 bL gZ bE;generalize HL[j]=T at*;generalize hE:es[j]=E at*;obtain⟨⟨gp,gc,gf,gh,gd⟩,efr,⟨EH,ehc⟩,⟨ED,edc⟩⟩:=E;have n0:wr.cell? ⟨nb,noff+j*6,none⟩=some (.string gp):=rj 0 _ rfl;have n1:wr.cell? ⟨nb,noff+j*6+1,none⟩=some (.int .i64 gc):=rj 1 _ rfl;have n2:wr.cell? ⟨nb,noff+j*6+2,none⟩=some (.int .i64 efr):=rj 2 _ rfl;have n3:wr.cell? ⟨nb,noff+j*6+3,none⟩=some (.int .i64 gf):=rj 3 _ rfl;have n4:wr.cell? ⟨nb,noff+j*6+4,none⟩=some (.slice EH gh.length ehc):=rj 4 _ rfl;have n5:wr.cell? ⟨nb,noff+j*6+5,none⟩=some (.slice ED gd.length edc):=rj 5 _ rfl;have df:=zab t1;have ez:=zHi t1;unfold zby at t1;generalize bf:(zdx s.graves (HI.take j) ((es.map (·.1)).take j))[i]=gg at*;obtain⟨z0,z1,z2,z3,z4,z5⟩:=cF6 t1;have fz:∀j,wr.frozen? ⟨T,j,none⟩=false:=fun j=>by simp only[World.frozen?,t1];rfl
          have ar:(j:Int)<(HL.length:Int):=Mcy;have aQ:(0:Int)<=(j:Int):=Mcy;have hkh:(j:Int)<=(hn:Int):=by have:=AF.o;omega
          have js:(j:Int)<=(nn:Int):=by have:=In.o;omega
          have hnT:nb≠T:=by
           have:=(vQ.ge nb rfl).1;omega
          obtain⟨ak,qN⟩:=yH2 ae Fr;clear bf hE bL gZ bE vK rj hi aO gR t1 BM zA vQ eV oN;go_wp2_with fail
          go_round
          case rel=>
           have hg:=zca wr T (.string gp) (.int .i64 gc) (.int .i64 efr) (.int .i64 gf) (.slice EH gh.length ehc) (.slice ED gd.length edc);have JD:=zi0 (show wr.heap[T]?=some (.cells #[.string gg.place,.int .i64 gg.cls,.int .i64 frm,.int .i64 gg.fin,.slice H gg.holders.length aN,.slice D gg.died.length dc] 95) from ez.o) (.string gp) (.int .i64 gc) (.int .i64 efr) (.int .i64 gf) (.slice EH gh.length ehc) (.slice ED gd.length edc);have Fr:=qN.o;have zZ:∀(k:Nat) (cur:Array Value) (t:TypeId) (f:Nat×Nat),wr.heap[k]?=some (.cells cur t f)->t=71\/t=9->((((((wr.setCell ⟨T,0,none⟩ (.string gp)).setCell ⟨T,1,none⟩ (.int .i64 gc)).setCell ⟨T,2,none⟩ (.int .i64 efr)).setCell ⟨T,3,none⟩ (.int .i64 gf)).setCell ⟨T,4,none⟩ (.slice EH gh.length ehc)).setCell ⟨T,5,none⟩ (.slice ED gd.length edc)).heap[k]?=wr.heap[k]?:=fun k cur t f hk ht=>
            hg.block k (zab hk) (fun e=>by
             simp only[Option.some.injEq]at e;rw[e,show wr.heap[T]?=_ from ez.o]at hk;simp only[Option.some.injEq,Obj.cells.injEq]at hk;rw[<-hk.2.1]at ht;revert ht
             decide)
           have hN:TombAt ((((((wr.setCell ⟨T,0,none⟩ (.string gp)).setCell ⟨T,1,none⟩ (.int .i64 gc)).setCell ⟨T,2,none⟩ (.int .i64 efr)).setCell ⟨T,3,none⟩ (.int .i64 gf)).setCell ⟨T,4,none⟩ (.slice EH gh.length ehc)).setCell ⟨T,5,none⟩ (.slice ED gd.length edc)) base Bk T ⟨gp,gc,gf,gh,gd⟩:=
            ⟨EH,ehc,ED,edc,efr,JD,t2,lO.o.hc,lO.o.dc,lO.o.hs.kept hg ez.o McA,lO.o.ds.kept hg ez.o McA,fun _ a ha hb=>by
              have h1:=lO.o.ge a ha;have h2:=ppl_rows HP.o _ hb
              omega⟩
           refine⟨j+1,ak.o,by go_num,wldC_tomb DQ.o ez.o hg,ph.o.kept hg ez.o McA McA McA,?_,zaQ cj.o hg t2 Mcy,(hg.block _ (zab Au.o) McD).trans Au.o,uO.o.trans (KeepD.cells hg ez.o McA),uV.o.kept hg ez.o McA,Eb.o.grown hg (.inr fun e=>by have:=(Eb.o.ge _ e).1;omega),fun e he=>(uW.o e he).same zZ,Nat.le_trans kv hg.size⟩;show TombsAt _ _ _ _ _ _;rw[cN.o];exact zmR nt.o qD.o ez.o hg hN
          case measure=>have:=ak.o;simp only[intOf];omega
         ·have ar:¬(j:Int)<(HL.length:Int):=Mcy;have h1:HI.take j=HI:=List.take_of_length_le (by have:=yQ.o;omega);have h2:(es.map (·.1)).take j=es.map (·.1):=List.take_of_length_le (by have:=fW.o;rw[List.length_map];omega);rw[h1,h2]at nt;clear h1 h2 BM zA vQ;go_wp2_with fail
          go_meet
          exact⟨_,ka.o,⟨Bk,dd,cc,pp,wl,rr,mv,_,ps,ba,DQ.o,⟨ph.o.nd,ph.o.ge,ph.o.dead,ph.o.rows,ph.o.marr,ph.o.wills,ph.o.ren⟩,nt.o⟩,cj.o,Au.o,uO.o⟩
       ·have rC:=eL.o;simp only[if_true]at rC;have ka:=zHi rC;clear rC eL;go_wp2_with fail
        go_ret
        exact zbN HW.o qm.o ka.o
   case rest=>
    obtain⟨gs,au,JJ,eA,zm,Jl⟩:=hcut;have I7:=zHi Jl;obtain⟨W9,rfl⟩:∃x,x=wc:=⟨_,rfl⟩
    obtain⟨Bk',d',c',p',wl',r',mv',tv',ps',ed,cD,gu,fP⟩:=JJ;have rS:=zab cD;have bu:=zab zm;obtain⟨Hk,B9,En,fK⟩:=yH4 cD gu fP eA;unfold WldC at cD;obtain z0:=cF1 cD;obtain⟨-,-,-,z3⟩:=cF4 zm;obtain⟨es,ec,hx⟩:=zbl gu.dead;have om:=zHi hx;have jL:=gu.dead.at.lt;have dl:b≠d':=fun e=>by subst e;rw[cD]at hx;simp at hx
    have DC:w.heap.size≠d':=fun e=>by rw[<-e,zm]at hx;simp at hx
    clear cD gu fP eA zm hx;go_upto_region 37 with fail
    refine wp_region_held_drew (S:=(fun w'=>w'.cell? ⟨b,0,none⟩=some (.map (some d'))/\w'.cell? ⟨w.heap.size,3,none⟩=some (.string fr))) Mcz ?hS ?hrest
    case hS=>exact⟨z0,z3⟩
    case hrest=>
     intro hHeld;refine TkH 0 ?_;refine TkH 1 ?_;refine TkH 2 ?_;refine TkH 3 ?_;refine TkH 4 ?_;refine TkH 5 ?_;refine TkH 6 ?_;refine OnH 7 fun K hK=>?_
     obtain⟨w6,hrun,iI,bC,ku⟩:=zbY (w:=W9.drew) zli (B9.o.dead.keep (w':=W9.drew) rfl) fr true;refine zdd rfl _ _ _ rfl _ _ _ rfl rfl rfl w6 hrun ?_;have oH:W9.grownBy w6 (some d'):=⟨bC.os,bC.tape,bC.output,bC.size,bC.block⟩
     have p6:w6.cell? ⟨b,0,none⟩=some (.map (some d')):=(zbb oH rS dl).trans z0;have q6:w6.cell? ⟨w.heap.size,3,none⟩=some (.string fr):=(zbb oH bu DC).trans z3;obtain⟨uR,jD⟩:=yH2 iI oH;clear iI bC oH hrun;refine hK.out _ _ ?_ (fun hHeld=>?_);focus((try dsimp only);refine⟨?_,?_⟩<;>assumption)
     clear hK K;try simp only[Act.put,List.setIfInBounds_toArray,List.set_cons_zero,List.set_cons_succ]
     refine wpAnyH_done Mcz ?_ _;go_wp2_with fail
     go_ret
     rw[au.o];have eT:=B9.o.ge;have tY:mput eqS fr true (s.dead.map fun n=>(n,true))=(s.dead++[fr]).map fun n=>(n,true):=by
      have hz:=ziD (eq:=eqS) (k:=fr) (l:=s.dead) (by rw[zhC];exact rW);rw[zkx hz];simp
     have sy:MapS w6 d' ekS evB ((s.dead++[fr]).map fun n=>(n,true)):=by
      rw[<-tY];exact uR.o
     exact⟨rfl,zmG ed Hk.o En.o jD.o om.o rfl (ppl_dead B9.o jD.o sy),zaQ fK.o jD.o eT.1 (by have:=HW.o.lt;omega),I7.o.trans (KeepD.map jD.o om.o)⟩
 ·go_quiet (fail)
  go_wp2_with fail
  go_ret
  exact zbN HW.o Bw HX.o

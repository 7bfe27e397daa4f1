import Derived.Test.YtegdimedhfafjaaGreatDoorO9
import Derived.Test.YtegdimedhfafjaaGreatDoorE1
import Derived.Test.YtegdimedhfafjaaGreatDoorE5
set_option linter.all false
set_option maxRecDepth 100000
set_option maxHeartbeats 4000000
namespace Go.Proofs.YtegdimedhfafjaaGreatDoor
open Go.RowKit Go.Shelf
attribute [local go_sem] World.cell?_alloc_mark zaf za5 zao za8 zav zaw zax zay zaz za0 za1
attribute [local go_sem] zaq zad
theorem estate_bd{s:St}{law:Law}{n:ByteArray}(hw:WillOk (zbw s n))(hl:za9 16 law.num law.den=true):Bd (zch s law n).1 1:=by
 have hi:=zk3 (s:=s) (frm:=n) hw (zbw s n).length;rw[List.take_of_length_le (Nat.le_refl _)]at hi;unfold zch;generalize zdd s n (zbw s n) ([],false) 1=y at*;obtain⟨⟨o,f⟩,r⟩:=y;obtain⟨o1,o2,_,_⟩:=own_ok hi.isN hi.nn hi.le hl;have hb:=hi.bd;have hn:=hi.nn;simp only at*;split
 ·exact(zfA (fl:=f) hb hn).up6 McG
 ·split
  ·exact(zg9 (fl:=f) hn hb).up6 McG
  ·exact(zg9 (fl:=(zcK (zcl s n) (r*Rat.divInt law.num law.den) (o,f)).2) (show 0<=r-r*Rat.divInt law.num law.den by grind) (zfA (n:=zcl s n) (fl:=f) hb o1)).up6 McG
theorem death_bd{g:Grave}{n:ByteArray}{hs:Parts}(hG:GoodG g)(hE:Bd hs 1):0<=zag g.holders n/\zaJ (zag g.holders n)/\zag g.holders n<=1/\∀(f:Bool) (k:Nat),Bd (zef (zag g.holders n) (hs.take k) (setP g.holders n 0,f)).1 1:=by
 have ho:=zbB hG.good n;have bG:=zds hG.good n;have dQ:sumQ g.holders<=1:=by
  rcases hG.one with h|h
  ·rw[h];decide
  ·rw[h];exact Rat.le_refl
 have hb:Bd (setP g.holders n 0) (1-zag g.holders n):=by
  refine⟨zhD hG.good Mco,zer hG.small Mco,?_⟩;rw[zm6 hG.good];grind
 refine⟨ho,zcb ho McG (zcF n hG.small),by grind,fun f k=>?_⟩
 have h2:=zm7 ho (l:=hs.take k) (f:=f) (fun p hp=>by
  have:=hE.good.pos p (List.mem_of_mem_take hp)
  grind) hb
 refine h2.up ?_;have h3:=zl7 hs hE.good.pos k;have h4:=hE.le;have h5:=Rat.mul_nonneg ho (show 0<=1-sumQ (hs.take k) by grind);grind
theorem sum_mem{l:Parts}(h:∀p∈l,0<p.2){p:ByteArray×Rat}(hp:p∈l):p.2<=sumQ l:=by
 induction l with
 |nil=>cases hp
 |cons x l ih=>
  rw[sumQ];have h1:=zj2 (l:=l) fun q hq=>h q Mdl
  have h2:=h x Mcp;rcases List.mem_cons.1 hp with rfl|hp
  ·grind
  ·have:=ih (fun q hq=>h q Mdl) hp;grind
theorem zdG{hs:Parts}(hE:Bd hs 1){p:ByteArray×Rat}(hp:p∈hs):0<p.2/\p.2<=1/\zaJ p.2:=by
 have h0:=hE.good.pos p hp;have h1:p.2<=1:=by
  have:=hE.le;have h2:=sum_mem hE.good.pos hp;grind
 refine⟨h0,h1,zcb McG h1 ?_⟩;have:=hE.small;unfold zaF at this;rw[List.any_eq_false]at this;simpa using this p hp
theorem zoR(own:Rat)(hs:Parts)(x:Parts×Bool){k:Nat}(h:k<hs.length):zef own (hs.take (k+1)) x=zfd own hs[k] (zef own (hs.take k) x):=by
 rw[List.take_succ_eq_append_getElem h,zfe];rfl
theorem tomb_set5{W:World}{T:Nat}{pl:ByteArray}{cl fr en:Int}{v dv:Value}(h:zbz W T pl cl fr en v dv)(v':Value):zbz (W.setCell ⟨T,5,none⟩ v') T pl cl fr en v v':=by
 unfold zbz at*;have:=Joins.block_setCell (i:=5) h v';simpa using this
theorem zkC{α:Type}{W:World}{base:Nat}{e t:TypeId}{size:Nat}{f:α->List Value}{v:Value}{xs:List α}{T:Nat}{cs:Array Value}{fr:Nat×Nat}(h:OwnS W base e size f v xs)(hT:W.heap[T]?=some (.cells cs t fr))(ai:t≠e):za7 v≠some T:=by
 exact M3
def zbQ(n:ByteArray)(day:Int)(ps:List Nat)(gs:List Grave):List Nat:=(zbe n day 0 gs).map fun i=>ps.getD i 0
theorem zoS(a b:Int)(w:World):(Instr.field 56 (.agg #[.int .i64 a,.int .i64 b]) 0).run Tryz.prog w=.ok (.int .i64 a) w:=by kernel_rfl
abbrev Tm:=Grave×Int×(Option Addr×Nat)×(Option Addr×Nat)
def tmC(e:Tm):List Value:=[.string e.1.place,.int .i64 e.1.cls,.int .i64 e.2.1,.int .i64 e.1.fin,.slice e.2.2.1.1 e.1.holders.length e.2.2.1.2,.slice e.2.2.2.1 e.1.died.length e.2.2.2.2]
theorem zof(e:Tm):(tmC e).length=6:=rfl
theorem tm_one(e:Tm):∀u∈tmC e,u.oneCell'=true:=by simp[tmC,Value.oneCell']
theorem elTm:ElTy Tryz.prog 142 84 6 88:=zd3 (z:=.agg #[.string ⟨#[]⟩,.int .i64 0,.int .i64 0,.int .i64 0,.slice none 0 0,.slice none 0 0]) Mcn Mcn rfl Mco
structure TmOk (W:World) (n0:Nat) (e:Tm):Prop where
 hs:Ro W 62 zaa e.2.2.1.1 e.1.holders
 hc:e.1.holders.length<=e.2.2.1.2
 ds:Ro W 9 sC e.2.2.2.1 e.1.died
 dc:e.1.died.length<=e.2.2.2.2
 ge:∀a,e.2.2.2.1=some a->n0<=a.block
theorem TmOk.same{W W':World}{n0:Nat}{e:Tm}(h:TmOk W n0 e)(hk:∀(k:Nat) (cur:Array Value) (t:TypeId) (f:Nat×Nat),W.heap[k]?=some (.cells cur t f)->t=62\/t=9->W'.heap[k]?=W.heap[k]?):TmOk W' n0 e:=
 ⟨h.hs.same fun b cur f hb _=>hk b cur _ f hb (.inl rfl),h.hc,h.ds.same fun b cur f hb _=>hk b cur _ f hb (.inr rfl),h.dc,h.ge⟩
theorem held_tomb{n:ByteArray}{day:Int}{ps:List Nat}{gs:List Grave}{base:Nat}{W:World}{B:List Nat}{tv:Value}(hT:TombsAt base W B tv ps gs){j:Nat}(hj:j<(zbQ n day ps gs).length):
 ∃i g,(zbe n day 0 gs)[j]?=some i/\ps[i]?=some (zbQ n day ps gs)[j]/\gs[i]?=some g/\(gs.filter (zc2 n day))[j]?=some g/\TombAt W base B (zbQ n day ps gs)[j] g:=by
 have sA:j<(zbe n day 0 gs).length:=by unfold zbQ at hj;simpa using hj
 obtain⟨_,g,h2,h3⟩:=zoc n day gs 0 j _ (List.getElem?_eq_getElem sA);rw[Nat.sub_zero]at h2;have hi:(zbe n day 0 gs)[j]<ps.length:=by have:=(List.getElem?_eq_some_iff.1 h2).1;have:=hT.len;omega
 have hp:ps[(zbe n day 0 gs)[j]]?=some (zbQ n day ps gs)[j]:=by
  have e:(zbQ n day ps gs)[j]=ps.getD (zbe n day 0 gs)[j] 0:=by unfold zbQ;simp
  rw[e,List.getElem?_eq_getElem hi,List.getD_eq_getElem?_getD,List.getElem?_eq_getElem hi];rfl
 exact⟨_,g,List.getElem?_eq_getElem sA,hp,h2,h3,hT.all _ _ _ hp h2⟩
theorem sl_tm{w:World}{b:Nat}{e:Tm}{t:TypeId}{fr:Nat×Nat}(h:w.heap[b]?=some (.cells (tmC e).toArray t fr)):Sl w 6 tmC (some ⟨b,0,none⟩) [e]:=fun _=>⟨b,0,rfl,zab h,fun k y hy j u hu=>by
 have hk:k=0:=Mcy;subst hk;simp only[List.getElem?_cons_zero,Option.some.injEq]at hy;subst hy;simp only[World.cell?,h,Nat.zero_mul,Nat.zero_add,Nat.add_zero]
 simpa using hu⟩
theorem ppl_rows{base:Nat}{W:World}{B:List Nat}{d c p wl r:Nat}{mv:Value}{s:St}(h:PplAt base W B d c p wl r mv s):∀g∈B,g<W.heap.size:=fun g hg=>by
 obtain⟨mc,mp,_,_,k3,k4,k5,_,kn1,kn2⟩:=h.rows;have key:∀ {m:List (ByteArray×Value)} {f:ByteArray->List ByteArray},(m.map (·.1)).Nodup->(∀n,RowIs W base m n (f n))->g∈zaY m->g<W.heap.size:=fun {m f} hk hr h=>by
  obtain⟨e,he,dg⟩:=zcY.1 h;have h1:=zhI hk (show(e.1,e.2)∈m from he);rcases hr e.1 with⟨h2,_⟩|⟨v,h2,h3⟩
  ·rw[h2]at h1;cases h1
  ·rw[h2]at h1;simp only[Option.some.injEq]at h1;rw[h1]at h3;exact(h3.ge g dg).2
 rw[k5,zcz,List.mem_append]at hg;rcases hg with hg|hg
 ·exact key kn1 k3 hg
 ·exact key kn2 k4 hg
theorem zna{base i T:Nat}{W W':World}{B ps:List Nat}{tv:Value}{gs:List Grave}{g':Grave}{cs:Array Value}{fr:Nat×Nat}(hT:TombsAt base W B tv ps gs)
 (hi:ps[i]?=some T)(hx:W.heap[T]?=some (.cells cs 84 fr))(hg:W.grownBy W' (some T))(hN:TombAt W' base B T g'):TombsAt base W' B tv ps (gs.set i g'):=by
 refine⟨hT.own.kept hg hx Mco,by simp[hT.len],hT.nd,fun j T' g e1 e2=>?_⟩;by_cases hj:i=j
 ·subst hj;rw[hi]at e1;have eU:i<gs.length:=MdM;exact Mbn
 ·exact Map
theorem wldC_tomb{W W':World}{b d c p wl r T:Nat}{mv tv:Value}{la co:Int}{cs:Array Value}{fr:Nat×Nat}(h:WldC W b d c p wl r mv tv la co)(hx:W.heap[T]?=some (.cells cs 84 fr))(hg:W.grownBy W' (some T)):WldC W' b d c p wl r mv tv la co:=
 (hg.block b (zab h) (fun e=>by
   simp only[Option.some.injEq]at e;subst e;unfold WldC at h;rw[h]at hx
   simp at hx)).trans h
theorem zoT{w W W':World}{g n:Nat}(h:w.grownBy W (some g))(hb:Below n W W')(hn:w.heap.size<=n):w.grownBy W' (some g):=
 ⟨hb.os.trans h.os,hb.tape.trans h.tape,hb.output.trans h.output,Nat.le_trans h.size hb.size,fun k hk ai=>(hb.block k Mcm).trans (h.block k hk ai)⟩
theorem zjN{w W W':World}{g n:Nat}(hb:Below n w W)(hn:w.heap.size<=n)(h:W.grownBy W' (some g)):w.grownBy W' (some g):=
 ⟨h.os.trans hb.os,h.tape.trans hb.tape,h.output.trans hb.output,Nat.le_trans hb.size h.size,fun k hk ai=>(h.block k (Nat.lt_of_lt_of_le hk hb.size) ai).trans (hb.block k Mcm)⟩
theorem B_drop{w W:World}(h:Below w.drew.heap.size w.drew W):Below w.heap.size w W:=⟨h.os,h.tape,h.output,h.size,h.block⟩
theorem death_any(base b:Nat)(s:St)(la co last:Int)(laws:List Law)(LA:Option Addr)(lc:Nat)(d:Deed)(B:Option Addr)(c:Nat)(w:World)(hW:WldAt base w b s la co)(jm:GoodSt s last)(hl:last<=d.day)(hk:d.kind=8)(eV:za9 16 (zbb laws d.day).num (zbb laws d.day).den=true)(fG:laws.length<=10)(eC:Sl w 4 Law.cells LA laws)
 (kU:s.graves.length<=1000)(bV:s.children.length<=1000)(fI:s.marriages.length<=1000)(bW:(zbw s d.frm).length<=1000)(cx:∀g∈s.graves,g.holders.length<=70000/\g.died.length<=1000):
 Calls Tryz.prog 55 #[.pointer (some ⟨b,0,none⟩),.slice LA laws.length lc,d.v B c] w (zbH base b (zdJ laws s d) la co w):=by
 have hq:=deathP_eq jm hl eV;have Fg:=estate_bd (s:=s) (law:=zbb laws d.day) (jm.wills d.frm) eV;have ao:=hW;obtain⟨Bk,dd,cc,pp,wl,rr,mv,tv,ps,b8,hC,hP,hT⟩:=hW;have cu:=zab hC;obtain⟨kd,dy,pl,fr,ts,cl,yr⟩:=d;simp only at*;clear hk;have HX:Hid (zdJ laws s ⟨kd,dy,pl,fr,ts,cl,yr⟩=_):=hq;generalize zdJ laws s ⟨kd,dy,pl,fr,ts,cl,yr⟩=X at*;obtain⟨TA,tc,rfl,_,ur⟩:=hT.own.sl zcW;have FN:=hT.own;obtain⟨vr,HC,HP,HT,HW,dB,qF,cM⟩:=yH8 hT.len hC hP hT ao jm cx eC;have qy:=zHi Fg;unfold WldC at hC;obtain⟨c0,-,-,-,-,-,c6⟩:=cF7 hC;have ij:=zHi (fun W (hB:Below w.heap.size w W)=>zdu (HP.o.keep hB) fr);have aP:∀q',_:=fun q'=>ij.o ((w.alloc (.cells #[.int .i64 kd,.int .i64 dy,.string pl,.string fr,.slice B ts.length c,.int .i64 cl,.int .i64 yr] 28)).drewN q') (zd2 Bw _)
 generalize sk:zaM s fr=dx at*;clear hC hP hT ao jm cx eC hq Fg;unfold Deed.v;simp only;go_enter Tryz.func55,Tryz.ntmps55
 go_upto_region 1 with fail
 cases dx
 ·go_quiet (fail)
  go_upto_block 0 with fail
  have bx:Below w.heap.size w (((w.alloc (.cells #[.int .i64 kd,.int .i64 dy,.string pl,.string fr,.slice B ts.length c,.int .i64 cl,.int .i64 yr] 28)).drewN nq).alloc (.cells #[.bool false] 138)):=zac (zd2 Bw _) _;have D2:(((w.alloc (.cells #[.int .i64 kd,.int .i64 dy,.string pl,.string fr,.slice B ts.length c,.int .i64 cl,.int .i64 yr] 28)).drewN nq).alloc (.cells #[.bool false] 138)).heap[w.heap.size]?=some (.cells #[.int .i64 kd,.int .i64 dy,.string pl,.string fr,.slice B ts.length c,.int .i64 cl,.int .i64 yr] 28):=zak (zas _ _ _ rfl);have M2:MarkAt (((w.alloc (.cells #[.int .i64 kd,.int .i64 dy,.string pl,.string fr,.slice B ts.length c,.int .i64 cl,.int .i64 yr] 28)).drewN nq).alloc (.cells #[.bool false] 138)) (w.heap.size+1) false:=zas _ _ _ (by simp[World.drewN]);have s2:(((w.alloc (.cells #[.int .i64 kd,.int .i64 dy,.string pl,.string fr,.slice B ts.length c,.int .i64 cl,.int .i64 yr] 28)).drewN nq).alloc (.cells #[.bool false] 138)).heap.size=w.heap.size+1+1:=by simp[World.drewN]
  generalize(((w.alloc (.cells #[.int .i64 kd,.int .i64 dy,.string pl,.string fr,.slice B ts.length c,.int .i64 cl,.int .i64 yr] 28)).drewN nq).alloc (.cells #[.bool false] 138))=W2 at*;obtain⟨aA,jK,pw,S2⟩:=yH4 bx D2 M2 s2;clear D2 M2 s2 aP;have bo:=bx.size;clear bx;go_cut [8,10,35]from 36 (fun v8 _ _ wc=>∃A n,v8=.slice A (zbQ fr dy ps s.graves).length n/\OwnS wc W2.heap.size 81 1 ptrC v8 (zbQ fr dy ps s.graves)/\Below W2.heap.size W2 wc)
  case first=>
   go_wp2_with fail
   go_loopw [8,35] (fun v i wr=>∃(k:Nat),k<=ps.length/\i=.int .i64 k/\OwnS wr W2.heap.size 81 1 ptrC v (zbQ fr dy ps (s.graves.take k))/\Below W2.heap.size W2 wr) (fun _ i _=>ps.length-(intOf i).toNat)
   case atStart=>exact⟨0,Nat.zero_le _,rfl,OwnS.nil,Below.refl _ _⟩
   case round=>
    obtain⟨k,hk,rfl,ae,hB⟩:=hrel;obtain⟨VA,vc,rfl,_,jV⟩:=ae.sl zcW;have aS:Below w.heap.size w wr:=aA.o.trans (hB.mono bo);have hsz:=hB.size;obtain⟨HO,HB⟩:=yH2 ae hB;have e1:wr.cell? ⟨w.heap.size,1,none⟩=some (.int .i64 dy):=(zah hB MdQ).trans (by simp only[World.cell?,jK.o];rfl);have e3:wr.cell? ⟨w.heap.size,3,none⟩=some (.string fr):=(zah hB MdQ).trans (by simp only[World.cell?,jK.o];rfl);have bA:w.heap.size<wr.heap.size:=MdQ;by_cases aa:k<ps.length
    ·have pQ:k<s.graves.length:=by have:=vr.o;omega
     have K2:=(HT.o.keep aS).all k ps[k] s.graves[k] (List.getElem?_eq_getElem aa) (List.getElem?_eq_getElem pQ);have bf:=dB.o.graves s.graves[k] (List.getElem_mem pQ);have ss:=qF.o s.graves[k] (List.getElem_mem pQ)
     obtain⟨TB,toff,K0,hTb,FO⟩:=(show Sl wr 1 ptrC TA ps from by
      obtain⟨A',c',e',h',_⟩:=(FN.keep aS).sl zcW;simp only[Value.slice.injEq]at e'
      rw[e'.1];exact h').at aa
     subst K0;have bR:=held_snoc fr dy s.graves pQ;have iF:ps.getD k 0=ps[k]:=Mde;have i0:wr.cell? ⟨TB,toff+k,none⟩=some (.pointer (some ⟨ps[k],0,none⟩)):=by have:=FO 0 _ rfl;simpa using this
     have Gl:zbQ fr dy ps (s.graves.take (k+1))=zbQ fr dy ps (s.graves.take k)++if zc2 fr dy s.graves[k]then[ps[k]]else[]:=by
      unfold zbQ;rw[bR,List.map_append];cases zc2 fr dy s.graves[k]
      ·rfl
      ·show _++[ps.getD k 0]=_;rw[iF];rfl
     generalize ps[k]=T at*;generalize s.graves[k]=g at*;have GR:zc2 fr dy g=(zaT g dy&&decide (0<(zag g.holders fr).num)):=rfl;obtain⟨H,aJ,D,dc,frm,t1,t2,t3,t4,t5,t6,t7⟩:=K2;have cV:=zab t1;unfold zbz at t1;obtain⟨-,-,-,g3,g4⟩:=cF5 t1;obtain⟨Bh,ji,Bg,zt⟩:=yH4 (fun W (hW:Below wr.heap.size wr W)=>zir g H aJ T dy W ((zah hW cV).trans g3) ((zah hW cV).trans g4)) (fun W (hW:Below wr.heap.size wr W)=>zes g.holders H aJ T fr W ((zah hW cV).trans g4) (Nat.lt_of_lt_of_le cV hW.size) Mcm bf.good.asc (Ro.sl zan (t5.keep hW))) Gl GR;generalize zaT g dy=fi at*;generalize zag g.holders fr=q at*;unfold zaC at ji;have au:(k:Int)<(ps.length:Int):=Mcm;have aP:(0:Int)<=(k:Int):=Mcm;have fD:(k:Int)<=(tc:Int):=Mcm;have fq:(zbQ fr dy ps (s.graves.take k)).length<=1000:=by
      unfold zbQ;rw[List.length_map,zfB];exact MaP
     generalize zbQ fr dy ps (s.graves.take k)=ej at*;have ez:=zHi fq;clear bf ss bR Gl GR t1 t5 t6 t7 t2 t3 t4 FO ae hB aS fq iF g3 g4;have Al:=zoS q.num q.den;cases fi
     ·rw[Bool.false_and]at zt;go_wp2_with (go_at_call 67;refine(Bh.o _ Bw).mono ?_;rintro e wq ⟨rfl,z,rfl⟩)
      go_round
      case rel=>exact⟨k+1,by omega,by go_num,by rw[Bg.o,zt.o];simpa using HO.o.keep (n:=wr.heap.size) Bw,HB.o.trans ((Bw:Below wr.heap.size wr _).mono hsz)⟩
      case measure=>simp[intOf];omega
     ·by_cases hq:0<q.num
      ·have BI:Hid (zc2 fr dy g=true):=by show _=_;rw[zt.o];simpa using hq
       go_wp2_with (first
        |(go_at_call 67;refine(Bh.o _ Bw).mono ?_;rintro e wq ⟨rfl,z,rfl⟩)
        |(go_at_call 87;refine(ji.o _ Bw).mono ?_;rintro e wq2 ⟨rfl,z2,rfl⟩)
        |(at_builtin;go_loud(refine zau (v:=.slice VA ej.length vc) (n:=ej.length) (m:=1) rfl _ _ rfl elTomb zcW znO rfl (HO.o.keep (n:=wr.heap.size) Bw) rfl rfl rfl (sl_ptr (T:=T) (zas _ _ _ Mdk)) (by have:=ez.o;simp[maxLen];omega) (by have:=ez.o;omega) Mcv ?_);intro v3 w3 h1 h2 h3))
       have aC:Below W2.heap.size W2 w3:=Below.grown (a:=W2) (B:=W2.heap.size) (HB.o.trans ((Bw:Below wr.heap.size wr _).mono hsz)) h2 Mcv (fun j hj=>(HO.o.ge j hj).1);obtain⟨aL,H1⟩:=yH2 aC h1;clear h1 h2 h3 aC;go_wp2_with fail
       go_round
       case rel=>exact⟨k+1,by omega,by go_num,by rw[Bg.o,BI.o];exact H1.o,aL.o⟩
       case measure=>simp[intOf];omega
      ·have BI:Hid (zc2 fr dy g=false):=by show _=_;rw[zt.o];simpa using hq
       go_wp2_with (first
        |(go_at_call 67;refine(Bh.o _ Bw).mono ?_;rintro e wq ⟨rfl,z,rfl⟩)
        |(go_at_call 87;refine(ji.o _ Bw).mono ?_;rintro e wq2 ⟨rfl,z2,rfl⟩))
       go_round
       case rel=>exact⟨k+1,by omega,by go_num,by rw[Bg.o,BI.o];simpa using HO.o.keep (n:=wr.heap.size) Bw,HB.o.trans ((Bw:Below wr.heap.size wr _).mono hsz)⟩
       case measure=>simp[intOf];omega
    ·have au:¬(k:Int)<(ps.length:Int):=Mcm;have j9:zbQ fr dy ps (s.graves.take k)=zbQ fr dy ps s.graves:=by rw[List.take_of_length_le (by have:=vr.o;omega)]
     have gq:=zHi j9;clear j9 ae hB aS;go_wp2_with fail
     go_meet
     have hO:=HO.o;rw[gq.o]at hO⊢;exact⟨VA,vc,rfl,hO,HB.o⟩
  case rest=>
   obtain⟨HA,hn,rfl,ae,hB⟩:=hcut;have aS:Below w.heap.size w wc:=aA.o.trans (hB.mono bo);have hD:wc.heap[w.heap.size]?=some (.cells #[.int .i64 kd,.int .i64 dy,.string pl,.string fr,.slice B ts.length c,.int .i64 cl,.int .i64 yr] 28):=(hB.block _ MdQ).trans jK.o;have hM:MarkAt wc (w.heap.size+1) false:=(hB.block _ MdQ).trans pw.o;have m9:(zbQ fr dy ps s.graves).length=0->s.graves.any (zc2 fr dy)=false:=fun h=>by
    unfold zbQ at h;rw[List.length_map,zfB]at h;rw[List.any_eq_false];intro g hg hq;have:g∈s.graves.filter (zc2 fr dy):=List.mem_filter.2 ⟨hg,hq⟩;rw[List.eq_nil_of_length_eq_zero h]at this;cases this
   obtain⟨li,HO,aW,HD,HM⟩:=yH5 m9 ae aS hD hM;clear m9 ae aS hD hM;go_upto_if 58 with fail
   go_cut [11,12,14,15,16,18,19,20,21,58]from 59 (fun _ _ _ _ _ _ _ _ _ _ W=>∃gs,Hid (X=({s with graves:=gs,dead:=s.dead++[fr]},0))/\WldAt base W b {s with graves:=gs} la co/\Below base w W/\W.heap[w.heap.size]?=some (.cells #[.int .i64 kd,.int .i64 dy,.string pl,.string fr,.slice B ts.length c,.int .i64 cl,.int .i64 yr] 28)/\KeepD w W)
   case first=>
    by_cases hz:(zbQ fr dy ps s.graves).length=0
    ·have jb:¬(0:Int)<((zbQ fr dy ps s.graves).length:Int):=Mcm;have hX:=HX.o;rw[li.o hz]at hX;have av:=zHi hX;clear hz hX;go_wp2_with fail
     go_meet
     refine⟨s.graves,?_,HW.o.keep aW.o,aW.o.mono (by have:=HW.o.lt;omega),HD.o,KeepD.below aW.o⟩;show _=_;rw[av.o];simp
    ·have jb:(0:Int)<((zbQ fr dy ps s.graves).length:Int):=Mcm;have HZ:=zHi hz;have d1:wc.cell? ⟨w.heap.size,1,none⟩=some (.int .i64 dy):=by simp only[World.cell?,HD.o];rfl
     have d3:wc.cell? ⟨w.heap.size,3,none⟩=some (.string fr):=by simp only[World.cell?,HD.o];rfl
     have bA:w.heap.size<wc.heap.size:=zab HD.o;have aE:=aW.o.size;have tu:=zHi (show∃EF,EF=zch s (zbb laws dy) fr from⟨_,rfl⟩);obtain⟨EF,pJ⟩:=tu.o;rw[<-pJ]at qy HX;have hel:EF.1.length<=3000:=by
      have h1:=qy.o.good;have h2:=ziK (s:=s) (law:=zbb laws dy) (n:=fr) (by rw[<-pJ];exact h1);rw[<-pJ]at h2;omega
     obtain⟨eI,HE⟩:=yH2 hel pJ;clear hz pJ tu hel;go_upto_region 12 with fail
     clear jb;go_cut [11,58]from 59 (fun v11 _ W=>∃A n,v11=.slice A EF.1.length n/\OwnS W (w.heap.size+1+1) 62 3 zaa v11 EF.1/\MarkAt W (w.heap.size+1) EF.2/\wc.grownBy W (some (w.heap.size+1)))
     case first=>
      refine wp_region_held_drew (S:=(fun w'=>w'.cell? ⟨w.heap.size,1,none⟩=some (.int .i64 dy)/\w'.cell? ⟨w.heap.size,3,none⟩=some (.string fr))) Mcn ?hS ?hrest
      case hS=>exact⟨d1,d3⟩
      case hrest=>
       intro hHeld;refine TkH 0 ?_;refine TkH 1 ?_;refine TkH 2 ?_;refine TkH 3 ?_;refine TkH 4 ?_;refine TkH 5 ?_;refine TkH 7 ?_;refine TkH 8 ?_;refine OnH 6 fun K hK=>?_
       go_simp
       refine(zot laws LA lc dy _ fG (cM.o.keep (aW.o.trans ((zaH (Below.refl _ _)).mono aE)))).mono ?_;rintro e w5 ⟨rfl,z,rfl⟩;refine NxM hK (fun hHeld=>?_) (⟨(za5 _ _ _ _ bA).trans d1,(za5 _ _ _ _ bA).trans d3⟩);clear hK K;refine OnH 9 fun K hK=>?_
       go_simp
       refine(zoL base b (w.heap.size+1) s last (zbb laws dy) fr _ ?q1 dB.o ?q2 bV fI bW eV).mono ?_
       case q1=>exact fun W hW=>HW.o.peo.keep (zaW (aW.o.trans ((zbm (zaH (Below.refl _ _)) z).mono aE)) hW Mcm)
       case q2=>exact HM.o.drew.ext z
       rintro e w6 ⟨v,rfl,n1,n2,n3⟩;rw[<-HE.o]at n1 n2;have n3':wc.grownBy w6 (some (w.heap.size+1)):=⟨n3.os,n3.tape,n3.output,Nat.le_trans Mdk n3.size,fun k hk ai=>(n3.block k Mcv ai).trans (zcD _ _ _ hk)⟩
       obtain⟨N1,N2,N3⟩:=yH3 n1 n2 n3';clear n1 n2 n3 n3';refine NxM hK (fun hHeld=>?_) (⟨(zbc N3.o bA Mcm).trans d1,(zbc N3.o bA Mcm).trans d3⟩);clear hK K;refine OnH 10 fun K hK=>?_
       go_simp
       refine NxM hK (fun hHeld=>?_) (⟨(zbc N3.o bA Mcm).trans d1,(zbc N3.o bA Mcm).trans d3⟩);clear hK K;refine wpAnyH_done Mcn ?_ _;go_wp2_with fail
       go_meet
       obtain⟨A9,n9,rfl,_,_⟩:=N1.o.sl zan;exact⟨A9,n9,rfl,OwnS.base_le N1.o (by have:=S2.o;have:=hB.size;simp[zaf];omega),N2.o,N3.o⟩
     case rest=>
      obtain⟨EA,en,rfl,n1,n2,n3⟩:=hcut;have ov:Below w.heap.size w wc:=zaW aW.o n3 Mcm Md9;have Fd:wc.heap[w.heap.size]?=some (.cells #[.int .i64 kd,.int .i64 dy,.string pl,.string fr,.slice B ts.length c,.int .i64 cl,.int .i64 yr] 28):=(n3.block _ bA Mcp).trans HD.o
      have tQ:OwnS wc (w.heap.size+1+1) 81 1 ptrC (.slice HA (zbQ fr dy ps s.graves).length hn) (zbQ fr dy ps s.graves):=(OwnS.base_le HO.o MdQ).grown n3 (by
       cases hb:za7 (.slice HA (zbQ fr dy ps s.graves).length hn)with
       |none=>exact .inl rfl
       |some g=>exact .inr fun e=>by have:=(HO.o.ge g hb).1;have:=S2.o;simp at e;omega)
      obtain⟨jg,uN,lJ,zd,uQ⟩:=yH5 tQ n1 n2 Fd ov;have iH:=n3.size;have hHL:(zbQ fr dy ps s.graves).length<=1000:=by
       unfold zbQ;rw[List.length_map,zfB];exact Nat.le_trans (List.length_filter_le _ _) kU
      have dJ:(zbQ fr dy ps s.graves).length=(s.graves.filter (zc2 fr dy)).length:=by
       unfold zbQ;rw[List.length_map,zfB]
      obtain⟨nU,qK⟩:=yH2 dJ (fun(W:World) (hB:Below w.heap.size w W) j hj=>held_tomb (n:=fr) (day:=dy) (HT.o.keep hB) (j:=j) hj);have Fl:∀g∈s.graves.filter (zc2 fr dy),GoodG g/\g.holders.length<=70000/\g.died.length<=1000:=fun g hg=>⟨dB.o.graves g (List.mem_filter.1 hg).1,qF.o g (List.mem_filter.1 hg).1⟩
      have qH:=zHi Fl;clear n1 n2 n3 tQ Fd ov d1 d3 bA dJ Fl;generalize hHs:zbQ fr dy ps s.graves=HL at*;generalize sy:s.graves.filter (zc2 fr dy)=aK at*;obtain⟨zn,jd⟩:=yH2 hHs sy;clear hHs sy;go_upto_block 2 with fail
      go_cut [12,14,15,16,18,19,71]from 72 (fun v12 _ _ _ _ _ _ W=>∃A n es,v12=.slice A HL.length n/\OwnS W (w.heap.size+1+1) 84 6 tmC v12 es/\es.map (·.1)=(zcQ fr EF.1 aK EF.2).1/\(∀e∈es,TmOk W w.heap.size e)/\MarkAt W (w.heap.size+1) (zcQ fr EF.1 aK EF.2).2/\Below w.heap.size w W/\W.heap[w.heap.size]?=some (.cells #[.int .i64 kd,.int .i64 dy,.string pl,.string fr,.slice B ts.length c,.int .i64 cl,.int .i64 yr] 28)/\OwnS W (w.heap.size+1+1) 81 1 ptrC (.slice HA HL.length hn) HL)
      case first=>
       go_wp2_with fail
       go_loopw [12,71] (fun v i wr=>∃(j:Nat) (es:List Tm),j<=HL.length/\i=.int .i64 j/\OwnS wr (w.heap.size+1+1) 84 6 tmC v es/\Hid (es.map (·.1)=(zcQ fr EF.1 (aK.take j) EF.2).1)/\Hid (∀e∈es,TmOk wr w.heap.size e)/\MarkAt wr (w.heap.size+1) (zcQ fr EF.1 (aK.take j) EF.2).2/\Below w.heap.size w wr/\wr.heap[w.heap.size]?=some (.cells #[.int .i64 kd,.int .i64 dy,.string pl,.string fr,.slice B ts.length c,.int .i64 cl,.int .i64 yr] 28)/\OwnS wr (w.heap.size+1+1) 81 1 ptrC (.slice HA HL.length hn) HL/\OwnS wr (w.heap.size+1+1) 62 3 zaa (.slice EA EF.1.length en) EF.1/\w.heap.size+1+1<=wr.heap.size) (fun _ i _=>HL.length-(intOf i).toNat)
       case atStart=>exact⟨0,[],Nat.zero_le _,rfl,OwnS.nil,rfl,fun e he=>by(cases he),lJ.o,uQ.o,zd.o,jg.o,uN.o,by have:=S2.o;have:=hB.size;omega⟩
       case round=>
        obtain⟨j,es,hj,rfl,ae,kG,dG,hm,hF,hD,hO,hE,hsz⟩:=hrel;obtain⟨NA,nc,rfl,_,xS⟩:=ae.sl zof;have dJ:=nU.o;have sm:es.length=j:=by
         have h1:=congrArg List.length kG.o;rw[List.length_map,zkA,List.length_take]at h1;omega
        obtain⟨HN,HM,HF,fV,dS,uO⟩:=yH6 ae hm hF hD hO hE;obtain⟨-,-,-,e3⟩:=cF4 hD;have bA:=zab hD;by_cases aa:j<HL.length
        ·obtain⟨i,g,hi,ib,aT,Dt,gX⟩:=qK.o wr hF j aa;obtain⟨bf,hgh,bP⟩:=qH.o g (List.mem_of_getElem? Dt)
         obtain⟨cC,dp,Cp,sg,vV⟩:=(show Sl wr 1 ptrC HA HL from by
          obtain⟨A',c',e',h',_⟩:=hO.sl zcW;simp only[Value.slice.injEq]at e'
          rw[e'.1];exact h').at aa
         subst Cp;have i0:wr.cell? ⟨cC,dp+j,none⟩=some (.pointer (some ⟨HL[j],0,none⟩)):=by have:=vV 0 _ rfl;simpa using this
         have bR:=next_snoc fr EF.1 aK EF.2 (k:=j) Mcm;have xk:aK[j]' Mcm=g:=by
          have:=List.getElem?_eq_getElem (l:=aK) (i:=j) Mcm;rw[Dt]at this;exact(Option.some.inj this).symm
         rw[xk]at bR;have ed:=zHi bR;generalize HL[j]=T at*;obtain⟨H,aJ,D,dc,frm,t1,t2,t3,t4,t5,t6,t7⟩:=gX;have cV:=zab t1;unfold zbz at t1;obtain⟨m0,m1,m2,m3,m4,m5⟩:=cF6 t1;obtain⟨eA,kO,bZ⟩:=yH3 t1 t6 (fun W (hW:Below wr.heap.size wr W)=>zeC g.holders H g.holders.length aJ W rfl Mcm (Ro.sl zan (t5.keep hW)));have CJ:T≠wr.heap.size:=Mcm;have kB:w.heap.size≠wr.heap.size:=Mcm;have au:(j:Int)<(HL.length:Int):=Mcm;have aP:(0:Int)<=(j:Int):=Mcm;have JB:(HL.length:Int)<=(hn:Int):=by
          obtain⟨A',c',e',_,h'⟩:=hO.sl zcW;exact Ma6
         generalize zcQ fr EF.1 (aK.take j) EF.2=nx at*;obtain⟨lC,fW⟩:=yH2 dJ sm;clear dJ sm ae hm hF hD hO hE vV bR xk Dt aT ib hi t1 t5 t6 t7 t2 t3 t4;go_upto_region 18 with fail
         have zE:Below wr.heap.size wr (wr.alloc (.cells #[.string g.place,.int .i64 g.cls,.int .i64 frm,.int .i64 g.fin,.slice H g.holders.length aJ,.slice D g.died.length dc] 84)):=Bw;have Af:(wr.alloc (.cells #[.string g.place,.int .i64 g.cls,.int .i64 frm,.int .i64 g.fin,.slice H g.holders.length aJ,.slice D g.died.length dc] 84)).heap[wr.heap.size]?=some (.cells #[.string g.place,.int .i64 g.cls,.int .i64 frm,.int .i64 g.fin,.slice H g.holders.length aJ,.slice D g.died.length dc] 84):=zas _ _ _ rfl;have FK:(wr.alloc (.cells #[.string g.place,.int .i64 g.cls,.int .i64 frm,.int .i64 g.fin,.slice H g.holders.length aJ,.slice D g.died.length dc] 84)).heap.size=wr.heap.size+1:=Mcp;generalize wr.alloc (.cells #[.string g.place,.int .i64 g.cls,.int .i64 frm,.int .i64 g.fin,.slice H g.holders.length aJ,.slice D g.died.length dc] 84)=WA at*;have y4:=(zah (o:=4) zE cV).trans m4;obtain⟨C0,qp,kg⟩:=yH3 Af zE FK;have bk:=bZ.o WA zE;have nS:=zHi bk;clear Af zE FK bk bZ;have E6:Below wr.heap.size wr WA:=qp.o;go_cut [83]from 78 to 124 (fun _ W=>∃A1 c1,zbz W wr.heap.size g.place g.cls frm g.fin (.slice A1 g.holders.length c1) (.slice D g.died.length dc)/\OwnS W wr.heap.size 62 3 zaa (.slice A1 g.holders.length c1) g.holders/\Below wr.heap.size wr W)
         case first=>
          clear qK qH dG kG HM lC fW ed HN uO dS fV HF kO eA jg uN lJ zd uQ zn jd HO aW HD li aA jK pw S2 ij qy cM qF dB HW HT HP HC vr
          go_wp2_with (go_at_call 57
                       go_must(refine nS.o.mono ?_)
                       rintro e wq ⟨hv,rfl,o1,o2⟩;obtain⟨A1,c1,sY,_,_⟩:=o1.sl zan;subst sY;have x1:=(o2.block wr.heap.size (by have:=kg.o;omega)).trans C0.o;have x3:=zab x1;have x4:wq.frozen? ⟨wr.heap.size,4,none⟩=false:=(by simp only[World.frozen?,x1];rfl)
                       have x5:wq.cell? ⟨wr.heap.size,4,none⟩=some (.slice H g.holders.length aJ):=(by simp only[World.cell?,x1];rfl)
                       obtain⟨X1,O1,O2⟩:=yH3 x1 o1 o2
                       clear x1 o1 o2)
          go_meet
          refine⟨A1,c1,zgu (show zbz wq wr.heap.size g.place g.cls frm g.fin (.slice H g.holders.length aJ) (.slice D g.died.length dc) from X1.o) _,?_,zaL (qp.o.trans (O2.o.mono (by have:=kg.o;omega))) Mcp _⟩;refine OwnS.base_le (OwnS.grown O1.o (zar _ _ _ _) (.inr fun e=>?_)) (by have:=kg.o;omega);have:=(O1.o.ge _ e).1;have:=kg.o;omega
         case rest=>
          obtain⟨A1,c1,cq,ei,eB⟩:=hcut;have yF:=eB.size;have bs:=zab cq;have d3:wc.cell? ⟨w.heap.size,3,none⟩=some (.string fr):=(zah eB bA).trans e3;have q5:wc.cell? ⟨T,5,none⟩=some (.slice D g.died.length dc):=(zah eB cV).trans m5;have dZ:=zHi (fun W (hW:Below wc.heap.size wc W)=>zlq g.died D g.died.length dc W rfl Mcm (Ro.sl zaD ((kO.o.keep eB).keep hW)));obtain⟨eY,kf,aw⟩:=yH3 cq ei eB;clear cq ei eB;go_upto_region 19 with fail
          go_cut [93]from 84 to 124 (fun _ W=>∃A2 c2,zbz W wr.heap.size g.place g.cls frm g.fin (.slice A1 g.holders.length c1) (.slice A2 (g.died.length+[fr].length) c2)/\OwnS W wr.heap.size 9 1 sC (.slice A2 (g.died.length+[fr].length) c2) (g.died++[fr])/\OwnS W wr.heap.size 62 3 zaa (.slice A1 g.holders.length c1) g.holders/\Below wr.heap.size wr W)
          case first=>
           clear qK qH dG kG HM lC fW ed HN uO dS fV HF kO eA jg uN lJ zd uQ zn jd HO aW HD li aA jK pw S2 ij qy cM qF dB HW HT HP HC vr nS C0 qp kg;refine wp_region_held_drew (S:=(fun w'=>w'.cell? ⟨w.heap.size,3,none⟩=some (.string fr)/\w'.cell? ⟨T,5,none⟩=some (.slice D g.died.length dc))) Mcn ?hS ?hrest
           case hS=>exact⟨d3,q5⟩
           case hrest=>
            intro hHeld;refine TkH 0 ?_;refine TkH 1 ?_;refine TkH 2 ?_;refine TkH 3 ?_;refine TkH 5 ?_;refine TkH 6 ?_;refine wpAnyH_ready (rs:=[4,7]) Mcn Mcp (AllReadyH.cons (List.getElem?_toArray.trans rfl) (fun K hK=>?_) (AllReadyH.cons (List.getElem?_toArray.trans rfl) (fun K hK=>?_) AllReadyH.nil))
            ·go_simp
             refine(dZ.o _ Bw).mono ?_;rintro e w5 ⟨hv,rfl,o1,o2⟩;obtain⟨A5,c5,sY,_,_⟩:=o1.sl zaD;subst sY;have z0:=o2.size;have z1:w.heap.size<w5.heap.size:=by simp at z0;omega
             have z2:T<w5.heap.size:=by simp at z0;omega
             have z3:w5.cell? ⟨w.heap.size,3,none⟩=some (.string fr):=(zah o2 Mcr).trans d3;have z5:w5.cell? ⟨T,5,none⟩=some (.slice D g.died.length dc):=(zah o2 Mcr).trans q5;refine NxM hK (fun hHeld=>?_) (⟨z3,z5⟩);clear hK K;refine OnH 7 fun K hK=>?_
             go_simp
             refine NxM hK (fun hHeld=>?_) (⟨(zah (zac (Below.refl _ _) _) z1).trans z3,(zah (zac (Below.refl _ _) _) z2).trans z5⟩);clear hK K;refine OnH 8 fun K hK=>?_
             have oK:Below wc.drew.heap.size wc.drew (w5.alloc (.cells #[.string fr] 9)):=(zac o2 _)
             refine zal (v:=.slice A5 g.died.length c5) (n:=g.died.length) (m:=1) rfl _ _ rfl zbM zaD zbL rfl (xs:=g.died) (ys:=[fr]) (o1.keep (n:=w5.heap.size) Bw) rfl rfl rfl (zd4 (zas w5 _ _ Mcp)) McL Mcm (by have:=z0;simp at this⊢;omega) ?_;exact Mt
            ·go_simp
             have pI:Below wc.heap.size wc (wc.drew.alloc (.cells #[.string fr] 9)):=zac (zaH (Below.refl _ _)) _;refine NxM hK (fun hHeld=>?_) (⟨(zah pI Mcm).trans d3,(zah pI Mcm).trans q5⟩);clear hK K;refine OnH 4 fun K hK=>?_
             go_simp
             have D3:=d3;have Q5:=q5;have d3:=(zah pI Mcm).trans D3;have q5:=(zah pI Mcm).trans Q5;refine(dZ.o _ Bw).mono ?_;rintro e w5 ⟨hv,rfl,o1,o2⟩;obtain⟨A5,c5,sY,_,_⟩:=o1.sl zaD;subst sY;have z0:=o2.size;have z1:w.heap.size<w5.heap.size:=by simp at z0;omega
             have z2:T<w5.heap.size:=by simp at z0;omega
             have z3:w5.cell? ⟨w.heap.size,3,none⟩=some (.string fr):=(zah o2 Mcr).trans d3;have z5:w5.cell? ⟨T,5,none⟩=some (.slice D g.died.length dc):=(zah o2 Mcr).trans q5;have d3:=D3;have q5:=Q5;have rv:=pI.trans (o2.mono Mcp);have JM:=(o2.block wc.heap.size Mcp).trans (zas wc.drew _ _ rfl);refine NxM hK (fun hHeld=>?_) (⟨z3,z5⟩);clear hK K;refine OnH 8 fun K hK=>?_
             have oK:Below wc.drew.heap.size wc.drew (w5):=⟨rv.os,rv.tape,rv.output,rv.size,rv.block⟩
             refine zal (v:=.slice A5 g.died.length c5) (n:=g.died.length) (m:=1) rfl _ _ rfl zbM zaD zbL rfl (xs:=g.died) (ys:=[fr]) (o1.keep (n:=w5.heap.size) Bw) rfl rfl rfl (zd4 JM) McL Mcm (by have:=z0;simp at this⊢;omega) ?_;exact Mt
          case rest=>
           obtain⟨A2,c2,cq,ix,ei,eB⟩:=hcut;obtain⟨W3,rfl⟩:∃x,x=wc:=⟨_,rfl⟩
           obtain⟨WR,rfl⟩:∃x,x=wr:=⟨_,rfl⟩
           have yF:=eB.size;have bs:=zab cq;have d3:W3.cell? ⟨w.heap.size,3,none⟩=some (.string fr):=(zah eB bA).trans e3;have yS:W3.cell? ⟨WR.heap.size,4,none⟩=some (.slice A1 g.holders.length c1):=Mc9;obtain⟨iX,iE,kY,da⟩:=death_bd (n:=fr) (hs:=EF.1) bf qy.o;have nL:∀W,Below W3.heap.size W3 W->_:=fun W hB=>zes g.holders A1 c1 WR.heap.size fr W ((zah hB bs).trans yS) (Nat.lt_of_lt_of_le bs hB.size) Mcm bf.good.asc (Ro.sl zan (ei.ro'.keep hB))
           have iI:∀W,zbz W WR.heap.size g.place g.cls frm g.fin (.slice A1 g.holders.length c1) (.slice A2 (g.died.length+[fr].length) c2)->OwnS W WR.heap.size 62 3 zaa (.slice A1 g.holders.length c1) g.holders->Calls Tryz.prog 86 #[.pointer (some ⟨WR.heap.size,0,none⟩),.string fr,.agg #[.int .i64 0,.int .i64 1]] W (zko W WR.heap.size WR.heap.size g.place g.cls frm g.fin (.slice A2 (g.died.length+[fr].length) c2) (.slice A1 g.holders.length c1) (setP g.holders fr 0)):=fun W h1 h2=>zit WR.heap.size WR.heap.size g.holders _ g.place g.cls frm g.fin _ fr 0 W h1 (Nat.le_refl _) h2 bf.good.asc Mcm
           obtain⟨own,ae⟩:∃own,own=zag g.holders fr:=⟨_,rfl⟩
           rw[<-ae]at nL iX iE kY da;obtain⟨gn,fZ,d8,dH,eY,kf,cJ,aw⟩:=yH8 nL iI da ae cq ei ix eB;clear nL iI da ae cq ei ix eB yS;unfold zaC at gn
           go_upto_region 22 with(first
            |(go_at_call 87
              go_must(refine(gn.o _ Bw).mono ?_)
              rintro e wq ⟨rfl,z,hz⟩;have cY:Below W3.heap.size W3 wq:=(by rw[hz];exact Bw)
              have d3q:=(zah cY (show w.heap.size<W3.heap.size by omega)).trans d3;have dlq:=cY.size;have bW:w.heap.size<wq.heap.size:=Mcm;have kN:=zHi cY
              clear hz cY)
            |(go_at_call 86
              go_must(refine(fZ.o _ ?q1 ?q2).mono ?_)
              case q1=>exact zak ((kN.o.block _ bs).trans eY.o)
              case q2=>exact kf.o.keep (n:=W3.heap.size) (zac kN.o _)
              rintro e wz ⟨rfl,v',t1,t2,t3,t4⟩;obtain⟨T1,T2,T3,T4⟩:=yH4 t1 t2 t3 t4
              clear t1 t2 t3 t4))
           have eQ:Below WR.heap.size WR wz:=(aw.o.trans ((zac kN.o _).mono Mcm)).trans T3.o;have pg:=eQ.size;have wF:(wq.alloc (zbu own)).heap[WR.heap.size]?=some (.cells #[.string g.place,.int .i64 g.cls,.int .i64 frm,.int .i64 g.fin,.slice A1 g.holders.length c1,.slice A2 (g.died.length+[fr].length) c2] 84):=zak ((kN.o.block _ bs).trans eY.o);have wn:=kf.o.keep (n:=W3.heap.size) (zac kN.o (zbu own));have vP:=cJ.o.keep (n:=W3.heap.size) (zac kN.o (zbu own));have bn:∀(j:Nat) (cur:Array Value) (t:TypeId) (f:Nat×Nat),(wq.alloc (zbu own)).heap[j]?=some (.cells cur t f)->t≠84->t≠62->wz.heap[j]?=(wq.alloc (zbu own)).heap[j]?:=fun j cur t f hj n1 n2=>
            T4.o j (zab hj) (fun e=>by rw[e,wF]at hj;simp only[Option.some.injEq,Obj.cells.injEq]at hj;exact n1 hj.2.1.symm) (zkC wn hj n2)
           have Ff:OwnS wz WR.heap.size 9 1 sC (.slice A2 (g.died.length+[fr].length) c2) (g.died++[fr]):=vP.same (fun j cur _ hj=>bn j cur _ _ hj Mco Mco);have zR:wz.heap[wq.heap.size]?=some (zbu own):=(bn _ _ _ _ (zas wq (zbu own) _ rfl) Mco Mco).trans (zas wq (zbu own) _ rfl);have Fy:MarkAt wz (w.heap.size+1) nx.2:=HM.o.keep eQ (zab HM.o);have sz:WR.grownBy wz (some (w.heap.size+1)):=⟨eQ.os,eQ.tape,eQ.output,eQ.size,fun k hk _=>eQ.block k hk⟩
           have xG:=zio (n:=fr) (q:=0) (l:=g.holders);have JP:WR.heap.size<wq.heap.size:=by have:=kN.o.size;omega
           have fI:=zab HM.o;obtain⟨O,hO⟩:∃O,O=wq.heap.size:=⟨_,rfl⟩
           rw[<-hO]at zR JP⊢;have hOz:=zab zR;obtain⟨fA,uJ,uS,Bv,uW,pm⟩:=yH6 eQ Ff zR Fy sz xG;clear eQ Ff zR Fy sz bn wF wn vP xG d3q dlq hO d3 kN T3 T4 gn fZ bW;go_upto_block 4 with fail
           go_cut [18,19,103]from 104 to 124 (fun _ _ _ W=>∃v out fl,Hid ((out,fl)=zdv fr EF.1 g nx.2)/\MarkAt W (w.heap.size+1) fl/\zbz W WR.heap.size g.place g.cls frm g.fin v (.slice A2 (g.died.length+[fr].length) c2)/\OwnS W WR.heap.size 62 3 zaa v out/\OwnS W WR.heap.size 9 1 sC (.slice A2 (g.died.length+[fr].length) c2) (g.died++[fr])/\WR.grownBy W (some (w.heap.size+1)))
           case first=>
            clear vr HC HP HT HW dB qF cM c0 c6 aA pw S2 bo aW aE HE uN lJ uQ iH li HZ qH nU zn jd HO jg au aP JB kG lC fW y4 nS d3 q5 dG HN HF e3 i0 m0 m1 m2 m3 m4 m5 kO CJ kB qp kg E6 cJ aw dS FN;go_wp2_with fail
            go_loopw [103] (fun i W=>∃(k:Nat) (v:Value) (out:Parts) (fl:Bool),k<=EF.1.length/\i=.int .i64 k/\Hid ((out,fl)=zef own (EF.1.take k) (setP g.holders fr 0,nx.2))/\Hid (out.length<=g.holders.length+1+k)/\MarkAt W (w.heap.size+1) fl/\zbz W WR.heap.size g.place g.cls frm g.fin v (.slice A2 (g.died.length+[fr].length) c2)/\OwnS W WR.heap.size 62 3 zaa v out/\OwnS W WR.heap.size 9 1 sC (.slice A2 (g.died.length+[fr].length) c2) (g.died++[fr])/\WR.grownBy W (some (w.heap.size+1))/\W.heap[O]?=some (zbu own)) (fun i _=>EF.1.length-(intOf i).toNat)
            case atStart=>exact⟨0,v',setP g.holders fr 0,nx.2,Nat.zero_le _,rfl,rfl,pm.o,Bv.o,T1.o,T2.o,uJ.o,uW.o,uS.o⟩
            case round=>
             obtain⟨k,v,out,fl,hk,rfl,og,ez,hm,cq,ei,ix,dj,kp⟩:=hrel;clear pm Bv T1 T2 uJ uW uS fA;obtain⟨A3,c3,rfl,rF,mh⟩:=ei.sl zan;have da:Bd out 1:=by have:=d8.o nx.2 k;rw[<-og.o]at this;exact this
             have zM:=uO.o.grown dj (.inr fun e=>by have:=(uO.o.ge _ e).1;omega);have yV:=zab cq;have wj:=zab kp;have Lc:=zab hm;have yS:wr.cell? ⟨WR.heap.size,4,none⟩=some (.slice A3 out.length c3):=Mc9;obtain⟨HD,EG,rg,ik,qw,eu,tw,IG⟩:=yH8 da hm cq ei ix dj kp rF;have HE3:=zHi zM;clear da hm cq ei ix kp rF dj;by_cases mH:k<EF.1.length
             ·obtain⟨b',off,rfl,cC,hc⟩:=(zM.sl' zan).at mH;obtain⟨j8,jU,ej⟩:=zdG qy.o (List.getElem_mem mH);have aK:=zoR own EF.1 (setP g.holders fr 0,nx.2) mH;rw[<-og.o]at aK;have u4:EF.1.length<=en:=by
               obtain⟨A',c',e',_,h'⟩:=zM.sl zan;exact Ma6
              generalize EF.1[k]=p at*;obtain⟨pn,q⟩:=p;simp only at j8 jU ej;have i0:wr.cell? ⟨b',off+k*3,none⟩=some (.string pn):=hc 0 _ rfl;have i1:wr.cell? ⟨b',off+k*3+1,none⟩=some (.int .i64 q.num):=hc 1 _ rfl;have i2:wr.cell? ⟨b',off+k*3+2,none⟩=some (.int .i64 q.den):=hc 2 _ rfl;have o0:wr.cell? ⟨O,0,none⟩=some (.int .i64 own.num):=by simp only[World.cell?,tw.o,zbu];rfl
              have o1:wr.cell? ⟨O,1,none⟩=some (.int .i64 own.den):=by simp only[World.cell?,tw.o,zbu];rfl
              have xm:zaJ (zbh (own*q)):=zcb (zct (Rat.mul_nonneg iX (Rat.le_of_lt j8))) (Rat.le_trans (zha (Rat.mul_nonneg iX (Rat.le_of_lt j8))) (zjC iX kY (Rat.le_of_lt j8) jU)) (zgr _);obtain⟨dB,Be,qO⟩:=yH3 aK xm mH;have l8:wrap64 ((k:Int)+1)=(k:Int)+1:=by
               have:=eI.o;unfold wrap64;omega
              have BX:=zHi l8;clear l8;have xR:∀W,MarkAt W (w.heap.size+1) fl->Calls Tryz.prog 89 #[.pointer (some ⟨w.heap.size+1,0,none⟩),.agg #[.int .i64 own.num,.int .i64 own.den],.agg #[.int .i64 q.num,.int .i64 q.den]] W (zeD W (w.heap.size+1) fl (own*q)):=fun W h=>zhJ (w.heap.size+1) fl W h own q iE ej
              have Bu:=zHi xR;have xy:(k:Int)<(EF.1.length:Int):=Mcm;have KX:(0:Int)<=(k:Int):=Mcm;have L0:(k:Int)<=(en:Int):=Mcm;have FE:O≠wr.heap.size:=Mcm;have ue:out.length<=90000:=by have:=ez.o;have:=eI.o;omega
              have uh:w.heap.size+1≠wr.heap.size:=Mcm;clear hc aK xm j8 jU xR u4 zM
              go_wp2_with (go_at_call 89
                           go_must(refine(Bu.o _ (EG.o.alloc _)).mono ?_)
                           rintro e wq ⟨rfl,m1,m2⟩;have ic:=m2.size;have y0:wq.heap[wr.heap.size]?=some (.cells #[.string pn,.int .i64 q.num,.int .i64 q.den] 62):=(m2.block _ Mcp Mcr).trans (zas _ _ _ rfl);have y1:wq.cell? ⟨wr.heap.size,0,none⟩=some (.string pn):=(by simp only[World.cell?,y0];rfl)
                           have y3:wr.heap.size<wq.heap.size:=zab y0;obtain⟨M1,M2⟩:=yH2 m1 m2;clear m1 m2 y0
                           simp only[zaC])
              have wg:OwnS wq WR.heap.size 62 3 zaa (.slice A3 out.length c3) out:=OwnS.grown (W:=wr.alloc _) (ik.o.keep (n:=wr.heap.size) (zac (Below.refl _ _) _)) M2.o (.inr fun e=>by have:=(ik.o.ge _ e).1;omega);have lZ:zbz wq WR.heap.size g.place g.cls frm g.fin (.slice A3 out.length c3) (.slice A2 (g.died.length+[fr].length) c2):=(M2.o.block _ Mcr Mcr).trans (zak rg.o);have nP:wq.cell? ⟨WR.heap.size,4,none⟩=some (.slice A3 out.length c3):=by unfold zbz at lZ;simp only[World.cell?,lZ];rfl
              have bu:WR.heap.size<wq.heap.size:=zab lZ;obtain⟨OQ,TQ⟩:=yH2 wg lZ;have mS:zaJ (zag out pn):=HD.o.share Rat.le_refl pn;generalize eD:zbh (own*q)=gt at*;generalize hsv2:zag out pn=sv at*;obtain⟨uV,vC,eK⟩:=yH3 eD hsv2 mS;have LP:wr.heap.size≠wq.heap.size:=Mcm;have Ho:WR.heap.size≠wq.heap.size:=Mcm;clear wg lZ mS eD hsv2 i0 i1 i2 o0 o1;go_region_held3 (fun w'=>w'.cell? ⟨wr.heap.size,0,none⟩=some (.string pn)/\w'.cell? ⟨wq.heap.size,0,none⟩=some (.int .i64 gt.num)/\w'.cell? ⟨wq.heap.size,1,none⟩=some (.int .i64 gt.den))
               ((refine⟨?_,?_,?_⟩<;>first|assumption|(simp[go_sem,y1,y3];done)))
               (first
                 |(go_at_call 87
                   go_loud(refine(zes out A3 c3 WR.heap.size pn _ ?q1 ?q2 Mcm HD.o.good.asc (Sl.keep (OQ.o.sl' zan) (n:=wq.heap.size) Bw)).mono ?_)
                   case q1=>simp[go_sem,nP,bu]
                   case q2=>simp;omega
                   rintro e w5 ⟨rfl,zs,rfl⟩;rw[vC.o]
                   simp only[zaC])
                 |(go_at_call 90
                   go_loud(refine(zhK (w.heap.size+1) (fl||bigQ (own*q)) _ ?q3 sv gt eK.o Be.o).mono ?_)
                   case q3=>(repeat(first|exact M1.o|refine MarkAt.ext ?_ _|refine MarkAt.drew ?_|refine MarkAt.alloc ?_ _))
                   rintro e w6 ⟨rfl,n1,n2⟩;have p3:w6.cell? ⟨wr.heap.size,0,none⟩=some (.string pn):=MdB;have p0:w6.cell? ⟨wq.heap.size,0,none⟩=some (.int .i64 gt.num):=McY;have p1:w6.cell? ⟨wq.heap.size,1,none⟩=some (.int .i64 gt.den):=McY;obtain⟨N1,N2⟩:=yH2 n1 n2;clear n1 n2
                   simp only[zaC])
                 |(go_at_call 86
                   go_loud(refine(zit WR.heap.size WR.heap.size out (.slice A3 out.length c3) g.place g.cls frm g.fin (.slice A2 (g.died.length+[fr].length) c2) pn (zbh (sv+gt)) _ ?q4 (Nat.le_refl _) ?q5 HD.o.good.asc ue).mono ?_)
                   case q4=>exact(N2.o.block _ Mcv Mcr).trans Mdr
                   case q5=>exact OwnS.grown (OQ.o.keep (n:=wq.heap.size) Bw) N2.o (.inr fun e=>by have:=(OQ.o.ge _ e).1;omega)
                   rintro e wz ⟨rfl,v',t1,t2,t3,t4⟩;have s3:wz.cell? ⟨wr.heap.size,0,none⟩=some (.string pn):=(World.cell?_of_block (w:=w6) (t4 wr.heap.size McU Mcm (fun e=>by have:=(ik.o.ge _ e).2;omega))).trans p3;have s0:wz.cell? ⟨wq.heap.size,0,none⟩=some (.int .i64 gt.num):=(World.cell?_of_block (w:=w6) (t4 wq.heap.size McU Mcm (fun e=>by have:=(ik.o.ge _ e).2;omega))).trans p0;have s1:wz.cell? ⟨wq.heap.size,1,none⟩=some (.int .i64 gt.den):=(World.cell?_of_block (w:=w6) (t4 wq.heap.size McU Mcm (fun e=>by have:=(ik.o.ge _ e).2;omega))).trans p1;obtain⟨T1,T2,T3,T4⟩:=yH4 t1 t2 t3 t4
                   clear t1 t2 t3 t4))
              have Ba:Hid (zfd own (pn,q) (out,fl)=(setP out pn (zbh (sv+gt)),fl||bigQ (own*q)||bigQ (sv+gt))):=by
               show _=_;unfold zfd;simp only[uV.o,vC.o]
              have cA:MarkAt wz (w.heap.size+1) (fl||bigQ (own*q)||bigQ (sv+gt)):=N1.o.keep T3.o Mcm;have iC:=zio (n:=pn) (q:=zbh (sv+gt)) (l:=out);have h6:wr.grownBy w6 (some (w.heap.size+1)):=zbo (zjN (zac (Below.refl wr.heap.size wr) _) (Nat.le_refl _) M2.o) (zjN (n:=wq.heap.size) (W:=((wq.alloc (zbu gt)).drew).ext zs) Bw (Nat.le_refl _) N2.o);have kw:=h6.size;have Hb:w6.heap[WR.heap.size]?=some (.cells #[.string g.place,.int .i64 g.cls,.int .i64 frm,.int .i64 g.fin,.slice A3 out.length c3,.slice A2 (g.died.length+[fr].length) c2] 84):=(h6.block _ yV Mcr).trans rg.o;have q9:OwnS w6 WR.heap.size 62 3 zaa (.slice A3 out.length c3) out:=ik.o.grown h6 (.inr fun e=>by have:=(ik.o.ge _ e).1;omega);have G8:=qw.o.grown h6 (.inr fun e=>by have:=(qw.o.ge _ e).1;omega);have Dj:w6.heap[O]?=some (zbu own):=(h6.block O wj Mcr).trans tw.o;have bn:∀(j:Nat) (cur:Array Value) (t:TypeId) (f:Nat×Nat),w6.heap[j]?=some (.cells cur t f)->t≠84->t≠62->wz.heap[j]?=w6.heap[j]?:=fun j cur t f hj n1 n2=>
               T4.o j (zab hj) (fun e=>by rw[e,Hb]at hj;simp only[Option.some.injEq,Obj.cells.injEq]at hj;exact n1 hj.2.1.symm) (zkC q9 hj n2)
              have Gc:=G8.same (W':=wz) (fun j cur _ hj=>bn j cur _ _ hj Mco Mco);have Dn:wz.heap[O]?=some (zbu own):=(bn _ _ _ _ Dj Mco Mco).trans Dj;have sz:WR.grownBy wz (some (w.heap.size+1)):=zoT (zbo eu.o h6) T3.o (Nat.le_refl _);obtain⟨Bz,fX,uJ,uS,uW⟩:=yH5 cA iC Gc Dn sz;clear cA iC h6 Hb q9 G8 Dj bn Gc Dn sz p3 p0 p1 s3 s0 s1 y1;go_wp2_with fail
              go_round
              case rel=>
               have hel:=eI.o;have mH:=qO.o;have pR:=Ba.o.symm.trans dB.o.symm;have pY:(setP out pn (zbh (sv+gt))).length<=g.holders.length+1+(k+1):=by have:=fX.o;have:=ez.o;omega
               exact⟨k+1,v',setP out pn (zbh (sv+gt)),_,qO.o,by rw[BX.o];rfl,pR,pY,Bz.o,T1.o,T2.o,uJ.o,uW.o,uS.o⟩
              case measure=>rw[BX.o];have:=qO.o;simp only[intOf];omega
             ·have au:¬(k:Int)<(EF.1.length:Int):=Mcm;have nO:(out,fl)=zdv fr EF.1 g nx.2:=by
               rw[og.o,List.take_of_length_le Mcm];unfold zdv;rw[<-dH.o]
              have zA:=zHi nO;clear nO og d8;go_wp2_with fail
              go_meet
              exact⟨_,out,fl,zA.o,EG.o,rg.o,ik.o,qw.o,eu.o⟩
           case rest=>
            obtain⟨v9,out,fl,zA,hm,cq,ei,ix,dj⟩:=hcut;obtain⟨W4,rfl⟩:∃x,x=wc:=⟨_,rfl⟩
            obtain⟨A3,c3,rfl,_,mh⟩:=ei.sl zan;have kS:(g.died++[fr]).length<=c2:=by
             obtain⟨A',c',e',_,h'⟩:=ix.sl zaD;exact Ma6
            have hg4:=dj.size;have jG:=cq;unfold zbz at jG;obtain⟨m0,m1,m2,m3,m4,m5⟩:=cF6 jG;obtain⟨E,hE⟩:∃E:Tm,E=(⟨g.place,g.cls,g.fin,out,g.died++[fr]⟩,frm,(A3,c3),(A2,c2)):=⟨_,rfl⟩
            have Cg:(tmC E).toArray= #[.string g.place,.int .i64 g.cls,.int .i64 frm,.int .i64 g.fin,.slice A3 out.length c3,.slice A2 (g.died.length+[fr].length) c2]:=by rw[hE];simp[tmC]
            have Fz:=HN.o.grown dj (.inr fun e=>by have:=(HN.o.ge _ e).1;omega);have Di:es.length<=1000:=by have:=fW.o;omega
            obtain⟨BA,If,Ep,EI,BG,uH,Es,Ib⟩:=yH8 Fz Cg hE hm ei ix dj kS;clear Fz Cg hE hm cq ei ix dj jG d8 pm uJ uS Bv uW fA T1 T2 eY kf cJ aw d3 q5 nS C0 qp kg kS;go_upto_region 28 with fail
            go_wp2_with (at_builtin
                         go_loud(refine zau (v:=.slice NA es.length nc) (n:=es.length) (m:=1) rfl _ _ rfl elTm zof tm_one rfl (xs:=es) (ys:=[E]) (BA.o.keep (n:=W4.heap.size) Bw) rfl rfl rfl (sl_tm (by rw[If.o];exact zas _ _ _ Mcp)) McL Mcm Mcr ?_)
                         intro v5 w5 h1 h2 h3;obtain⟨H1,H2⟩:=yH2 h1 h2
                         clear h1 h2 h3)
            have l8:wrap64 ((j:Int)+1)=(j:Int)+1:=by
             unfold wrap64;omega
            obtain⟨BX,am⟩:=yH2 l8 aa;clear l8;go_wp2_with fail
            go_round
            case rel=>
             have E4:=H2.o.size;simp only[World.size_alloc]at E4;have JO:=BA.o;have GD:=HM.o;unfold MarkAt at GD;have KY:∀(k:Nat) (cur:Array Value) (t:TypeId) (f:Nat×Nat),WR.heap[k]?=some (.cells cur t f)->t≠138->W4.heap[k]?=WR.heap[k]?:=fun k cur t f hk n1=>
              Es.o.block k (zab hk) (fun e=>by
               simp only[Option.some.injEq]at e;rw[e,GD]at hk;simp only[Option.some.injEq,Obj.cells.injEq]at hk
               exact n1 hk.2.1.symm)
             have At:∀(k:Nat) (cur:Array Value) (t:TypeId) (f:Nat×Nat),W4.heap[k]?=some (.cells cur t f)->t≠84->w5.heap[k]?=W4.heap[k]?:=fun k cur t f hk n1=>by
              have hl:=zab hk;have a1:=H2.o.block k Mcr (fun e=>zkC JO hk n1 e.symm);exact a1.trans (Below.heap_alloc _ _ _ hl)
             have fR:∀(k:Nat) (cur:Array Value) (t:TypeId) (f:Nat×Nat),WR.heap[k]?=some (.cells cur t f)->t≠138->t≠84->w5.heap[k]?=WR.heap[k]?:=fun k cur t f hk n1 n2=>by
              have a1:=KY k cur t f hk n1;exact(At k cur t f (a1.trans hk) n2).trans a1
             have D7:Below w.heap.size w w5:=Below.grown (a:=w) (B:=w.heap.size) (zac (zaW HF.o Es.o Mcm) _ Mcm) H2.o Mcr (fun k hk=>by have:=(BA.o.ge k hk).1;omega);refine⟨j+1,es++[E],am.o,by go_num,H1.o,?_,?_,?_,D7,?_,?_,?_,by omega⟩
             ·show _=_;rw[ed.o,<-zA.o,List.map_append,kG.o,Ep.o];rfl
             ·show∀e∈es++[E],TmOk w5 w.heap.size e;intro e he;rcases List.mem_append.1 he with he|he
              ·refine(dG.o e he).same fun k cur t f hk ht=>fR k cur t f hk ?_ ?_
               ·rcases ht with rfl|rfl<;>decide
               ·rcases ht with rfl|rfl<;>decide
              ·rw[List.mem_singleton.1 he,Ep.o];refine⟨BG.o.ro'.same fun k cur f hk _=>At k cur _ f hk Mco,mh,uH.o.ro'.same fun k cur f hk _=>At k cur _ f hk Mco,Ib.o,fun a ha=>?_⟩;have ha:A2=some a:=ha;have:=(uH.o.ge a.block (by rw[ha];rfl)).1;omega
             ·rw[ed.o,<-zA.o];exact(At _ _ _ _ EI.o Mco).trans EI.o
             ·exact(fR _ _ _ _ fV.o Mco Mco).trans fV.o
             ·exact dS.o.same fun k cur _ hk=>fR k cur _ _ hk Mco Mco
             ·exact uO.o.same fun k cur _ hk=>fR k cur _ _ hk Mco Mco
            case measure=>have:=am.o;simp only[intOf];omega
        ·have au:¬(j:Int)<(HL.length:Int):=Mcm;have cW:aK.take j=aK:=List.take_of_length_le Mcm;have Ge:es.length=HL.length:=Mcm;rw[cW]at kG HM;have Ih:=zHi Ge;clear cW Ge sm ae hm hF hD hO hE dJ;go_wp2_with fail
         go_meet
         exact⟨NA,nc,es,by rw[Ih.o],HN.o,kG.o,dG.o,HM.o,HF.o,fV.o,dS.o⟩
      case rest=>
       obtain⟨NA,nn,es,rfl,gK,jx,bH,hm,hF,hD,hO⟩:=hcut;obtain⟨W6,rfl⟩:∃x,x=wc:=⟨_,rfl⟩
       have yy:=zfZ fr dy EF.1 s.graves [] EF.2;have bk:W6.cell? ⟨w.heap.size+1,0,none⟩=some (.bool (zcQ fr EF.1 aK EF.2).2):=(zbV hm).1;have Ld:=zab hm;have xh:es.length=HL.length:=by
        have h1:=congrArg List.length jx;rw[List.length_map,zkA]at h1;have:=nU.o;omega
       have m9:s.graves.any (zc2 fr dy)=true:=by
        cases hc:s.graves.any (zc2 fr dy)
        ·have h1:=jd.o;rw[List.filter_eq_nil_iff.2 (fun x hx=>by have:=List.any_eq_false.1 hc x hx;simpa using this)]at h1;have:=nU.o;rw[<-h1]at this;exact absurd this HZ.o
        ·rfl
       rw[List.nil_append,List.nil_append,List.length_nil,jd.o]at yy;have hX:=HX.o;rw[m9,<-yy.1,<-yy.2,<-jx]at hX;simp only[Bool.false_eq_true,if_false,if_true]at hX;have eM:=zHi hX;generalize(zcQ fr EF.1 aK EF.2).2=fl at*;obtain⟨kG,fW,dG,qB,Ia,lK,EK,uX⟩:=yH8 jx xh bH hF hD hO gK (fun j hj=>qK.o w (Below.refl _ _) j hj);have uU:Hid ((s.graves.filter (zc2 fr dy)).length=HL.length):=by show _=_;rw[jd.o,nU.o]
       clear yy m9 hX jx bH hm hF hD hO gK xh HX qK li HM aW HO HD jg uN lJ zd uQ qH qy eI HE zn jd;cases fl
       ·have rR:=eM.o;simp only[Bool.false_eq_true,if_false]at rR;have kh:=zHi rR;clear rR eM;have kw:=qB.o.size;have B8:∃HI,HI=zbe fr dy 0 s.graves:=⟨_,rfl⟩
        obtain⟨HI,Cn⟩:=B8;rw[<-Cn]at kh uX;have kV:HI.length=HL.length:=by
         rw[Cn,zfB,uU.o]
        have ia:HL.length<=nn:=by
         obtain⟨A',c',e',_,h'⟩:=EK.o.sl zof;simp only[Value.slice.injEq]at e';have:=fW.o;omega
        have Aq:HL.length<=hn:=by
         obtain⟨A',c',e',_,h'⟩:=lK.o.sl zcW;exact Ma6
        obtain⟨zm,IE,Bf⟩:=yH3 kV ia Aq;clear Cn kV ia Aq uU;go_wp2_with fail
        go_loopw [129] (fun i wr=>∃j:Nat,j<=HL.length/\i=.int .i64 j/\Hid (WldC wr b dd cc pp wl rr mv (.slice TA ps.length tc) la co)/\Hid (PplAt base wr Bk dd cc pp wl rr mv s)/\Hid (TombsAt base wr Bk (.slice TA ps.length tc) ps (zdw s.graves (HI.take j) ((es.map (·.1)).take j)))/\Hid (Below base w wr)/\wr.heap[w.heap.size]?=some (.cells #[.int .i64 kd,.int .i64 dy,.string pl,.string fr,.slice B ts.length c,.int .i64 cl,.int .i64 yr] 28)/\Hid (KeepD w wr)/\OwnS wr (w.heap.size+1+1) 81 1 ptrC (.slice HA HL.length hn) HL/\OwnS wr (w.heap.size+1+1) 84 6 tmC (.slice NA HL.length nn) es/\Hid (∀e∈es,TmOk wr w.heap.size e)/\w.heap.size<=wr.heap.size) (fun i _=>HL.length-(intOf i).toNat)
        case atStart=>exact⟨0,Nat.zero_le _,rfl,HC.o.keep qB.o,HP.o.keep qB.o,HT.o.keep qB.o,qB.o.mono Mcm,Ia.o,KeepD.below qB.o,lK.o,by rw[<-fW.o]at*;exact EK.o,dG.o,kw⟩
        case round=>
         obtain⟨j,hj,rfl,mZ,py,nv,bC,Cf,uZ,zX,wa,vo,kx⟩:=hrel;obtain⟨AV,o8,EL⟩:=yH3 Cf zX wa;by_cases aa:j<HL.length
         ·have oP:j<es.length:=by have:=fW.o;omega
          obtain⟨i,g,hi,ib,aT,_,gX⟩:=uX.o j aa;have FQ:HL[j]<w.heap.size:=by obtain⟨_,_,_,_,_,t1,_⟩:=gX;exact zab t1
          obtain⟨cC,dp,Cp,sg,vV⟩:=(zX.sl' zcW).at aa;subst Cp;have i0:wr.cell? ⟨cC,dp+j,none⟩=some (.pointer (some ⟨HL[j],0,none⟩)):=by have:=vV 0 _ rfl;simpa using this
          obtain⟨nb,noff,JN,q8,rD⟩:=(wa.sl' zof).at oP;subst JN;have bH:=vo.o es[j] (List.getElem_mem oP);have eU:i<(zdw s.graves (HI.take j) ((es.map (·.1)).take j)).length:=by rw[zjK];exact(List.getElem?_eq_some_iff.1 aT).1
          obtain⟨H,aJ,D,dc,frm,t1,t2,_⟩:=nv.o.all i _ _ ib (List.getElem?_eq_getElem eU);have bR:zdw s.graves (HI.take (j+1)) ((es.map (·.1)).take (j+1))=(zdw s.graves (HI.take j) ((es.map (·.1)).take j)).set i es[j].1:=by
           have Gn:j<HI.length:=by have:=zm.o;omega
           have KV:j<(es.map (·.1)).length:=by rw[List.length_map];exact oP
           have JD:HI[j]=i:=by
            rw[List.getElem?_eq_getElem Gn]at hi;exact Option.some.inj hi
           rw[List.take_succ_eq_append_getElem Gn,List.take_succ_eq_append_getElem KV,List.getElem_map,JD];exact ziI _ _ _ _ _ (by rw[List.length_take,List.length_take];omega)
          obtain⟨ed,qR,lL⟩:=yH3 bR ib bH;generalize HL[j]=T at*;generalize hE:es[j]=E at*;obtain⟨⟨gp,gc,gf,gh,gd⟩,efr,⟨EH,ehc⟩,⟨ED,edc⟩⟩:=E;have n0:wr.cell? ⟨nb,noff+j*6,none⟩=some (.string gp):=rD 0 _ rfl;have n1:wr.cell? ⟨nb,noff+j*6+1,none⟩=some (.int .i64 gc):=rD 1 _ rfl;have n2:wr.cell? ⟨nb,noff+j*6+2,none⟩=some (.int .i64 efr):=rD 2 _ rfl;have n3:wr.cell? ⟨nb,noff+j*6+3,none⟩=some (.int .i64 gf):=rD 3 _ rfl;have n4:wr.cell? ⟨nb,noff+j*6+4,none⟩=some (.slice EH gh.length ehc):=rD 4 _ rfl;have n5:wr.cell? ⟨nb,noff+j*6+5,none⟩=some (.slice ED gd.length edc):=rD 5 _ rfl;have cV:=zab t1;have eA:=zHi t1;unfold zbz at t1;generalize bf:(zdw s.graves (HI.take j) ((es.map (·.1)).take j))[i]=gg at*;obtain⟨z0,z1,z2,z3,z4,z5⟩:=cF6 t1;have fz:∀j,wr.frozen? ⟨T,j,none⟩=false:=fun j=>by simp only[World.frozen?,t1];rfl
          have au:(j:Int)<(HL.length:Int):=Mcm;have aP:(0:Int)<=(j:Int):=Mcm;have hkh:(j:Int)<=(hn:Int):=by have:=Bf.o;omega
          have jB:(j:Int)<=(nn:Int):=by have:=IE.o;omega
          have hnT:nb≠T:=by
           have:=(wa.ge nb rfl).1;omega
          obtain⟨am,r9⟩:=yH2 aa FQ;clear bf hE bR ib bH vV rD hi aT gX t1 Cf zX wa eU oP;go_wp2_with fail
          go_round
          case rel=>
           have hg:=zcc wr T (.string gp) (.int .i64 gc) (.int .i64 efr) (.int .i64 gf) (.slice EH gh.length ehc) (.slice ED gd.length edc);have JZ:=zi3 (show wr.heap[T]?=some (.cells #[.string gg.place,.int .i64 gg.cls,.int .i64 frm,.int .i64 gg.fin,.slice H gg.holders.length aJ,.slice D gg.died.length dc] 84) from eA.o) (.string gp) (.int .i64 gc) (.int .i64 efr) (.int .i64 gf) (.slice EH gh.length ehc) (.slice ED gd.length edc);have FQ:=r9.o;have Au:∀(k:Nat) (cur:Array Value) (t:TypeId) (f:Nat×Nat),wr.heap[k]?=some (.cells cur t f)->t=62\/t=9->((((((wr.setCell ⟨T,0,none⟩ (.string gp)).setCell ⟨T,1,none⟩ (.int .i64 gc)).setCell ⟨T,2,none⟩ (.int .i64 efr)).setCell ⟨T,3,none⟩ (.int .i64 gf)).setCell ⟨T,4,none⟩ (.slice EH gh.length ehc)).setCell ⟨T,5,none⟩ (.slice ED gd.length edc)).heap[k]?=wr.heap[k]?:=fun k cur t f hk ht=>
            hg.block k (zab hk) (fun e=>by
             simp only[Option.some.injEq]at e;rw[e,show wr.heap[T]?=_ from eA.o]at hk;simp only[Option.some.injEq,Obj.cells.injEq]at hk;rw[<-hk.2.1]at ht;revert ht
             decide)
           have hN:TombAt ((((((wr.setCell ⟨T,0,none⟩ (.string gp)).setCell ⟨T,1,none⟩ (.int .i64 gc)).setCell ⟨T,2,none⟩ (.int .i64 efr)).setCell ⟨T,3,none⟩ (.int .i64 gf)).setCell ⟨T,4,none⟩ (.slice EH gh.length ehc)).setCell ⟨T,5,none⟩ (.slice ED gd.length edc)) base Bk T ⟨gp,gc,gf,gh,gd⟩:=
            ⟨EH,ehc,ED,edc,efr,JZ,t2,lL.o.hc,lL.o.dc,lL.o.hs.kept hg eA.o Mco,lL.o.ds.kept hg eA.o Mco,fun _ a ha hb=>by
              have h1:=lL.o.ge a ha;have h2:=ppl_rows HP.o _ hb
              omega⟩
           refine⟨j+1,am.o,by go_num,wldC_tomb mZ.o eA.o hg,py.o.kept hg eA.o Mco Mco Mco,?_,zaW bC.o hg t2 Mcm,(hg.block _ (zab AV.o) Mcr).trans AV.o,uZ.o.trans (KeepD.cells hg eA.o Mco),o8.o.kept hg eA.o Mco,EL.o.grown hg (.inr fun e=>by have:=(EL.o.ge _ e).1;omega),fun e he=>(vo.o e he).same Au,Nat.le_trans kx hg.size⟩;show TombsAt _ _ _ _ _ _;rw[ed.o];exact zna nv.o qR.o eA.o hg hN
          case measure=>have:=am.o;simp only[intOf];omega
         ·have au:¬(j:Int)<(HL.length:Int):=Mcm;have h1:HI.take j=HI:=List.take_of_length_le (by have:=zm.o;omega);have h2:(es.map (·.1)).take j=es.map (·.1):=List.take_of_length_le (by have:=fW.o;rw[List.length_map];omega);rw[h1,h2]at nv;clear h1 h2 Cf zX wa;go_wp2_with fail
          go_meet
          exact⟨_,kh.o,⟨Bk,dd,cc,pp,wl,rr,mv,_,ps,b8,mZ.o,⟨py.o.nd,py.o.ge,py.o.dead,py.o.rows,py.o.marr,py.o.wills,py.o.ren⟩,nv.o⟩,bC.o,AV.o,uZ.o⟩
       ·have rR:=eM.o;simp only[if_true]at rR;have kh:=zHi rR;clear rR eM;go_wp2_with fail
        go_ret
        exact zbP HW.o qB.o kh.o
   case rest=>
    obtain⟨gs,av,Kb,eB,zK,JI⟩:=hcut;have Is:=zHi JI;obtain⟨W9,rfl⟩:∃x,x=wc:=⟨_,rfl⟩
    obtain⟨Bk',d',c',p',wl',r',mv',tv',ps',ee,cB,gA,fN⟩:=Kb;have sg:=zab cB;have bA:=zab zK;obtain⟨I6,BH,EV,ie⟩:=yH4 cB gA fN eB;unfold WldC at cB;obtain z0:=cF1 cB;obtain⟨-,-,-,z3⟩:=cF4 zK;obtain⟨es,ec,hx⟩:=zby gA.dead;have og:=zHi hx;have kT:=gA.dead.at.lt;have da:b≠d':=fun e=>by subst e;rw[cB]at hx;simp at hx
    have Eb:w.heap.size≠d':=fun e=>by rw[<-e,zK]at hx;simp at hx
    clear cB gA fN eB zK hx;go_upto_region 37 with fail
    refine wp_region_held_drew (S:=(fun w'=>w'.cell? ⟨b,0,none⟩=some (.map (some d'))/\w'.cell? ⟨w.heap.size,3,none⟩=some (.string fr))) Mcn ?hS ?hrest
    case hS=>exact⟨z0,z3⟩
    case hrest=>
     intro hHeld;refine TkH 0 ?_;refine TkH 1 ?_;refine TkH 2 ?_;refine TkH 3 ?_;refine TkH 4 ?_;refine TkH 5 ?_;refine TkH 6 ?_;refine OnH 7 fun K hK=>?_
     obtain⟨w6,hrun,iW,bI,kw⟩:=zcs (w:=W9.drew) zo0 (BH.o.dead.keep (w':=W9.drew) rfl) fr true;refine zcZ rfl _ _ _ rfl _ _ _ rfl rfl rfl w6 hrun ?_;have oI:W9.grownBy w6 (some d'):=⟨bI.os,bI.tape,bI.output,bI.size,bI.block⟩
     have p6:w6.cell? ⟨b,0,none⟩=some (.map (some d')):=(zbc oI sg da).trans z0;have q6:w6.cell? ⟨w.heap.size,3,none⟩=some (.string fr):=(zbc oI bA Eb).trans z3;obtain⟨vh,jL⟩:=yH2 iW oI;clear iW bI oI hrun;refine hK.out _ _ ?_ (fun hHeld=>?_);focus((try dsimp only);refine⟨?_,?_⟩<;>assumption)
     clear hK K;try simp only[Act.put,List.setIfInBounds_toArray,List.set_cons_zero,List.set_cons_succ]
     refine wpAnyH_done Mcn ?_ _;go_wp2_with fail
     go_ret
     rw[av.o];have dg:=BH.o.ge;have uh:mput eqS fr true (s.dead.map fun n=>(n,true))=(s.dead++[fr]).map fun n=>(n,true):=by
      have hz:=zi9 (eq:=eqS) (k:=fr) (l:=s.dead) (by rw[zhG];exact sk);rw[zkx hz];simp
     have sI:MapS w6 d' ekS evB ((s.dead++[fr]).map fun n=>(n,true)):=by
      rw[<-uh];exact vh.o
     exact⟨rfl,zmL ee I6.o EV.o jL.o og.o rfl (ppl_dead BH.o jL.o sI),zaW ie.o jL.o dg.1 (by have:=HW.o.lt;omega),Is.o.trans (KeepD.map jL.o og.o)⟩
 ·go_quiet (fail)
  go_wp2_with fail
  go_ret
  exact zbP HW.o Bw HX.o

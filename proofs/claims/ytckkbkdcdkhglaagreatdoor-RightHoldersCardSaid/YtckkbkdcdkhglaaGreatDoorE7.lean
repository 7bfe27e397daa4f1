/- Walk of chapter 5's death. -/
import Derived.Test.YtckkbkdcdkhglaaGreatDoorOA
import Derived.Test.YtckkbkdcdkhglaaGreatDoorE1
set_option linter.unusedSimpArgs false
set_option linter.unusedVariables false
set_option maxRecDepth 100000
set_option maxHeartbeats 4000000
namespace Go.Proofs.YtckkbkdcdkhglaaGreatDoor
open Go.RowKit Go.Shelf
attribute [local go_sem] World.cell?_alloc_mark zag za5 zaq za8 zaw zax zay zaz za0 za1 za2
attribute [local go_sem] zap zad
theorem estate_bd {s:St} {law:Law} {n:ByteArray} (hw:WillOk (zbu s n)) (hl:za6 16 law.num law.den=true):Bd (zcg s law n).1 1:=by
 have hi:=zkC (s:=s) (frm:=n) hw (zbu s n).length;rw[List.take_of_length_le (Nat.le_refl _)]at hi;unfold zcg;generalize zdg s n (zbu s n) ([],false) 1=y at*;obtain⟨⟨o,f⟩,r⟩:=y;obtain⟨o1,o2,_,_⟩:=own_ok hi.isN hi.nn hi.le hl;have hb:=hi.bd;have hn:=hi.nn;simp only at*;split
 ·exact(zf5 (fl:=f) hb hn).up6 McO
 ·split
  ·exact(zg7 (fl:=f) hn hb).up6 McO
  ·exact(zg7 (fl:=(zcP (zcn s n) (r*Rat.divInt law.num law.den) (o,f)).2) (show 0<=r-r*Rat.divInt law.num law.den by grind) (zf5 (n:=zcn s n) (fl:=f) hb o1)).up6 McO
theorem death_bd {g:Grave} {n:ByteArray} {hs:Parts} (hG:GoodG g) (hE:Bd hs 1):0<=zaf g.holders n/\zaK (zaf g.holders n)/\zaf g.holders n<=1/\ ∀(f:Bool) (k:Nat),Bd (zef (zaf g.holders n) (hs.take k) (setP g.holders n 0,f)).1 1:=by
 have ho:=zb8 hG.good n;have bQ:=zdw hG.good n;have dP:sumQ g.holders<=1:=by
  rcases hG.one with h|h
  ·rw[h];decide
  ·rw[h];exact Rat.le_refl
 have hb:Bd (setP g.holders n 0) (1-zaf g.holders n):=by
  refine⟨zhI hG.good Mcn,zet hG.small Mcn,?_⟩;rw[zmC hG.good];grind
 refine⟨ho,zcb ho McO (zcJ n hG.small),by grind,fun f k=> ?_⟩
 have h2:=zmD ho (l:=hs.take k) (f:=f) (fun p hp=>by
  have:=hE.good.pos p (List.mem_of_mem_take hp)
  grind) hb
 refine h2.up ?_;have h3:=zlD hs hE.good.pos k;have h4:=hE.le;have h5:=Rat.mul_nonneg ho (show 0<=1-sumQ (hs.take k) by grind);grind
theorem sum_mem {l:Parts} (h: ∀p∈l,0<p.2) {p:ByteArray×Rat} (hp:p∈l):p.2<=sumQ l:=by
 induction l with
 |nil=>cases hp
 |cons x l ih=>
  rw[sumQ];have h1:=zj5 (l:=l) fun q hq=>h q MdA
  have h2:=h x Mco;rcases List.mem_cons.1 hp with rfl|hp
  ·grind
  ·have:=ih (fun q hq=>h q MdA) hp;grind
theorem zdH {hs:Parts} (hE:Bd hs 1) {p:ByteArray×Rat} (hp:p∈hs):0<p.2/\p.2<=1/\zaK p.2:=by
 have h0:=hE.good.pos p hp;have h1:p.2<=1:=by
  have:=hE.le;have h2:=sum_mem hE.good.pos hp;grind
 refine⟨h0,h1,zcb McO h1 ?_⟩;have:=hE.small;unfold zaE at this;rw[List.any_eq_false]at this;simpa using this p hp
theorem zoM (own:Rat) (hs:Parts) (x:Parts×Bool) {k:Nat} (h:k<hs.length):zef own (hs.take (k+1)) x=zfd own hs[k] (zef own (hs.take k) x):=by
 rw[List.take_succ_eq_append_getElem h,zfe];rfl
theorem tomb_set5 {W:World} {T:Nat} {pl:ByteArray} {cl fr en:Int} {v dv:Value} (h:zbv W T pl cl fr en v dv) (v':Value):zbv (W.setCell ⟨T,5,none⟩ v') T pl cl fr en v v':=by
 unfold zbv at*;have:=Joins.block_setCell (i:=5) h v';simpa using this
theorem zkI {α:Type} {W:World} {base:Nat} {e t:TypeId} {size:Nat} {f:α->List Value} {v:Value} {xs:List α} {T:Nat} {cs:Array Value} {fr:Nat×Nat} (h:OwnS W base e size f v xs) (hT:W.heap[T]?=some (.cells cs t fr)) (ai:t≠e):za7 v≠some T:=by
 exact M4
def zbP (n:ByteArray) (day:Int) (ps:List Nat) (gs:List Grave):List Nat:=(zbf n day 0 gs).map fun i=>ps.getD i 0
theorem zoN (a b:Int) (w:World):(Instr.field 58 (.agg #[.int .i64 a, .int .i64 b]) 0).run Tryz.prog w= .ok (.int .i64 a) w:=by kernel_rfl
abbrev Tm:=Grave×Int×(Option Addr×Nat)×(Option Addr×Nat)
def tmC (e:Tm):List Value:=[.string e.1.place, .int .i64 e.1.cls, .int .i64 e.2.1, .int .i64 e.1.fin, .slice e.2.2.1.1 e.1.holders.length e.2.2.1.2, .slice e.2.2.2.1 e.1.died.length e.2.2.2.2]
theorem znY (e:Tm):(tmC e).length=6:=rfl
theorem tm_one (e:Tm): ∀u∈tmC e,u.oneCell'=true:=by simp[tmC,Value.oneCell']
theorem elTm:ElTy Tryz.prog 202 75 6 88:=zd5 (z:= .agg #[.string ⟨#[]⟩, .int .i64 0, .int .i64 0, .int .i64 0, .slice none 0 0, .slice none 0 0]) Mcm Mcm rfl Mcn
structure TmOk (W:World) (n0:Nat) (e:Tm):Prop where
 hs:Ro W 63 zaa e.2.2.1.1 e.1.holders
 hc:e.1.holders.length<=e.2.2.1.2
 ds:Ro W 9 sC e.2.2.2.1 e.1.died
 dc:e.1.died.length<=e.2.2.2.2
 ge: ∀a,e.2.2.2.1=some a->n0<=a.block
theorem TmOk.same {W W':World} {n0:Nat} {e:Tm} (h:TmOk W n0 e) (hk: ∀(k:Nat) (cur:Array Value) (t:TypeId) (f:Nat×Nat),W.heap[k]?=some (.cells cur t f)->t=63\/t=9->W'.heap[k]?=W.heap[k]?):TmOk W' n0 e:=
 ⟨h.hs.same fun b cur f hb _=>hk b cur _ f hb (.inl rfl),h.hc,h.ds.same fun b cur f hb _=>hk b cur _ f hb (.inr rfl),h.dc,h.ge⟩
theorem held_tomb {n:ByteArray} {day:Int} {ps:List Nat} {gs:List Grave} {base:Nat} {W:World} {B:List Nat} {tv:Value} (hT:TombsAt base W B tv ps gs) {j:Nat} (hj:j<(zbP n day ps gs).length):
 ∃i g,(zbf n day 0 gs)[j]?=some i/\ps[i]?=some (zbP n day ps gs)[j]/\gs[i]?=some g/\(gs.filter (zc6 n day))[j]?=some g/\TombAt W base B (zbP n day ps gs)[j] g:=by
 have s8:j<(zbf n day 0 gs).length:=by unfold zbP at hj;simpa using hj
 obtain⟨_,g,h2,h3⟩:=znT n day gs 0 j _ (List.getElem?_eq_getElem s8);rw[Nat.sub_zero]at h2;have hi:(zbf n day 0 gs)[j]<ps.length:=by have:=(List.getElem?_eq_some_iff.1 h2).1;have:=hT.len;omega
 have hp:ps[(zbf n day 0 gs)[j]]?=some (zbP n day ps gs)[j]:=by
  have e:(zbP n day ps gs)[j]=ps.getD (zbf n day 0 gs)[j] 0:=by unfold zbP;simp
  rw[e,List.getElem?_eq_getElem hi,List.getD_eq_getElem?_getD,List.getElem?_eq_getElem hi];rfl
 exact⟨_,g,List.getElem?_eq_getElem s8,hp,h2,h3,hT.all _ _ _ hp h2⟩
theorem sl_tm {w:World} {b:Nat} {e:Tm} {t:TypeId} {fr:Nat×Nat} (h:w.heap[b]?=some (.cells (tmC e).toArray t fr)):Sl w 6 tmC (some ⟨b,0,none⟩) [e]:=fun _=>⟨b,0,rfl,zab h,fun k y hy j u hu=>by
 have hk:k=0:=Mcx;subst hk;simp only[List.getElem?_cons_zero,Option.some.injEq]at hy;subst hy;simp only[World.cell?,h,Nat.zero_mul,Nat.zero_add,Nat.add_zero]
 simpa using hu⟩
theorem ppl_rows {base:Nat} {W:World} {B:List Nat} {d c p wl r:Nat} {mv:Value} {s:St} (h:PplAt base W B d c p wl r mv s): ∀g∈B,g<W.heap.size:=fun g hg=>by
 obtain⟨mc,mp,_,_,k3,k4,k5,_,kn1,kn2⟩:=h.rows;have key: ∀ {m:List (ByteArray×Value)} {f:ByteArray->List ByteArray},(m.map (·.1)).Nodup->(∀n,RowIs W base m n (f n))->g∈zaX m->g<W.heap.size:=fun {m f} hk hr h=>by
  obtain⟨e,he,fF⟩:=zdc.1 h;have h1:=zhM hk (show(e.1,e.2)∈m from he);rcases hr e.1 with⟨h2,_⟩|⟨v,h2,h3⟩
  ·rw[h2]at h1;cases h1
  ·rw[h2]at h1;simp only[Option.some.injEq]at h1;rw[h1]at h3;exact(h3.ge g fF).2
 rw[k5,zc2,List.mem_append]at hg;rcases hg with hg|hg
 ·exact key kn1 k3 hg
 ·exact key kn2 k4 hg
theorem zmY {base i T:Nat} {W W':World} {B ps:List Nat} {tv:Value} {gs:List Grave} {g':Grave} {cs:Array Value} {fr:Nat×Nat} (hT:TombsAt base W B tv ps gs)
 (hi:ps[i]?=some T) (hx:W.heap[T]?=some (.cells cs 75 fr)) (hg:W.grownBy W' (some T)) (hN:TombAt W' base B T g'):TombsAt base W' B tv ps (gs.set i g'):=by
 refine⟨hT.own.kept hg hx Mcn,by simp[hT.len],hT.nd,fun j T' g e1 e2=> ?_⟩;by_cases hj:i=j
 ·subst hj;rw[hi]at e1;have eb:i<gs.length:=MdG;exact Mbp
 ·exact Mas
theorem wldC_tomb {W W':World} {b d c p wl r T:Nat} {mv tv:Value} {la co:Int} {cs:Array Value} {fr:Nat×Nat} (h:WldC W b d c p wl r mv tv la co) (hx:W.heap[T]?=some (.cells cs 75 fr)) (hg:W.grownBy W' (some T)):WldC W' b d c p wl r mv tv la co:=
 (hg.block b (zab h) (fun e=>by
   simp only[Option.some.injEq]at e;subst e;unfold WldC at h;rw[h]at hx
   simp at hx)).trans h
theorem zoO {w W W':World} {g n:Nat} (h:w.grownBy W (some g)) (hb:Below n W W') (hn:w.heap.size<=n):w.grownBy W' (some g):=
 ⟨hb.os.trans h.os,hb.tape.trans h.tape,hb.output.trans h.output,Nat.le_trans h.size hb.size,fun k hk ai=>(hb.block k Mcl).trans (h.block k hk ai)⟩
theorem zjS {w W W':World} {g n:Nat} (hb:Below n w W) (hn:w.heap.size<=n) (h:W.grownBy W' (some g)):w.grownBy W' (some g):=
 ⟨h.os.trans hb.os,h.tape.trans hb.tape,h.output.trans hb.output,Nat.le_trans hb.size h.size,fun k hk ai=>(h.block k (Nat.lt_of_lt_of_le hk hb.size) ai).trans (hb.block k Mcl)⟩
theorem B_drop {w W:World} (h:Below w.drew.heap.size w.drew W):Below w.heap.size w W:=⟨h.os,h.tape,h.output,h.size,h.block⟩
theorem death_any (base b:Nat) (s:St) (la co last:Int) (laws:List Law) (LA:Option Addr) (lc:Nat) (d:Deed) (B:Option Addr) (c:Nat) (w:World) (hW:WldAt base w b s la co) (ji:GoodSt s last) (hl:last<=d.day) (hk:d.kind=8) (du:za6 16 (zaV laws d.day).num (zaV laws d.day).den=true) (fq:laws.length<=10) (ir:Sl w 4 Law.cells LA laws)
 (i8:s.graves.length<=1000) (bV:s.children.length<=1000) (ft:s.marriages.length<=1000) (cx:(zbu s d.frm).length<=1000) (cB: ∀g∈s.graves,g.holders.length<=70000/\g.died.length<=1000):
 Calls Tryz.prog 127 #[.pointer (some ⟨b,0,none⟩), .slice LA laws.length lc,d.v B c] w (zbF base b (zdJ laws s d) la co w):=by
 have hq:=deathP_eq ji hl du;have EG:=estate_bd (s:=s) (law:=zaV laws d.day) (ji.wills d.frm) du;have ao:=hW;obtain⟨Bk,dd,cc,pp,wl,rr,mv,tv,ps,ba,hC,hP,hT⟩:=hW;have dH:=zab hC;obtain⟨kd,dy,pl,fr,ts,cl,yr⟩:=d;simp only at*;clear hk;have HX:Hid (zdJ laws s ⟨kd,dy,pl,fr,ts,cl,yr⟩=_):=hq;generalize zdJ laws s ⟨kd,dy,pl,fr,ts,cl,yr⟩=X at*;obtain⟨TA,tc,rfl,_,ub⟩:=hT.own.sl zcY;have Ff:=hT.own;have uV:=zHi hT.len;have HC:=zHi hC;have HP:=zHi hP;have HT:=zHi hT;have HW:=zHi ao;have dG:=zHi ji;have qm:=zHi cB;have dU:=zHi ir;have qf:=zHi EG;unfold WldC at hC;obtain⟨c0,-,-,-,-,-,c6⟩:=cF7 hC;have ij:=zHi (fun W (hB:Below w.heap.size w W)=>zcZ (HP.o.keep hB) fr);have aT: ∀q',_:=fun q'=>ij.o ((w.alloc (.cells #[.int .i64 kd, .int .i64 dy, .string pl, .string fr, .slice B ts.length c, .int .i64 cl, .int .i64 yr] 68)).drewN q') (zd4 Bw _)
 generalize rR:zaH s fr=dx at*;clear hC hP hT ao ji cB ir hq EG;unfold Deed.v;simp only;go_enter Tryz.func127,Tryz.ntmps127
 go_upto_region 1 with fail
 cases dx
 ·go_quiet (fail)
  go_upto_block 0 with fail
  have bL:Below w.heap.size w (((w.alloc (.cells #[.int .i64 kd, .int .i64 dy, .string pl, .string fr, .slice B ts.length c, .int .i64 cl, .int .i64 yr] 68)).drewN nq).alloc (.cells #[.bool false] 92)):=zac (zd4 Bw _) _;have D2:(((w.alloc (.cells #[.int .i64 kd, .int .i64 dy, .string pl, .string fr, .slice B ts.length c, .int .i64 cl, .int .i64 yr] 68)).drewN nq).alloc (.cells #[.bool false] 92)).heap[w.heap.size]?=some (.cells #[.int .i64 kd, .int .i64 dy, .string pl, .string fr, .slice B ts.length c, .int .i64 cl, .int .i64 yr] 68):=zak (zar _ _ _ rfl);have M2:MarkAt (((w.alloc (.cells #[.int .i64 kd, .int .i64 dy, .string pl, .string fr, .slice B ts.length c, .int .i64 cl, .int .i64 yr] 68)).drewN nq).alloc (.cells #[.bool false] 92)) (w.heap.size+1) false:=zar _ _ _ (by simp[World.drewN]);have s2:(((w.alloc (.cells #[.int .i64 kd, .int .i64 dy, .string pl, .string fr, .slice B ts.length c, .int .i64 cl, .int .i64 yr] 68)).drewN nq).alloc (.cells #[.bool false] 92)).heap.size=w.heap.size+1+1:=by simp[World.drewN]
  generalize(((w.alloc (.cells #[.int .i64 kd, .int .i64 dy, .string pl, .string fr, .slice B ts.length c, .int .i64 cl, .int .i64 yr] 68)).drewN nq).alloc (.cells #[.bool false] 92))=W2 at*;have aS:=zHi bL;have jF:=zHi D2;have p9:=zHi M2;have S2:=zHi s2;clear D2 M2 s2 aT;have br:=bL.size;clear bL;go_cut [8,10,35]from 36 (fun v8 _ _ wc=> ∃A n,v8= .slice A (zbP fr dy ps s.graves).length n/\OwnS wc W2.heap.size 72 1 ptrC v8 (zbP fr dy ps s.graves)/\Below W2.heap.size W2 wc)
  case first=>
   go_wp2_with fail
   go_loopw [8,35] (fun v i wr=> ∃(k:Nat),k<=ps.length/\i= .int .i64 k/\OwnS wr W2.heap.size 72 1 ptrC v (zbP fr dy ps (s.graves.take k))/\Below W2.heap.size W2 wr) (fun _ i _=>ps.length-(intOf i).toNat)
   case atStart=>exact⟨0,Nat.zero_le _,rfl,OwnS.nil,Below.refl _ _⟩
   case round=>
    obtain⟨k,hk,rfl,ae,hB⟩:=hrel;obtain⟨VA,vc,rfl,_,kC⟩:=ae.sl zcY;have bj:Below w.heap.size w wr:=aS.o.trans (hB.mono br);have hsz:=hB.size;have HO:=zHi ae;have HB:=zHi hB;have e1:wr.cell? ⟨w.heap.size,1,none⟩=some (.int .i64 dy):=(zah hB MdK).trans (by simp only[World.cell?,jF.o];rfl);have e3:wr.cell? ⟨w.heap.size,3,none⟩=some (.string fr):=(zah hB MdK).trans (by simp only[World.cell?,jF.o];rfl);have bz:w.heap.size<wr.heap.size:=MdK;by_cases aa:k<ps.length
    ·have pB:k<s.graves.length:=by have:=uV.o;omega
     have Jg:=(HT.o.keep bj).all k ps[k] s.graves[k] (List.getElem?_eq_getElem aa) (List.getElem?_eq_getElem pB);have b9:=dG.o.graves s.graves[k] (List.getElem_mem pB);have rV:=qm.o s.graves[k] (List.getElem_mem pB)
     obtain⟨TB,toff,Jf,hTb,Fg⟩:=(show Sl wr 1 ptrC TA ps from by
      obtain⟨A',c',e',h',_⟩:=(Ff.keep bj).sl zcY;simp only[Value.slice.injEq]at e'
      rw[e'.1];exact h').at aa
     subst Jf;have bW:=held_snoc fr dy s.graves pB;have iG:ps.getD k 0=ps[k]:=Mdc;have i0:wr.cell? ⟨TB,toff+k,none⟩=some (.pointer (some ⟨ps[k],0,none⟩)):=by have:=Fg 0 _ rfl;simpa using this
     have tN:zbP fr dy ps (s.graves.take (k+1))=zbP fr dy ps (s.graves.take k)++if zc6 fr dy s.graves[k]then[ps[k]]else[]:=by
      unfold zbP;rw[bW,List.map_append];cases zc6 fr dy s.graves[k]
      ·rfl
      ·show _++[ps.getD k 0]=_;rw[iG];rfl
     generalize ps[k]=T at*;generalize s.graves[k]=g at*;have FZ:zc6 fr dy g=(zaU g dy&&decide (0<(zaf g.holders fr).num)):=rfl;obtain⟨H,aU,D,dc,frm,t1,t2,t3,t4,t5,t6,t7⟩:=Jg;have d8:=zab t1;unfold zbv at t1;obtain⟨-,-,-,g3,g4⟩:=cF5 t1;have AF:=zHi (fun W (hW:Below wr.heap.size wr W)=>ziq g H aU T dy W ((zah hW d8).trans g3) ((zah hW d8).trans g4));have dW:=zHi (fun W (hW:Below wr.heap.size wr W)=>zer g.holders H aU T fr W ((zah hW d8).trans g4) (Nat.lt_of_lt_of_le d8 hW.size) Mcl b9.good.asc (Ro.sl zan (t5.keep hW)));have sX:=zHi tN;have yX:=zHi FZ;generalize zaU g dy=fi at*;generalize zaf g.holders fr=q at*;unfold za9 at dW;have ar:(k:Int)<(ps.length:Int):=Mcl;have aT:(0:Int)<=(k:Int):=Mcl;have fN:(k:Int)<=(tc:Int):=Mcl;have eB:(zbP fr dy ps (s.graves.take k)).length<=1000:=by
      unfold zbP;rw[List.length_map,zf6];exact MaT
     generalize zbP fr dy ps (s.graves.take k)=eD at*;have eG:=zHi eB;clear b9 rV bW tN FZ t1 t5 t6 t7 t2 t3 t4 Fg ae hB bj eB iG g3 g4;have zO:=zoN q.num q.den;cases fi
     ·rw[Bool.false_and]at yX;go_wp2_with (go_at_call 61;refine(AF.o _ Bw).mono ?_;rintro e wq ⟨rfl,z,rfl⟩)
      go_round
      case rel=>exact⟨k+1,by omega,by go_num,by rw[sX.o,yX.o];simpa using HO.o.keep (n:=wr.heap.size) Bw,HB.o.trans ((Bw:Below wr.heap.size wr _).mono hsz)⟩
      case measure=>simp[intOf];omega
     ·by_cases hq:0<q.num
      ·have B9:Hid (zc6 fr dy g=true):=by show _=_;rw[yX.o];simpa using hq
       go_wp2_with (first
        |(go_at_call 61;refine(AF.o _ Bw).mono ?_;rintro e wq ⟨rfl,z,rfl⟩)
        |(go_at_call 160;refine(dW.o _ Bw).mono ?_;rintro e wq2 ⟨rfl,z2,rfl⟩)
        |(at_builtin;go_loud(refine zav (v:= .slice VA eD.length vc) (n:=eD.length) (m:=1) rfl _ _ rfl elTomb zcY znG rfl (HO.o.keep (n:=wr.heap.size) Bw) rfl rfl rfl (sl_ptr (T:=T) (zar _ _ _ Mdh)) (by have:=eG.o;simp[maxLen];omega) (by have:=eG.o;omega) Mcu ?_);intro v3 w3 h1 h2 h3))
       have av:Below W2.heap.size W2 w3:=Below.grown (a:=W2) (B:=W2.heap.size) (HB.o.trans ((Bw:Below wr.heap.size wr _).mono hsz)) h2 Mcu (fun j hj=>(HO.o.ge j hj).1);have aJ:=zHi av;have H1:=zHi h1;clear h1 h2 h3 av;go_wp2_with fail
       go_round
       case rel=>exact⟨k+1,by omega,by go_num,by rw[sX.o,B9.o];exact H1.o,aJ.o⟩
       case measure=>simp[intOf];omega
      ·have B9:Hid (zc6 fr dy g=false):=by show _=_;rw[yX.o];simpa using hq
       go_wp2_with (first
        |(go_at_call 61;refine(AF.o _ Bw).mono ?_;rintro e wq ⟨rfl,z,rfl⟩)
        |(go_at_call 160;refine(dW.o _ Bw).mono ?_;rintro e wq2 ⟨rfl,z2,rfl⟩))
       go_round
       case rel=>exact⟨k+1,by omega,by go_num,by rw[sX.o,B9.o];simpa using HO.o.keep (n:=wr.heap.size) Bw,HB.o.trans ((Bw:Below wr.heap.size wr _).mono hsz)⟩
       case measure=>simp[intOf];omega
    ·have ar: ¬(k:Int)<(ps.length:Int):=Mcl;have iY:zbP fr dy ps (s.graves.take k)=zbP fr dy ps s.graves:=by rw[List.take_of_length_le (by have:=uV.o;omega)]
     have fB:=zHi iY;clear iY ae hB bj;go_wp2_with fail
     go_meet
     have hO:=HO.o;rw[fB.o]at hO⊢;exact⟨VA,vc,rfl,hO,HB.o⟩
  case rest=>
   obtain⟨HA,hn,rfl,ae,hB⟩:=hcut;have bj:Below w.heap.size w wc:=aS.o.trans (hB.mono br);have hD:wc.heap[w.heap.size]?=some (.cells #[.int .i64 kd, .int .i64 dy, .string pl, .string fr, .slice B ts.length c, .int .i64 cl, .int .i64 yr] 68):=(hB.block _ MdK).trans jF.o;have hM:MarkAt wc (w.heap.size+1) false:=(hB.block _ MdK).trans p9.o;have mh:(zbP fr dy ps s.graves).length=0->s.graves.any (zc6 fr dy)=false:=fun h=>by
    unfold zbP at h;rw[List.length_map,zf6]at h;rw[List.any_eq_false];intro g hg hq;have:g∈s.graves.filter (zc6 fr dy):=List.mem_filter.2 ⟨hg,hq⟩;rw[List.eq_nil_of_length_eq_zero h]at this;cases this
   have lj:=zHi mh;have HO:=zHi ae;have aW:=zHi bj;have HD:=zHi hD;have HM:=zHi hM;clear mh ae bj hD hM;go_upto_if 58 with fail
   go_cut [11,12,14,15,16,18,19,20,21,58]from 59 (fun _ _ _ _ _ _ _ _ _ _ W=> ∃gs,Hid (X=({s with graves:=gs,dead:=s.dead++[fr]},0))/\WldAt base W b {s with graves:=gs} la co/\Below base w W/\W.heap[w.heap.size]?=some (.cells #[.int .i64 kd, .int .i64 dy, .string pl, .string fr, .slice B ts.length c, .int .i64 cl, .int .i64 yr] 68)/\KeepD w W)
   case first=>
    by_cases hz:(zbP fr dy ps s.graves).length=0
    ·have j8: ¬(0:Int)<((zbP fr dy ps s.graves).length:Int):=Mcl;have hX:=HX.o;rw[lj.o hz]at hX;have au:=zHi hX;clear hz hX;go_wp2_with fail
     go_meet
     refine⟨s.graves,?_,HW.o.keep aW.o,aW.o.mono (by have:=HW.o.lt;omega),HD.o,KeepD.below aW.o⟩;show _=_;rw[au.o];simp
    ·have j8:(0:Int)<((zbP fr dy ps s.graves).length:Int):=Mcl;have HZ:=zHi hz;have d1:wc.cell? ⟨w.heap.size,1,none⟩=some (.int .i64 dy):=by simp only[World.cell?,HD.o];rfl
     have d3:wc.cell? ⟨w.heap.size,3,none⟩=some (.string fr):=by simp only[World.cell?,HD.o];rfl
     have bz:w.heap.size<wc.heap.size:=zab HD.o;have aK:=aW.o.size;have oY:=zHi (show∃EF,EF=zcg s (zaV laws dy) fr from⟨_,rfl⟩);obtain⟨EF,kS⟩:=oY.o;rw[<-kS]at qf HX;have hel:EF.1.length<=3000:=by
      have h1:=qf.o.good;have h2:=ziM (s:=s) (law:=zaV laws dy) (n:=fr) (by rw[<-kS];exact h1);rw[<-kS]at h2;omega
     have eT:=zHi hel;have HE:=zHi kS;clear hz kS oY hel;go_upto_region 12 with fail
     clear j8;go_cut [11,58]from 59 (fun v11 _ W=> ∃A n,v11= .slice A EF.1.length n/\OwnS W (w.heap.size+1+1) 63 3 zaa v11 EF.1/\MarkAt W (w.heap.size+1) EF.2/\wc.grownBy W (some (w.heap.size+1)))
     case first=>
      refine wp_region_held_drew (S:=(fun w'=>w'.cell? ⟨w.heap.size,1,none⟩=some (.int .i64 dy)/\w'.cell? ⟨w.heap.size,3,none⟩=some (.string fr))) Mcm ?hS ?hrest
      case hS=>exact⟨d1,d3⟩
      case hrest=>
       intro hHeld;refine TkH 0 ?_;refine TkH 1 ?_;refine TkH 2 ?_;refine TkH 3 ?_;refine TkH 4 ?_;refine TkH 5 ?_;refine TkH 7 ?_;refine TkH 8 ?_;refine OnH 6 fun K hK=> ?_
       go_simp
       refine(zj2 laws LA lc dy _ fq (dU.o.keep (aW.o.trans ((zaM (Below.refl _ _)).mono aK)))).mono ?_;rintro e w5 ⟨rfl,z,rfl⟩;refine NxM hK (fun hHeld=> ?_) (⟨(za5 _ _ _ _ bz).trans d1,(za5 _ _ _ _ bz).trans d3⟩);clear hK K;refine OnH 9 fun K hK=> ?_
       go_simp
       refine(zjQ base b (w.heap.size+1) s last (zaV laws dy) fr _ ?q1 dG.o ?q2 bV ft cx du).mono ?_
       case q1=>exact fun W hW=>HW.o.peo.keep (zaS (aW.o.trans ((zbc (zaM (Below.refl _ _)) z).mono aK)) hW Mcl)
       case q2=>exact HM.o.drew.ext z
       rintro e w6 ⟨v,rfl,n1,n2,n3⟩;rw[<-HE.o]at n1 n2;have n3':wc.grownBy w6 (some (w.heap.size+1)):=⟨n3.os,n3.tape,n3.output,Nat.le_trans Mdh n3.size,fun k hk ai=>(n3.block k Mcu ai).trans (zcI _ _ _ hk)⟩
       have N1:=zHi n1;have N2:=zHi n2;have N3:=zHi n3';clear n1 n2 n3 n3';refine NxM hK (fun hHeld=> ?_) (⟨(zbd N3.o bz Mcl).trans d1,(zbd N3.o bz Mcl).trans d3⟩);clear hK K;refine OnH 10 fun K hK=> ?_
       go_simp
       refine NxM hK (fun hHeld=> ?_) (⟨(zbd N3.o bz Mcl).trans d1,(zbd N3.o bz Mcl).trans d3⟩);clear hK K;refine wpAnyH_done Mcm ?_ _;go_wp2_with fail
       go_meet
       obtain⟨A9,n9,rfl,_,_⟩:=N1.o.sl zan;exact⟨A9,n9,rfl,OwnS.base_le N1.o (by have:=S2.o;have:=hB.size;simp[zag];omega),N2.o,N3.o⟩
     case rest=>
      obtain⟨EA,en,rfl,n1,n2,n3⟩:=hcut;have EN:Below w.heap.size w wc:=zaS aW.o n3 Mcl Md2;have Ey:wc.heap[w.heap.size]?=some (.cells #[.int .i64 kd, .int .i64 dy, .string pl, .string fr, .slice B ts.length c, .int .i64 cl, .int .i64 yr] 68):=(n3.block _ bz Mco).trans HD.o
      have tA:OwnS wc (w.heap.size+1+1) 72 1 ptrC (.slice HA (zbP fr dy ps s.graves).length hn) (zbP fr dy ps s.graves):=(OwnS.base_le HO.o MdK).grown n3 (by
       cases hb:za7 (.slice HA (zbP fr dy ps s.graves).length hn)with
       |none=>exact .inl rfl
       |some g=>exact .inr fun e=>by have:=(HO.o.ge g hb).1;have:=S2.o;simp at e;omega)
      have kM:=zHi tA;have uz:=zHi n1;have nX:=zHi n2;have yI:=zHi Ey;have uB:=zHi EN;have jP:=n3.size;have hHL:(zbP fr dy ps s.graves).length<=1000:=by
       unfold zbP;rw[List.length_map,zf6];exact Nat.le_trans (List.length_filter_le _ _) i8
      have fk:(zbP fr dy ps s.graves).length=(s.graves.filter (zc6 fr dy)).length:=by
       unfold zbP;rw[List.length_map,zf6]
      have nS:=zHi fk;have qs:=zHi (fun(W:World) (hB:Below w.heap.size w W) j hj=>held_tomb (n:=fr) (day:=dy) (HT.o.keep hB) (j:=j) hj);have EO: ∀g∈s.graves.filter (zc6 fr dy),GoodG g/\g.holders.length<=70000/\g.died.length<=1000:=fun g hg=>⟨dG.o.graves g (List.mem_filter.1 hg).1,qm.o g (List.mem_filter.1 hg).1⟩
      have qp:=zHi EO;clear n1 n2 n3 tA Ey EN d1 d3 bz fk EO;generalize hHs:zbP fr dy ps s.graves=HL at*;generalize rZ:s.graves.filter (zc6 fr dy)=aM at*;have yS:=zHi hHs;have ja:=zHi rZ;clear hHs rZ;go_upto_block 2 with fail
      go_cut [12,14,15,16,18,19,71]from 72 (fun v12 _ _ _ _ _ _ W=> ∃A n es,v12= .slice A HL.length n/\OwnS W (w.heap.size+1+1) 75 6 tmC v12 es/\es.map (·.1)=(zcU fr EF.1 aM EF.2).1/\(∀e∈es,TmOk W w.heap.size e)/\MarkAt W (w.heap.size+1) (zcU fr EF.1 aM EF.2).2/\Below w.heap.size w W/\W.heap[w.heap.size]?=some (.cells #[.int .i64 kd, .int .i64 dy, .string pl, .string fr, .slice B ts.length c, .int .i64 cl, .int .i64 yr] 68)/\OwnS W (w.heap.size+1+1) 72 1 ptrC (.slice HA HL.length hn) HL)
      case first=>
       go_wp2_with fail
       go_loopw [12,71] (fun v i wr=> ∃(j:Nat) (es:List Tm),j<=HL.length/\i= .int .i64 j/\OwnS wr (w.heap.size+1+1) 75 6 tmC v es/\Hid (es.map (·.1)=(zcU fr EF.1 (aM.take j) EF.2).1)/\Hid (∀e∈es,TmOk wr w.heap.size e)/\MarkAt wr (w.heap.size+1) (zcU fr EF.1 (aM.take j) EF.2).2/\Below w.heap.size w wr/\wr.heap[w.heap.size]?=some (.cells #[.int .i64 kd, .int .i64 dy, .string pl, .string fr, .slice B ts.length c, .int .i64 cl, .int .i64 yr] 68)/\OwnS wr (w.heap.size+1+1) 72 1 ptrC (.slice HA HL.length hn) HL/\OwnS wr (w.heap.size+1+1) 63 3 zaa (.slice EA EF.1.length en) EF.1/\w.heap.size+1+1<=wr.heap.size) (fun _ i _=>HL.length-(intOf i).toNat)
       case atStart=>exact⟨0,[],Nat.zero_le _,rfl,OwnS.nil,rfl,fun e he=>by(cases he),nX.o,uB.o,yI.o,kM.o,uz.o,by have:=S2.o;have:=hB.size;omega⟩
       case round=>
        obtain⟨j,es,hj,rfl,ae,fJ,dm,hm,hF,hD,hO,hE,hsz⟩:=hrel;obtain⟨NA,nc,rfl,_,xE⟩:=ae.sl znY;have fk:=nS.o;have rT:es.length=j:=by
         have h1:=congrArg List.length fJ.o;rw[List.length_map,zkA,List.length_take]at h1;omega
        have HN:=zHi ae;have HM:=zHi hm;have HF:=zHi hF;have gn:=zHi hD;have dV:=zHi hO;have uA:=zHi hE;obtain⟨-,-,-,e3⟩:=cF4 hD;have bz:=zab hD;by_cases aa:j<HL.length
        ·obtain⟨i,g,hi,ic,aA,CL,gW⟩:=qs.o wr hF j aa;obtain⟨b9,hgh,bT⟩:=qp.o g (List.mem_of_getElem? CL)
         obtain⟨cK,cT,BU,rM,vI⟩:=(show Sl wr 1 ptrC HA HL from by
          obtain⟨A',c',e',h',_⟩:=hO.sl zcY;simp only[Value.slice.injEq]at e'
          rw[e'.1];exact h').at aa
         subst BU;have i0:wr.cell? ⟨cK,cT+j,none⟩=some (.pointer (some ⟨HL[j],0,none⟩)):=by have:=vI 0 _ rfl;simpa using this
         have bW:=next_snoc fr EF.1 aM EF.2 (k:=j) Mcl;have wW:aM[j]' Mcl=g:=by
          have:=List.getElem?_eq_getElem (l:=aM) (i:=j) Mcl;rw[CL]at this;exact(Option.some.inj this).symm
         rw[wW]at bW;have eu:=zHi bW;generalize HL[j]=T at*;obtain⟨H,aU,D,dc,frm,t1,t2,t3,t4,t5,t6,t7⟩:=gW;have d8:=zab t1;unfold zbv at t1;obtain⟨m0,m1,m2,m3,m4,m5⟩:=cF6 t1;have eI:=zHi t1;have kP:=zHi t6;have bU:=zHi (fun W (hW:Below wr.heap.size wr W)=>ze8 g.holders H g.holders.length aU W rfl Mcl (Ro.sl zan (t5.keep hW)));have Cd:T≠wr.heap.size:=Mcl;have l9:w.heap.size≠wr.heap.size:=Mcl;have ar:(j:Int)<(HL.length:Int):=Mcl;have aT:(0:Int)<=(j:Int):=Mcl;have IR:(HL.length:Int)<=(hn:Int):=by
          obtain⟨A',c',e',_,h'⟩:=hO.sl zcY;exact Mba
         generalize zcU fr EF.1 (aM.take j) EF.2=nx at*;have lF:=zHi fk;have gq:=zHi rT;clear fk rT ae hm hF hD hO hE vI bW wW CL aA ic hi t1 t5 t6 t7 t2 t3 t4;go_upto_region 18 with fail
         have zh:Below wr.heap.size wr (wr.alloc (.cells #[.string g.place, .int .i64 g.cls, .int .i64 frm, .int .i64 g.fin, .slice H g.holders.length aU, .slice D g.died.length dc] 75)):=Bw;have zI:(wr.alloc (.cells #[.string g.place, .int .i64 g.cls, .int .i64 frm, .int .i64 g.fin, .slice H g.holders.length aU, .slice D g.died.length dc] 75)).heap[wr.heap.size]?=some (.cells #[.string g.place, .int .i64 g.cls, .int .i64 frm, .int .i64 g.fin, .slice H g.holders.length aU, .slice D g.died.length dc] 75):=zar _ _ _ rfl;have Fc:(wr.alloc (.cells #[.string g.place, .int .i64 g.cls, .int .i64 frm, .int .i64 g.fin, .slice H g.holders.length aU, .slice D g.died.length dc] 75)).heap.size=wr.heap.size+1:=Mco;generalize wr.alloc (.cells #[.string g.place, .int .i64 g.cls, .int .i64 frm, .int .i64 g.fin, .slice H g.holders.length aU, .slice D g.died.length dc] 75)=WA at*;have y4:=(zah (o:=4) zh d8).trans m4;have Bu:=zHi zI;have q8:=zHi zh;have jZ:=zHi Fc;have bo:=bU.o WA zh;have nR:=zHi bo;clear zI zh Fc bo bU;have Dq:Below wr.heap.size wr WA:=q8.o;go_cut [83]from 78 to 124 (fun _ W=> ∃A1 c1,zbv W wr.heap.size g.place g.cls frm g.fin (.slice A1 g.holders.length c1) (.slice D g.died.length dc)/\OwnS W wr.heap.size 63 3 zaa (.slice A1 g.holders.length c1) g.holders/\Below wr.heap.size wr W)
         case first=>
          clear qs qp dm fJ HM lF gq eu HN uA dV gn HF kP eI kM uz nX yI uB yS ja HO aW HD lj aS jF p9 S2 ij qf dU qm dG HW HT HP HC uV
          go_wp2_with (go_at_call 161
                       go_must(refine nR.o.mono ?_)
                       rintro e wq ⟨hv,rfl,o1,o2⟩;obtain⟨A1,c1,sF,_,_⟩:=o1.sl zan;subst sF;have x1:=(o2.block wr.heap.size (by have:=jZ.o;omega)).trans Bu.o;have x3:=zab x1;have x4:wq.frozen? ⟨wr.heap.size,4,none⟩=false:=(by simp only[World.frozen?,x1];rfl)
                       have x5:wq.cell? ⟨wr.heap.size,4,none⟩=some (.slice H g.holders.length aU):=(by simp only[World.cell?,x1];rfl)
                       have X1:=zHi x1;have O1:=zHi o1;have O2:=zHi o2
                       clear x1 o1 o2)
          go_meet
          refine⟨A1,c1,zgn (show zbv wq wr.heap.size g.place g.cls frm g.fin (.slice H g.holders.length aU) (.slice D g.died.length dc) from X1.o) _,?_,zaO (q8.o.trans (O2.o.mono (by have:=jZ.o;omega))) Mco _⟩;refine OwnS.base_le (OwnS.grown O1.o (zau _ _ _ _) (.inr fun e=> ?_)) (by have:=jZ.o;omega);have:=(O1.o.ge _ e).1;have:=jZ.o;omega
         case rest=>
          obtain⟨A1,c1,cw,eC,eJ⟩:=hcut;have ym:=eJ.size;have bK:=zab cw;have d3:wc.cell? ⟨w.heap.size,3,none⟩=some (.string fr):=(zah eJ bz).trans e3;have q5:wc.cell? ⟨T,5,none⟩=some (.slice D g.died.length dc):=(zah eJ d8).trans m5;have dK:=zHi (fun W (hW:Below wc.heap.size wc W)=>zlw g.died D g.died.length dc W rfl Mcl (Ro.sl zaB ((kP.o.keep eJ).keep hW)));have fC:=zHi cw;have jX:=zHi eC;have ax:=zHi eJ;clear cw eC eJ;go_upto_region 19 with fail
          go_cut [93]from 84 to 124 (fun _ W=> ∃A2 c2,zbv W wr.heap.size g.place g.cls frm g.fin (.slice A1 g.holders.length c1) (.slice A2 (g.died.length+[fr].length) c2)/\OwnS W wr.heap.size 9 1 sC (.slice A2 (g.died.length+[fr].length) c2) (g.died++[fr])/\OwnS W wr.heap.size 63 3 zaa (.slice A1 g.holders.length c1) g.holders/\Below wr.heap.size wr W)
          case first=>
           clear qs qp dm fJ HM lF gq eu HN uA dV gn HF kP eI kM uz nX yI uB yS ja HO aW HD lj aS jF p9 S2 ij qf dU qm dG HW HT HP HC uV nR Bu q8 jZ;refine wp_region_held_drew (S:=(fun w'=>w'.cell? ⟨w.heap.size,3,none⟩=some (.string fr)/\w'.cell? ⟨T,5,none⟩=some (.slice D g.died.length dc))) Mcm ?hS ?hrest
           case hS=>exact⟨d3,q5⟩
           case hrest=>
            intro hHeld;refine TkH 0 ?_;refine TkH 1 ?_;refine TkH 2 ?_;refine TkH 3 ?_;refine TkH 5 ?_;refine TkH 6 ?_;refine wpAnyH_ready (rs:=[4,7]) Mcm Mco (AllReadyH.cons (List.getElem?_toArray.trans rfl) (fun K hK=> ?_) (AllReadyH.cons (List.getElem?_toArray.trans rfl) (fun K hK=> ?_) AllReadyH.nil))
            ·go_simp
             refine(dK.o _ Bw).mono ?_;rintro e w5 ⟨hv,rfl,o1,o2⟩;obtain⟨A5,c5,sF,_,_⟩:=o1.sl zaB;subst sF;have z0:=o2.size;have z1:w.heap.size<w5.heap.size:=by simp at z0;omega
             have z2:T<w5.heap.size:=by simp at z0;omega
             have z3:w5.cell? ⟨w.heap.size,3,none⟩=some (.string fr):=(zah o2 Mcq).trans d3;have z5:w5.cell? ⟨T,5,none⟩=some (.slice D g.died.length dc):=(zah o2 Mcq).trans q5;refine NxM hK (fun hHeld=> ?_) (⟨z3,z5⟩);clear hK K;refine OnH 7 fun K hK=> ?_
             go_simp
             refine NxM hK (fun hHeld=> ?_) (⟨(zah (zac (Below.refl _ _) _) z1).trans z3,(zah (zac (Below.refl _ _) _) z2).trans z5⟩);clear hK K;refine OnH 8 fun K hK=> ?_
             have oK:Below wc.drew.heap.size wc.drew (w5.alloc (.cells #[.string fr] 9)):=(zac o2 _)
             refine zal (v:= .slice A5 g.died.length c5) (n:=g.died.length) (m:=1) rfl _ _ rfl zbK zaB zbJ rfl (xs:=g.died) (ys:=[fr]) (o1.keep (n:=w5.heap.size) Bw) rfl rfl rfl (zcx (zar w5 _ _ Mco)) McJ Mcl (by have:=z0;simp at this⊢;omega) ?_;exact Mt
            ·go_simp
             have ph:Below wc.heap.size wc (wc.drew.alloc (.cells #[.string fr] 9)):=zac (zaM (Below.refl _ _)) _;refine NxM hK (fun hHeld=> ?_) (⟨(zah ph Mcl).trans d3,(zah ph Mcl).trans q5⟩);clear hK K;refine OnH 4 fun K hK=> ?_
             go_simp
             have D3:=d3;have Q5:=q5;have d3:=(zah ph Mcl).trans D3;have q5:=(zah ph Mcl).trans Q5;refine(dK.o _ Bw).mono ?_;rintro e w5 ⟨hv,rfl,o1,o2⟩;obtain⟨A5,c5,sF,_,_⟩:=o1.sl zaB;subst sF;have z0:=o2.size;have z1:w.heap.size<w5.heap.size:=by simp at z0;omega
             have z2:T<w5.heap.size:=by simp at z0;omega
             have z3:w5.cell? ⟨w.heap.size,3,none⟩=some (.string fr):=(zah o2 Mcq).trans d3;have z5:w5.cell? ⟨T,5,none⟩=some (.slice D g.died.length dc):=(zah o2 Mcq).trans q5;have d3:=D3;have q5:=Q5;have qS:=ph.trans (o2.mono Mco);have J1:=(o2.block wc.heap.size Mco).trans (zar wc.drew _ _ rfl);refine NxM hK (fun hHeld=> ?_) (⟨z3,z5⟩);clear hK K;refine OnH 8 fun K hK=> ?_
             have oK:Below wc.drew.heap.size wc.drew (w5):=⟨qS.os,qS.tape,qS.output,qS.size,qS.block⟩
             refine zal (v:= .slice A5 g.died.length c5) (n:=g.died.length) (m:=1) rfl _ _ rfl zbK zaB zbJ rfl (xs:=g.died) (ys:=[fr]) (o1.keep (n:=w5.heap.size) Bw) rfl rfl rfl (zcx J1) McJ Mcl (by have:=z0;simp at this⊢;omega) ?_;exact Mt
          case rest=>
           obtain⟨A2,c2,cw,jr,eC,eJ⟩:=hcut;obtain⟨W3,rfl⟩: ∃x,x=wc:=⟨_,rfl⟩
           obtain⟨WR,rfl⟩: ∃x,x=wr:=⟨_,rfl⟩
           have ym:=eJ.size;have bK:=zab cw;have d3:W3.cell? ⟨w.heap.size,3,none⟩=some (.string fr):=(zah eJ bz).trans e3;have yy:W3.cell? ⟨WR.heap.size,4,none⟩=some (.slice A1 g.holders.length c1):=Mc9;obtain⟨iV,iF,kY,dp⟩:=death_bd (n:=fr) (hs:=EF.1) b9 qf.o;have nK: ∀W,Below W3.heap.size W3 W->_:=fun W hB=>zer g.holders A1 c1 WR.heap.size fr W ((zah hB bK).trans yy) (Nat.lt_of_lt_of_le bK hB.size) Mcl b9.good.asc (Ro.sl zan (eC.ro'.keep hB))
           have iJ: ∀W,zbv W WR.heap.size g.place g.cls frm g.fin (.slice A1 g.holders.length c1) (.slice A2 (g.died.length+[fr].length) c2)->OwnS W WR.heap.size 63 3 zaa (.slice A1 g.holders.length c1) g.holders->Calls Tryz.prog 159 #[.pointer (some ⟨WR.heap.size,0,none⟩), .string fr, .agg #[.int .i64 0, .int .i64 1]] W (zkt W WR.heap.size WR.heap.size g.place g.cls frm g.fin (.slice A2 (g.died.length+[fr].length) c2) (.slice A1 g.holders.length c1) (setP g.holders fr 0)):=fun W h1 h2=>zis WR.heap.size WR.heap.size g.holders _ g.place g.cls frm g.fin _ fr 0 W h1 (Nat.le_refl _) h2 b9.good.asc Mcl
           obtain⟨own,ae⟩: ∃own,own=zaf g.holders fr:=⟨_,rfl⟩
           rw[<-ae]at nK iV iF kY dp;have gz:=zHi nK;have gx:=zHi iJ;have dh:=zHi dp;have eH:=zHi ae;have fC:=zHi cw;have jX:=zHi eC;have g9:=zHi jr;have ax:=zHi eJ;clear nK iJ dp ae cw eC jr eJ yy;unfold za9 at gz
           go_upto_region 22 with(first
            |(go_at_call 160
              go_must(refine(gz.o _ Bw).mono ?_)
              rintro e wq ⟨rfl,z,hz⟩;have df:Below W3.heap.size W3 wq:=(by rw[hz];exact Bw)
              have d3q:=(zah df (show w.heap.size<W3.heap.size by omega)).trans d3;have dlq:=df.size;have cx:w.heap.size<wq.heap.size:=Mcl;have kO:=zHi df
              clear hz df)
            |(go_at_call 159
              go_must(refine(gx.o _ ?q1 ?q2).mono ?_)
              case q1=>exact zak ((kO.o.block _ bK).trans fC.o)
              case q2=>exact jX.o.keep (n:=W3.heap.size) (zac kO.o _)
              rintro e wz ⟨rfl,v',t1,t2,t3,t4⟩;have T1:=zHi t1;have T2:=zHi t2;have T3:=zHi t3;have T4:=zHi t4
              clear t1 t2 t3 t4))
           have fe:Below WR.heap.size WR wz:=(ax.o.trans ((zac kO.o _).mono Mcl)).trans T3.o;have yE:=fe.size;have wg:(wq.alloc (zbt own)).heap[WR.heap.size]?=some (.cells #[.string g.place, .int .i64 g.cls, .int .i64 frm, .int .i64 g.fin, .slice A1 g.holders.length c1, .slice A2 (g.died.length+[fr].length) c2] 75):=zak ((kO.o.block _ bK).trans fC.o);have vT:=jX.o.keep (n:=W3.heap.size) (zac kO.o (zbt own));have vE:=g9.o.keep (n:=W3.heap.size) (zac kO.o (zbt own));have cj: ∀(j:Nat) (cur:Array Value) (t:TypeId) (f:Nat×Nat),(wq.alloc (zbt own)).heap[j]?=some (.cells cur t f)->t≠75->t≠63->wz.heap[j]?=(wq.alloc (zbt own)).heap[j]?:=fun j cur t f hj n1 n2=>
            T4.o j (zab hj) (fun e=>by rw[e,wg]at hj;simp only[Option.some.injEq,Obj.cells.injEq]at hj;exact n1 hj.2.1.symm) (zkI vT hj n2)
           have EE:OwnS wz WR.heap.size 9 1 sC (.slice A2 (g.died.length+[fr].length) c2) (g.died++[fr]):=vE.same (fun j cur _ hj=>cj j cur _ _ hj Mcn Mcn);have zt:wz.heap[wq.heap.size]?=some (zbt own):=(cj _ _ _ _ (zar wq (zbt own) _ rfl) Mcn Mcn).trans (zar wq (zbt own) _ rfl);have F0:MarkAt wz (w.heap.size+1) nx.2:=HM.o.keep fe (zab HM.o);have s7:WR.grownBy wz (some (w.heap.size+1)):=⟨fe.os,fe.tape,fe.output,fe.size,fun k hk _=>fe.block k hk⟩
           have xp:=ziw (n:=fr) (q:=0) (l:=g.holders);have J4:WR.heap.size<wq.heap.size:=by have:=kO.o.size;omega
           have ft:=zab HM.o;obtain⟨O,hO⟩: ∃O,O=wq.heap.size:=⟨_,rfl⟩
           rw[<-hO]at zt J4⊢;have hOz:=zab zt;have dR:=zHi fe;have uv:=zHi EE;have uD:=zHi zt;have AT:=zHi F0;have uH:=zHi s7;have p8:=zHi xp;clear fe EE zt F0 s7 cj wg vT vE xp d3q dlq hO d3 kO T3 T4 gz gx cx;go_upto_block 4 with fail
           go_cut [18,19,103]from 104 to 124 (fun _ _ _ W=> ∃v out fl,Hid ((out,fl)=zdy fr EF.1 g nx.2)/\MarkAt W (w.heap.size+1) fl/\zbv W WR.heap.size g.place g.cls frm g.fin v (.slice A2 (g.died.length+[fr].length) c2)/\OwnS W WR.heap.size 63 3 zaa v out/\OwnS W WR.heap.size 9 1 sC (.slice A2 (g.died.length+[fr].length) c2) (g.died++[fr])/\WR.grownBy W (some (w.heap.size+1)))
           case first=>
            clear uV HC HP HT HW dG qm dU c0 c6 aS p9 S2 br aW aK HE uz nX uB jP lj HZ qp nS yS ja HO kM ar aT IR fJ lF gq y4 nR d3 q5 dm HN HF e3 i0 m0 m1 m2 m3 m4 m5 kP Cd l9 q8 jZ Dq g9 ax dV Ff;go_wp2_with fail
            go_loopw [103] (fun i W=> ∃(k:Nat) (v:Value) (out:Parts) (fl:Bool),k<=EF.1.length/\i= .int .i64 k/\Hid ((out,fl)=zef own (EF.1.take k) (setP g.holders fr 0,nx.2))/\Hid (out.length<=g.holders.length+1+k)/\MarkAt W (w.heap.size+1) fl/\zbv W WR.heap.size g.place g.cls frm g.fin v (.slice A2 (g.died.length+[fr].length) c2)/\OwnS W WR.heap.size 63 3 zaa v out/\OwnS W WR.heap.size 9 1 sC (.slice A2 (g.died.length+[fr].length) c2) (g.died++[fr])/\WR.grownBy W (some (w.heap.size+1))/\W.heap[O]?=some (zbt own)) (fun i _=>EF.1.length-(intOf i).toNat)
            case atStart=>exact⟨0,v',setP g.holders fr 0,nx.2,Nat.zero_le _,rfl,rfl,p8.o,AT.o,T1.o,T2.o,uv.o,uH.o,uD.o⟩
            case round=>
             obtain⟨k,v,out,fl,hk,rfl,od,eG,hm,cw,eC,jr,dt,ko⟩:=hrel;clear p8 AT T1 T2 uv uH uD dR;obtain⟨A3,c3,rfl,ra,mu⟩:=eC.sl zan;have dp:Bd out 1:=by have:=dh.o nx.2 k;rw[<-od.o]at this;exact this
             have zn:=uA.o.grown dt (.inr fun e=>by have:=(uA.o.ge _ e).1;omega);have yA:=zab cw;have vR:=zab ko;have Km:=zab hm;have yy:wr.cell? ⟨WR.heap.size,4,none⟩=some (.slice A3 out.length c3):=Mc9;have HD:=zHi dp;have E0:=zHi hm;have qJ:=zHi cw;have ik:=zHi eC;have qd:=zHi jr;have cP:=zHi dt;have sQ:=zHi ko;have I8:=zHi ra;have HE3:=zHi zn;clear dp hm cw eC jr ko ra dt;by_cases mM:k<EF.1.length
             ·obtain⟨b',off,rfl,cK,hc⟩:=(zn.sl' zan).at mM;obtain⟨iX,ib,eD⟩:=zdH qf.o (List.getElem_mem mM);have aM:=zoM own EF.1 (setP g.holders fr 0,nx.2) mM;rw[<-od.o]at aM;have tJ:EF.1.length<=en:=by
               obtain⟨A',c',e',_,h'⟩:=zn.sl zan;exact Mba
              generalize EF.1[k]=p at*;obtain⟨pn,q⟩:=p;simp only at iX ib eD;have i0:wr.cell? ⟨b',off+k*3,none⟩=some (.string pn):=hc 0 _ rfl;have i1:wr.cell? ⟨b',off+k*3+1,none⟩=some (.int .i64 q.num):=hc 1 _ rfl;have i2:wr.cell? ⟨b',off+k*3+2,none⟩=some (.int .i64 q.den):=hc 2 _ rfl;have o0:wr.cell? ⟨O,0,none⟩=some (.int .i64 own.num):=by simp only[World.cell?,sQ.o,zbt];rfl
              have o1:wr.cell? ⟨O,1,none⟩=some (.int .i64 own.den):=by simp only[World.cell?,sQ.o,zbt];rfl
              have wY:zaK (zbi (own*q)):=zcb (zcv (Rat.mul_nonneg iV (Rat.le_of_lt iX))) (Rat.le_trans (zha (Rat.mul_nonneg iV (Rat.le_of_lt iX))) (zjJ iV kY (Rat.le_of_lt iX) ib)) (zgq _);have dG:=zHi aM;have AC:=zHi wY;have qv:=zHi mM;have oS:wrap64 ((k:Int)+1)=(k:Int)+1:=by
               have:=eT.o;unfold wrap64;omega
              have Bp:=zHi oS;clear oS;have xD: ∀W,MarkAt W (w.heap.size+1) fl->Calls Tryz.prog 108 #[.pointer (some ⟨w.heap.size+1,0,none⟩), .agg #[.int .i64 own.num, .int .i64 own.den], .agg #[.int .i64 q.num, .int .i64 q.den]] W (ze9 W (w.heap.size+1) fl (own*q)):=fun W h=>zhJ (w.heap.size+1) fl W h own q iF eD
              have AS:=zHi xD;have xh:(k:Int)<(EF.1.length:Int):=Mcl;have K2:(0:Int)<=(k:Int):=Mcl;have K9:(k:Int)<=(en:Int):=Mcl;have F5:O≠wr.heap.size:=Mcl;have tS:out.length<=90000:=by have:=eG.o;have:=eT.o;omega
              have tU:w.heap.size+1≠wr.heap.size:=Mcl;clear hc aM wY iX ib xD tJ zn
              go_wp2_with (go_at_call 108
                           go_must(refine(AS.o _ (E0.o.alloc _)).mono ?_)
                           rintro e wq ⟨rfl,m1,m2⟩;have jE:=m2.size;have y0:wq.heap[wr.heap.size]?=some (.cells #[.string pn, .int .i64 q.num, .int .i64 q.den] 63):=(m2.block _ Mco Mcq).trans (zar _ _ _ rfl);have y1:wq.cell? ⟨wr.heap.size,0,none⟩=some (.string pn):=(by simp only[World.cell?,y0];rfl)
                           have y3:wr.heap.size<wq.heap.size:=zab y0;have M1:=zHi m1;have M2:=zHi m2;clear m1 m2 y0
                           simp only[za9])
              have vP:OwnS wq WR.heap.size 63 3 zaa (.slice A3 out.length c3) out:=OwnS.grown (W:=wr.alloc _) (ik.o.keep (n:=wr.heap.size) (zac (Below.refl _ _) _)) M2.o (.inr fun e=>by have:=(ik.o.ge _ e).1;omega);have mf:zbv wq WR.heap.size g.place g.cls frm g.fin (.slice A3 out.length c3) (.slice A2 (g.died.length+[fr].length) c2):=(M2.o.block _ Mcq Mcq).trans (zak qJ.o);have DD:wq.cell? ⟨WR.heap.size,4,none⟩=some (.slice A3 out.length c3):=by unfold zbv at mf;simp only[World.cell?,mf];rfl
              have bw:WR.heap.size<wq.heap.size:=zab mf;have OQ:=zHi vP;have TQ:=zHi mf;have mU:zaK (zaf out pn):=HD.o.share Rat.le_refl pn;generalize eM:zbi (own*q)=gt at*;generalize hsv2:zaf out pn=sv at*;have uG:=zHi eM;have vk:=zHi hsv2;have eV:=zHi mU;have KW:wr.heap.size≠wq.heap.size:=Mcl;have Gs:WR.heap.size≠wq.heap.size:=Mcl;clear vP mf mU eM hsv2 i0 i1 i2 o0 o1;go_region_held3 (fun w'=>w'.cell? ⟨wr.heap.size,0,none⟩=some (.string pn)/\w'.cell? ⟨wq.heap.size,0,none⟩=some (.int .i64 gt.num)/\w'.cell? ⟨wq.heap.size,1,none⟩=some (.int .i64 gt.den))
               ((refine⟨?_,?_,?_⟩<;>first|assumption|(simp[go_sem,y1,y3];done)))
               (first
                 |(go_at_call 160
                   go_loud(refine(zer out A3 c3 WR.heap.size pn _ ?q1 ?q2 Mcl HD.o.good.asc (Sl.keep (OQ.o.sl' zan) (n:=wq.heap.size) Bw)).mono ?_)
                   case q1=>simp[go_sem,DD,bw]
                   case q2=>simp;omega
                   rintro e w5 ⟨rfl,zs,rfl⟩;rw[vk.o]
                   simp only[za9])
                 |(go_at_call 105
                   go_loud(refine(zhK (w.heap.size+1) (fl||bigQ (own*q)) _ ?q3 sv gt eV.o AC.o).mono ?_)
                   case q3=>(repeat(first|exact M1.o|refine MarkAt.ext ?_ _|refine MarkAt.drew ?_|refine MarkAt.alloc ?_ _))
                   rintro e w6 ⟨rfl,n1,n2⟩;have p3:w6.cell? ⟨wr.heap.size,0,none⟩=some (.string pn):=Mdt;have p0:w6.cell? ⟨wq.heap.size,0,none⟩=some (.int .i64 gt.num):=McW;have p1:w6.cell? ⟨wq.heap.size,1,none⟩=some (.int .i64 gt.den):=McW;have N1:=zHi n1;have N2:=zHi n2;clear n1 n2
                   simp only[za9])
                 |(go_at_call 159
                   go_loud(refine(zis WR.heap.size WR.heap.size out (.slice A3 out.length c3) g.place g.cls frm g.fin (.slice A2 (g.died.length+[fr].length) c2) pn (zbi (sv+gt)) _ ?q4 (Nat.le_refl _) ?q5 HD.o.good.asc tS).mono ?_)
                   case q4=>exact(N2.o.block _ Mcu Mcq).trans Mdn
                   case q5=>exact OwnS.grown (OQ.o.keep (n:=wq.heap.size) Bw) N2.o (.inr fun e=>by have:=(OQ.o.ge _ e).1;omega)
                   rintro e wz ⟨rfl,v',t1,t2,t3,t4⟩;have s3:wz.cell? ⟨wr.heap.size,0,none⟩=some (.string pn):=(World.cell?_of_block (w:=w6) (t4 wr.heap.size McS Mcl (fun e=>by have:=(ik.o.ge _ e).2;omega))).trans p3;have s0:wz.cell? ⟨wq.heap.size,0,none⟩=some (.int .i64 gt.num):=(World.cell?_of_block (w:=w6) (t4 wq.heap.size McS Mcl (fun e=>by have:=(ik.o.ge _ e).2;omega))).trans p0;have s1:wz.cell? ⟨wq.heap.size,1,none⟩=some (.int .i64 gt.den):=(World.cell?_of_block (w:=w6) (t4 wq.heap.size McS Mcl (fun e=>by have:=(ik.o.ge _ e).2;omega))).trans p1;have T1:=zHi t1;have T2:=zHi t2;have T3:=zHi t3;have T4:=zHi t4
                   clear t1 t2 t3 t4))
              have Az:Hid (zfd own (pn,q) (out,fl)=(setP out pn (zbi (sv+gt)),fl||bigQ (own*q)||bigQ (sv+gt))):=by
               show _=_;unfold zfd;simp only[uG.o,vk.o]
              have cD:MarkAt wz (w.heap.size+1) (fl||bigQ (own*q)||bigQ (sv+gt)):=N1.o.keep T3.o Mcl;have iE:=ziw (n:=pn) (q:=zbi (sv+gt)) (l:=out);have h6:wr.grownBy w6 (some (w.heap.size+1)):=zbn (zjS (zac (Below.refl wr.heap.size wr) _) (Nat.le_refl _) M2.o) (zjS (n:=wq.heap.size) (W:=((wq.alloc (zbt gt)).drew).ext zs) Bw (Nat.le_refl _) N2.o);have kv:=h6.size;have Gh:w6.heap[WR.heap.size]?=some (.cells #[.string g.place, .int .i64 g.cls, .int .i64 frm, .int .i64 g.fin, .slice A3 out.length c3, .slice A2 (g.died.length+[fr].length) c2] 75):=(h6.block _ yA Mcq).trans qJ.o;have pM:OwnS w6 WR.heap.size 63 3 zaa (.slice A3 out.length c3) out:=ik.o.grown h6 (.inr fun e=>by have:=(ik.o.ge _ e).1;omega);have Fq:=qd.o.grown h6 (.inr fun e=>by have:=(qd.o.ge _ e).1;omega);have CF:w6.heap[O]?=some (zbt own):=(h6.block O vR Mcq).trans sQ.o;have cj: ∀(j:Nat) (cur:Array Value) (t:TypeId) (f:Nat×Nat),w6.heap[j]?=some (.cells cur t f)->t≠75->t≠63->wz.heap[j]?=w6.heap[j]?:=fun j cur t f hj n1 n2=>
               T4.o j (zab hj) (fun e=>by rw[e,Gh]at hj;simp only[Option.some.injEq,Obj.cells.injEq]at hj;exact n1 hj.2.1.symm) (zkI pM hj n2)
              have Fu:=Fq.same (W':=wz) (fun j cur _ hj=>cj j cur _ _ hj Mcn Mcn);have zR:wz.heap[O]?=some (zbt own):=(cj _ _ _ _ CF Mcn Mcn).trans CF;have s7:WR.grownBy wz (some (w.heap.size+1)):=zoO (zbn cP.o h6) T3.o (Nat.le_refl _);have AV:=zHi cD;have gu:=zHi iE;have uv:=zHi Fu;have uD:=zHi zR;have uH:=zHi s7;clear cD iE h6 Gh pM Fq CF cj Fu zR s7 p3 p0 p1 s3 s0 s1 y1;go_wp2_with fail
              go_round
              case rel=>
               have hel:=eT.o;have mM:=qv.o;have pC:=Az.o.symm.trans dG.o.symm;have pJ:(setP out pn (zbi (sv+gt))).length<=g.holders.length+1+(k+1):=by have:=gu.o;have:=eG.o;omega
               exact⟨k+1,v',setP out pn (zbi (sv+gt)),_,qv.o,by rw[Bp.o];rfl,pC,pJ,AV.o,T1.o,T2.o,uv.o,uH.o,uD.o⟩
              case measure=>rw[Bp.o];have:=qv.o;simp only[intOf];omega
             ·have ar: ¬(k:Int)<(EF.1.length:Int):=Mcl;have nN:(out,fl)=zdy fr EF.1 g nx.2:=by
               rw[od.o,List.take_of_length_le Mcl];unfold zdy;rw[<-eH.o]
              have zb:=zHi nN;clear nN od dh;go_wp2_with fail
              go_meet
              exact⟨_,out,fl,zb.o,E0.o,qJ.o,ik.o,qd.o,cP.o⟩
           case rest=>
            obtain⟨v9,out,fl,zb,hm,cw,eC,jr,dt⟩:=hcut;obtain⟨W4,rfl⟩: ∃x,x=wc:=⟨_,rfl⟩
            obtain⟨A3,c3,rfl,_,mu⟩:=eC.sl zan;have nD:(g.died++[fr]).length<=c2:=by
             obtain⟨A',c',e',_,h'⟩:=jr.sl zaB;exact Mba
            have hg4:=dt.size;have jB:=cw;unfold zbv at jB;obtain⟨m0,m1,m2,m3,m4,m5⟩:=cF6 jB;obtain⟨E,hE⟩: ∃E:Tm,E=(⟨g.place,g.cls,g.fin,out,g.died++[fr]⟩,frm,(A3,c3),(A2,c2)):=⟨_,rfl⟩
            have BL:(tmC E).toArray= #[.string g.place, .int .i64 g.cls, .int .i64 frm, .int .i64 g.fin, .slice A3 out.length c3, .slice A2 (g.died.length+[fr].length) c2]:=by rw[hE];simp[tmC]
            have F1:=HN.o.grown dt (.inr fun e=>by have:=(HN.o.ge _ e).1;omega);have CE:es.length<=1000:=by have:=gq.o;omega
            have AW:=zHi F1;have Hc:=zHi BL;have DQ:=zHi hE;have E3:=zHi hm;have B7:=zHi eC;have ut:=zHi jr;have DR:=zHi dt;have GZ:=zHi nD;clear F1 BL hE hm cw eC jr dt jB dh p8 uv uD AT uH dR T1 T2 fC jX g9 ax d3 q5 nR Bu q8 jZ nD;go_upto_region 28 with fail
            go_wp2_with (at_builtin
                         go_loud(refine zav (v:= .slice NA es.length nc) (n:=es.length) (m:=1) rfl _ _ rfl elTm znY tm_one rfl (xs:=es) (ys:=[E]) (AW.o.keep (n:=W4.heap.size) Bw) rfl rfl rfl (sl_tm (by rw[Hc.o];exact zar _ _ _ Mco)) McJ Mcl Mcq ?_)
                         intro v5 w5 h1 h2 h3;have H1:=zHi h1;have H2:=zHi h2
                         clear h1 h2 h3)
            have oS:wrap64 ((j:Int)+1)=(j:Int)+1:=by
             unfold wrap64;omega
            have Bp:=zHi oS;have aq:=zHi aa;clear oS;go_wp2_with fail
            go_round
            case rel=>
             have Do:=H2.o.size;simp only[World.size_alloc]at Do;have J3:=AW.o;have FT:=HM.o;unfold MarkAt at FT;have K5: ∀(k:Nat) (cur:Array Value) (t:TypeId) (f:Nat×Nat),WR.heap[k]?=some (.cells cur t f)->t≠92->W4.heap[k]?=WR.heap[k]?:=fun k cur t f hk n1=>
              DR.o.block k (zab hk) (fun e=>by
               simp only[Option.some.injEq]at e;rw[e,FT]at hk;simp only[Option.some.injEq,Obj.cells.injEq]at hk
               exact n1 hk.2.1.symm)
             have zX: ∀(k:Nat) (cur:Array Value) (t:TypeId) (f:Nat×Nat),W4.heap[k]?=some (.cells cur t f)->t≠75->w5.heap[k]?=W4.heap[k]?:=fun k cur t f hk n1=>by
              have hl:=zab hk;have a1:=H2.o.block k Mcq (fun e=>zkI J3 hk n1 e.symm);exact a1.trans (Below.heap_alloc _ _ _ hl)
             have fY: ∀(k:Nat) (cur:Array Value) (t:TypeId) (f:Nat×Nat),WR.heap[k]?=some (.cells cur t f)->t≠92->t≠75->w5.heap[k]?=WR.heap[k]?:=fun k cur t f hk n1 n2=>by
              have a1:=K5 k cur t f hk n1;exact(zX k cur t f (a1.trans hk) n2).trans a1
             have Cs:Below w.heap.size w w5:=Below.grown (a:=w) (B:=w.heap.size) (zac (zaS HF.o DR.o Mcl) _ Mcl) H2.o Mcq (fun k hk=>by have:=(AW.o.ge k hk).1;omega);refine⟨j+1,es++[E],aq.o,by go_num,H1.o,?_,?_,?_,Cs,?_,?_,?_,by omega⟩
             ·show _=_;rw[eu.o,<-zb.o,List.map_append,fJ.o,DQ.o];rfl
             ·show∀e∈es++[E],TmOk w5 w.heap.size e;intro e he;rcases List.mem_append.1 he with he|he
              ·refine(dm.o e he).same fun k cur t f hk ht=>fY k cur t f hk ?_ ?_
               ·rcases ht with rfl|rfl<;>decide
               ·rcases ht with rfl|rfl<;>decide
              ·rw[List.mem_singleton.1 he,DQ.o];refine⟨B7.o.ro'.same fun k cur f hk _=>zX k cur _ f hk Mcn,mu,ut.o.ro'.same fun k cur f hk _=>zX k cur _ f hk Mcn,GZ.o,fun a ha=> ?_⟩;have ha:A2=some a:=ha;have:=(ut.o.ge a.block (by rw[ha];rfl)).1;omega
             ·rw[eu.o,<-zb.o];exact(zX _ _ _ _ E3.o Mcn).trans E3.o
             ·exact(fY _ _ _ _ gn.o Mcn Mcn).trans gn.o
             ·exact dV.o.same fun k cur _ hk=>fY k cur _ _ hk Mcn Mcn
             ·exact uA.o.same fun k cur _ hk=>fY k cur _ _ hk Mcn Mcn
            case measure=>have:=aq.o;simp only[intOf];omega
        ·have ar: ¬(j:Int)<(HL.length:Int):=Mcl;have d9:aM.take j=aM:=List.take_of_length_le Mcl;have Fw:es.length=HL.length:=Mcl;rw[d9]at fJ HM;have Hf:=zHi Fw;clear d9 Fw rT ae hm hF hD hO hE fk;go_wp2_with fail
         go_meet
         exact⟨NA,nc,es,by rw[Hf.o],HN.o,fJ.o,dm.o,HM.o,HF.o,gn.o,dV.o⟩
      case rest=>
       obtain⟨NA,nn,es,rfl,jy,gH,bp,hm,hF,hD,hO⟩:=hcut;obtain⟨W6,rfl⟩: ∃x,x=wc:=⟨_,rfl⟩
       have ya:=zfQ fr dy EF.1 s.graves [] EF.2;have bo:W6.cell? ⟨w.heap.size+1,0,none⟩=some (.bool (zcU fr EF.1 aM EF.2).2):=(zbT hm).1;have Kn:=zab hm;have wS:es.length=HL.length:=by
        have h1:=congrArg List.length gH;rw[List.length_map,zkA]at h1;have:=nS.o;omega
       have mh:s.graves.any (zc6 fr dy)=true:=by
        cases hc:s.graves.any (zc6 fr dy)
        ·have h1:=ja.o;rw[List.filter_eq_nil_iff.2 (fun x hx=>by have:=List.any_eq_false.1 hc x hx;simpa using this)]at h1;have:=nS.o;rw[<-h1]at this;exact absurd this HZ.o
        ·rfl
       rw[List.nil_append,List.nil_append,List.length_nil,ja.o]at ya;have hX:=HX.o;rw[mh,<-ya.1,<-ya.2,<-gH]at hX;simp only[Bool.false_eq_true,if_false,if_true]at hX;have eY:=zHi hX;generalize(zcU fr EF.1 aM EF.2).2=fl at*;have fJ:=zHi gH;have gq:=zHi wS;have dm:=zHi bp;have qi:=zHi hF;have GY:=zHi hD;have lL:=zHi hO;have E5:=zHi jy;have uI:=zHi (fun j hj=>qs.o w (Below.refl _ _) j hj);have uF:Hid ((s.graves.filter (zc6 fr dy)).length=HL.length):=by show _=_;rw[ja.o,nS.o]
       clear ya mh hX gH bp hm hF hD hO jy wS HX qs lj HM aW HO HD kM uz nX yI uB qp qf eT HE yS ja;cases fl
       ·have rv:=eY.o;simp only[Bool.false_eq_true,if_false]at rv;have ka:=zHi rv;clear rv eY;have kv:=qi.o.size;have Aw: ∃HI,HI=zbf fr dy 0 s.graves:=⟨_,rfl⟩
        obtain⟨HI,BS⟩:=Aw;rw[<-BS]at ka uI;have jO:HI.length=HL.length:=by
         rw[BS,zf6,uF.o]
        have ia:HL.length<=nn:=by
         obtain⟨A',c',e',_,h'⟩:=E5.o.sl znY;simp only[Value.slice.injEq]at e';have:=gq.o;omega
        have zV:HL.length<=hn:=by
         obtain⟨A',c',e',_,h'⟩:=lL.o.sl zcY;exact Mba
        have yR:=zHi jO;have I5:=zHi ia;have AE:=zHi zV;clear BS jO ia zV uF;go_wp2_with fail
        go_loopw [129] (fun i wr=> ∃j:Nat,j<=HL.length/\i= .int .i64 j/\Hid (WldC wr b dd cc pp wl rr mv (.slice TA ps.length tc) la co)/\Hid (PplAt base wr Bk dd cc pp wl rr mv s)/\Hid (TombsAt base wr Bk (.slice TA ps.length tc) ps (zdz s.graves (HI.take j) ((es.map (·.1)).take j)))/\Hid (Below base w wr)/\wr.heap[w.heap.size]?=some (.cells #[.int .i64 kd, .int .i64 dy, .string pl, .string fr, .slice B ts.length c, .int .i64 cl, .int .i64 yr] 68)/\Hid (KeepD w wr)/\OwnS wr (w.heap.size+1+1) 72 1 ptrC (.slice HA HL.length hn) HL/\OwnS wr (w.heap.size+1+1) 75 6 tmC (.slice NA HL.length nn) es/\Hid (∀e∈es,TmOk wr w.heap.size e)/\w.heap.size<=wr.heap.size) (fun i _=>HL.length-(intOf i).toNat)
        case atStart=>exact⟨0,Nat.zero_le _,rfl,HC.o.keep qi.o,HP.o.keep qi.o,HT.o.keep qi.o,qi.o.mono Mcl,GY.o,KeepD.below qi.o,lL.o,by rw[<-gq.o]at*;exact E5.o,dm.o,kv⟩
        case round=>
         obtain⟨j,hj,rfl,DO,pa,nj,bR,BK,uK,zw,vN,uT,kw⟩:=hrel;have As:=zHi BK;have uS:=zHi zw;have E6:=zHi vN;by_cases aa:j<HL.length
         ·have oH:j<es.length:=by have:=gq.o;omega
          obtain⟨i,g,hi,ic,aA,_,gW⟩:=uI.o j aa;have Fh:HL[j]<w.heap.size:=by obtain⟨_,_,_,_,_,t1,_⟩:=gW;exact zab t1
          obtain⟨cK,cT,BU,rM,vI⟩:=(zw.sl' zcY).at aa;subst BU;have i0:wr.cell? ⟨cK,cT+j,none⟩=some (.pointer (some ⟨HL[j],0,none⟩)):=by have:=vI 0 _ rfl;simpa using this
          obtain⟨nb,noff,J2,pL,qZ⟩:=(vN.sl' znY).at oH;subst J2;have bp:=uT.o es[j] (List.getElem_mem oH);have eb:i<(zdz s.graves (HI.take j) ((es.map (·.1)).take j)).length:=by rw[zjO];exact(List.getElem?_eq_some_iff.1 aA).1
          obtain⟨H,aU,D,dc,frm,t1,t2,_⟩:=nj.o.all i _ _ ic (List.getElem?_eq_getElem eb);have bW:zdz s.graves (HI.take (j+1)) ((es.map (·.1)).take (j+1))=(zdz s.graves (HI.take j) ((es.map (·.1)).take j)).set i es[j].1:=by
           have FF:j<HI.length:=by have:=yR.o;omega
           have JZ:j<(es.map (·.1)).length:=by rw[List.length_map];exact oH
           have IT:HI[j]=i:=by
            rw[List.getElem?_eq_getElem FF]at hi;exact Option.some.inj hi
           rw[List.take_succ_eq_append_getElem FF,List.take_succ_eq_append_getElem JZ,List.getElem_map,IT];exact ziJ _ _ _ _ _ (by rw[List.length_take,List.length_take];omega)
          have eu:=zHi bW;have qx:=zHi ic;have lM:=zHi bp;generalize HL[j]=T at*;generalize hE:es[j]=E at*;obtain⟨⟨gp,gc,gf,gh,gd⟩,efr,⟨EH,ehc⟩,⟨ED,edc⟩⟩:=E;have n0:wr.cell? ⟨nb,noff+j*6,none⟩=some (.string gp):=qZ 0 _ rfl;have n1:wr.cell? ⟨nb,noff+j*6+1,none⟩=some (.int .i64 gc):=qZ 1 _ rfl;have n2:wr.cell? ⟨nb,noff+j*6+2,none⟩=some (.int .i64 efr):=qZ 2 _ rfl;have n3:wr.cell? ⟨nb,noff+j*6+3,none⟩=some (.int .i64 gf):=qZ 3 _ rfl;have n4:wr.cell? ⟨nb,noff+j*6+4,none⟩=some (.slice EH gh.length ehc):=qZ 4 _ rfl;have n5:wr.cell? ⟨nb,noff+j*6+5,none⟩=some (.slice ED gd.length edc):=qZ 5 _ rfl;have d8:=zab t1;have eI:=zHi t1;unfold zbv at t1;generalize b9:(zdz s.graves (HI.take j) ((es.map (·.1)).take j))[i]=gg at*;obtain⟨z0,z1,z2,z3,z4,z5⟩:=cF6 t1;have fz: ∀j,wr.frozen? ⟨T,j,none⟩=false:=fun j=>by simp only[World.frozen?,t1];rfl
          have ar:(j:Int)<(HL.length:Int):=Mcl;have aT:(0:Int)<=(j:Int):=Mcl;have hkh:(j:Int)<=(hn:Int):=by have:=AE.o;omega
          have jv:(j:Int)<=(nn:Int):=by have:=I5.o;omega
          have hnT:nb≠T:=by
           have:=(vN.ge nb rfl).1;omega
          have aq:=zHi aa;have qI:=zHi Fh;clear b9 hE bW ic bp vI qZ hi aA gW t1 BK zw vN eb oH;go_wp2_with fail
          go_round
          case rel=>
           have hg:=zcc wr T (.string gp) (.int .i64 gc) (.int .i64 efr) (.int .i64 gf) (.slice EH gh.length ehc) (.slice ED gd.length edc);have Je:=zi5 (show wr.heap[T]?=some (.cells #[.string gg.place, .int .i64 gg.cls, .int .i64 frm, .int .i64 gg.fin, .slice H gg.holders.length aU, .slice D gg.died.length dc] 75) from eI.o) (.string gp) (.int .i64 gc) (.int .i64 efr) (.int .i64 gf) (.slice EH gh.length ehc) (.slice ED gd.length edc);have Fh:=qI.o;have zY: ∀(k:Nat) (cur:Array Value) (t:TypeId) (f:Nat×Nat),wr.heap[k]?=some (.cells cur t f)->t=63\/t=9->((((((wr.setCell ⟨T,0,none⟩ (.string gp)).setCell ⟨T,1,none⟩ (.int .i64 gc)).setCell ⟨T,2,none⟩ (.int .i64 efr)).setCell ⟨T,3,none⟩ (.int .i64 gf)).setCell ⟨T,4,none⟩ (.slice EH gh.length ehc)).setCell ⟨T,5,none⟩ (.slice ED gd.length edc)).heap[k]?=wr.heap[k]?:=fun k cur t f hk ht=>
            hg.block k (zab hk) (fun e=>by
             simp only[Option.some.injEq]at e;rw[e,show wr.heap[T]?=_ from eI.o]at hk;simp only[Option.some.injEq,Obj.cells.injEq]at hk;rw[<-hk.2.1]at ht;revert ht
             decide)
           have hN:TombAt ((((((wr.setCell ⟨T,0,none⟩ (.string gp)).setCell ⟨T,1,none⟩ (.int .i64 gc)).setCell ⟨T,2,none⟩ (.int .i64 efr)).setCell ⟨T,3,none⟩ (.int .i64 gf)).setCell ⟨T,4,none⟩ (.slice EH gh.length ehc)).setCell ⟨T,5,none⟩ (.slice ED gd.length edc)) base Bk T ⟨gp,gc,gf,gh,gd⟩:=
            ⟨EH,ehc,ED,edc,efr,Je,t2,lM.o.hc,lM.o.dc,lM.o.hs.kept hg eI.o Mcn,lM.o.ds.kept hg eI.o Mcn,fun _ a ha hb=>by
              have h1:=lM.o.ge a ha;have h2:=ppl_rows HP.o _ hb
              omega⟩
           refine⟨j+1,aq.o,by go_num,wldC_tomb DO.o eI.o hg,pa.o.kept hg eI.o Mcn Mcn Mcn,?_,zaS bR.o hg t2 Mcl,(hg.block _ (zab As.o) Mcq).trans As.o,uK.o.trans (KeepD.cells hg eI.o Mcn),uS.o.kept hg eI.o Mcn,E6.o.grown hg (.inr fun e=>by have:=(E6.o.ge _ e).1;omega),fun e he=>(uT.o e he).same zY,Nat.le_trans kw hg.size⟩;show TombsAt _ _ _ _ _ _;rw[eu.o];exact zmY nj.o qx.o eI.o hg hN
          case measure=>have:=aq.o;simp only[intOf];omega
         ·have ar: ¬(j:Int)<(HL.length:Int):=Mcl;have h1:HI.take j=HI:=List.take_of_length_le (by have:=yR.o;omega);have h2:(es.map (·.1)).take j=es.map (·.1):=List.take_of_length_le (by have:=gq.o;rw[List.length_map];omega);rw[h1,h2]at nj;clear h1 h2 BK zw vN;go_wp2_with fail
          go_meet
          exact⟨_,ka.o,⟨Bk,dd,cc,pp,wl,rr,mv,_,ps,ba,DO.o,⟨pa.o.nd,pa.o.ge,pa.o.dead,pa.o.rows,pa.o.marr,pa.o.wills,pa.o.ren⟩,nj.o⟩,bR.o,As.o,uK.o⟩
       ·have rv:=eY.o;simp only[if_true]at rv;have ka:=zHi rv;clear rv eY;go_wp2_with fail
        go_ret
        exact zbN HW.o qi.o ka.o
   case rest=>
    obtain⟨gs,au,Jk,eJ,zm,IY⟩:=hcut;have Hr:=zHi IY;obtain⟨W9,rfl⟩: ∃x,x=wc:=⟨_,rfl⟩
    obtain⟨Bk',d',c',p',wl',r',mv',tv',ps',ew,cF,gC,fV⟩:=Jk;have rM:=zab cF;have bz:=zab zm;have GK:=zHi cF;have B8:=zHi gC;have Ed:=zHi fV;have cO:=zHi eJ;unfold WldC at cF;obtain z0:=cF1 cF;obtain⟨-,-,-,z3⟩:=cF4 zm;obtain⟨es,ec,hx⟩:=zbx gC.dead;have od:=zHi hx;have iQ:=gC.dead.at.lt;have dp:b≠d':=fun e=>by subst e;rw[cF]at hx;simp at hx
    have Dx:w.heap.size≠d':=fun e=>by rw[<-e,zm]at hx;simp at hx
    clear cF gC fV eJ zm hx;go_upto_region 37 with fail
    refine wp_region_held_drew (S:=(fun w'=>w'.cell? ⟨b,0,none⟩=some (.map (some d'))/\w'.cell? ⟨w.heap.size,3,none⟩=some (.string fr))) Mcm ?hS ?hrest
    case hS=>exact⟨z0,z3⟩
    case hrest=>
     intro hHeld;refine TkH 0 ?_;refine TkH 1 ?_;refine TkH 2 ?_;refine TkH 3 ?_;refine TkH 4 ?_;refine TkH 5 ?_;refine TkH 6 ?_;refine OnH 7 fun K hK=> ?_
     obtain⟨w6,hrun,iU,bH,kv⟩:=zcu (w:=W9.drew) zos (B8.o.dead.keep (w':=W9.drew) rfl) fr true;refine zdb rfl _ _ _ rfl _ _ _ rfl rfl rfl w6 hrun ?_;have oC:W9.grownBy w6 (some d'):=⟨bH.os,bH.tape,bH.output,bH.size,bH.block⟩
     have p6:w6.cell? ⟨b,0,none⟩=some (.map (some d')):=(zbd oC rM dp).trans z0;have q6:w6.cell? ⟨w.heap.size,3,none⟩=some (.string fr):=(zbd oC bz Dx).trans z3;have uN:=zHi iU;have jG:=zHi oC;clear iU bH oC hrun;refine hK.out _ _ ?_ (fun hHeld=> ?_);focus((try dsimp only);refine⟨?_,?_⟩<;>assumption)
     clear hK K;try simp only[Act.put,List.setIfInBounds_toArray,List.set_cons_zero,List.set_cons_succ]
     refine wpAnyH_done Mcm ?_ _;go_wp2_with fail
     go_ret
     rw[au.o];have fF:=B8.o.ge;have tU:mput eqS fr true (s.dead.map fun n=>(n,true))=(s.dead++[fr]).map fun n=>(n,true):=by
      have hz:=ziG (eq:=eqS) (k:=fr) (l:=s.dead) (by rw[zhG];exact rR);rw[zk7 hz];simp
     have sm:MapS w6 d' ekS evB ((s.dead++[fr]).map fun n=>(n,true)):=by
      rw[<-tU];exact uN.o
     exact⟨rfl,zmP ew GK.o Ed.o jG.o od.o rfl (ppl_dead B8.o jG.o sm),zaS cO.o jG.o fF.1 (by have:=HW.o.lt;omega),Hr.o.trans (KeepD.map jG.o od.o)⟩
 ·go_quiet (fail)
  go_wp2_with fail
  go_ret
  exact zbN HW.o Bw HX.o
end Go.Proofs.YtckkbkdcdkhglaaGreatDoor

import Derived.Test.YtogklihlgindkaaGreatDoorE5
import Derived.Test.YtogklihlgindkaaGreatDoorOB
import Derived.Test.YtogklihlgindkaaGreatDoorE1
set_option linter.all false
set_option maxRecDepth 100000
set_option maxHeartbeats 4000000
namespace Go.Proofs.YtogklihlgindkaaGreatDoor
open Go.RowKit Go.Shelf
attribute [local go_sem] World.cell?_alloc_mark zaf za3 zam za6 zat zau zav zaw zax zay zaz
attribute [local go_sem] zao zac
variable{s:St}{n:ByteArray}
def estate_bd{law:Law}(hw:WillOk (zbv s n))(hl:za8 16 law.num law.den=true):Bd (zcj s law n).1 1:=by
 have hi:=zkJ (s:=s) (frm:=n) hw (zbv s n).length;rw[List.take_of_length_le Qc]at hi;unfold zcj;generalize zdj s n (zbv s n) ([],false) 1=y at*;obtain⟨⟨o,f⟩,r⟩:=y;obtain⟨o1,o2,_,_⟩:=own_ok hi.isN hi.nn hi.le hl;have hb:=hi.bd;have hn:=hi.nn;simp only at*;split
 ·exact(zfA (fl:=f) hb hn).up6 Mdl
 ·split
  ·exact(zgA (fl:=f) hn hb).up6 Mdl
  ·exact(zgA (fl:=(zcT (zco s n) (r*Rat.divInt law.num law.den) (o,f)).2) (show 0<=r-r*Rat.divInt law.num law.den by grind) (zfA (n:=zco s n) (fl:=f) hb o1)).up6 Mdl
variable{hs:Parts}
def death_bd{g:Grave}(hG:GoodG g)(hE:Bd hs 1):0<=zah g.holders n/\zaJ (zah g.holders n)/\zah g.holders n<=1/\∀(f:Bool) (k:Nat),Bd (zei (zah g.holders n) (hs.take k) (setP g.holders n 0,f)).1 1:=by
 have ho:=zbA hG.good n;have bG:=zdz hG.good n;have dS:sumQ g.holders<=1:=by
  rcases hG.one with h|h
  ·rw[h];decide
  ·rw[h];exact Rat.le_refl
 have hb:Bd (setP g.holders n 0) (1-zah g.holders n):=by
  refine⟨zhN hG.good McU,zeu hG.small McU,?_⟩;rw[zmT hG.good];grind
 refine⟨ho,zca ho Mdl (zcN n hG.small),by grind,λf k=>?_⟩
 have h2:=zmU ho (l:=hs.take k) (f:=f) (λp hp=>by
  have:=hE.good.pos p (List.mem_of_mem_take hp)
  grind) hb
 refine h2.up ?_;have h3:=zlQ hs hE.good.pos k;have h4:=hE.le;have h5:=Rat.mul_nonneg ho (show 0<=1-sumQ (hs.take k) by grind);grind
variable{p:ByteArray×Rat}
def sum_mem{l:Parts}(h:∀p∈l,0<p.2)(hp:p∈l):p.2<=sumQ l:=by
 induction l with
 |nil=>cases hp
 |cons x l ih=>
  rw[sumQ];have h1:=zjJ (l:=l) λq hq=>h q Md7
  have h2:=h x McV;rcases List.mem_cons.1 hp with rfl|hp
  ·grind
  ·have:=ih (λq hq=>h q Md7) hp;grind
def zdK(hE:Bd hs 1)(hp:p∈hs):0<p.2/\p.2<=1/\zaJ p.2:=by
 have h0:=hE.good.pos p hp;have h1:p.2<=1:=by
  have:=hE.le;have h2:=sum_mem hE.good.pos hp;grind
 refine⟨h0,h1,zca Mdl h1 ?_⟩;have:=hE.small;unfold zaE at this;rw[List.any_eq_false]at this;simpa using this p hp
def zpz(own:Rat)(hs:Parts)(x:Parts×Bool){k:Nat}(h:k<hs.length):zei own (hs.take (k+1)) x=zfe own hs[k] (zei own (hs.take k) x):=by
 rw[List.take_succ_eq_append_getElem h,zff];rfl
variable{W:World}{T:Nat}{v:Value}
def tomb_set5{pl:ByteArray}{cl fr en:Int}{dv:Value}(h:zbt W T pl cl fr en v dv)(v':Value):zbt (W.setCell ⟨T,5,none⟩ v') T pl cl fr en v v':=by
 unfold zbt at*;have:=Joins.block_setCell (i:=5) h v';simpa using this
variable{base:Nat}{t:TypeId}{cs:Array Value}{fr:Nat×Nat}
def zkT{α:Type}{e:TypeId}{size:Nat}{f:α->List Value}{xs:List α}(h:OwnS W base e size f v xs)(hT:W.heap[T]?=some (.cells cs t fr))(ai:t≠e):za4 v≠some T:=by
 exact M8
def zbO(n:ByteArray)(day:Int)(ps:List Nat)(gs:List Grave):List Nat:=(zbf n day 0 gs).map λi=>ps.getD i 0
def zp0(a b:Int)(w:World):(Instr.field 50 (.agg #[.int .i64 a,.int .i64 b]) 0).run Tryz.prog w=.ok (.int .i64 a) w:=by kernel_rfl
abbrev Tm:=Grave×Int×(Option Addr×Nat)×(Option Addr×Nat)
def tmC(e:Tm):List Value:=[.string e.1.place,.int .i64 e.1.cls,.int .i64 e.2.1,.int .i64 e.1.fin,.slice e.2.2.1.1 e.1.holders.length e.2.2.1.2,.slice e.2.2.2.1 e.1.died.length e.2.2.2.2]
def zo6(e:Tm):(tmC e).length=6:=rfl
def tm_one(e:Tm):∀u∈tmC e,u.oneCell'=true:=by simp[tmC,Value.oneCell']
def elTm:ElTy Tryz.prog 172 78 6 88:=zdm (z:=.agg #[.string ⟨#[]⟩,.int .i64 0,.int .i64 0,.int .i64 0,.slice none 0 0,.slice none 0 0]) McT McT rfl McU
structure TmOk (W:World) (n0:Nat) (e:Tm):Prop where
 hs:Ro W 55 zaa e.2.2.1.1 e.1.holders
 hc:e.1.holders.length<=e.2.2.1.2
 ds:Ro W 9 sC e.2.2.2.1 e.1.died
 dc:e.1.died.length<=e.2.2.2.2
 ge:∀a,e.2.2.2.1=some a->n0<=a.block
variable{W':World}{e:Tm}
def TmOk.same{n0:Nat}(h:TmOk W n0 e)(hk:∀(k:Nat) (cur:Array Value) (t:TypeId) (f:Nat×Nat),W.heap[k]?=some (.cells cur t f)->t=55\/t=9->W'.heap[k]?=W.heap[k]?):TmOk W' n0 e:=
 ⟨h.hs.same λb cur f hb _=>hk b cur _ f hb (.inl rfl),h.hc,h.ds.same λb cur f hb _=>hk b cur _ f hb (.inr rfl),h.dc,h.ge⟩
variable{ps:List Nat}{gs:List Grave}{B:List Nat}{tv:Value}
def held_tomb{day:Int}(hT:TombsAt base W B tv ps gs){j:Nat}(hj:j<(zbO n day ps gs).length):
 ∃i g,(zbf n day 0 gs)[j]?=some i/\ps[i]?=some (zbO n day ps gs)[j]/\gs[i]?=some g/\(gs.filter (zcA n day))[j]?=some g/\TombAt W base B (zbO n day ps gs)[j] g:=by
 have sS:j<(zbf n day 0 gs).length:=by unfold zbO at hj;simpa using hj
 obtain⟨_,g,h2,h3⟩:=zo4 n day gs 0 j _ (List.getElem?_eq_getElem sS);rw[Nat.sub_zero]at h2;have hi:(zbf n day 0 gs)[j]<ps.length:=by have:=(List.getElem?_eq_some_iff.1 h2).1;have:=hT.len;omega
 have hp:ps[(zbf n day 0 gs)[j]]?=some (zbO n day ps gs)[j]:=by
  have e:(zbO n day ps gs)[j]=ps.getD (zbf n day 0 gs)[j] 0:=by unfold zbO;simp
  rw[e,List.getElem?_eq_getElem hi,List.getD_eq_getElem?_getD,List.getElem?_eq_getElem hi];rfl
 exact⟨_,g,List.getElem?_eq_getElem sS,hp,h2,h3,hT.all _ _ _ hp h2⟩
variable{w:World}{b:Nat}
def sl_tm(h:w.heap[b]?=some (.cells (tmC e).toArray t fr)):Sl w 6 tmC (some ⟨b,0,none⟩) [e]:=λ_=>⟨b,0,rfl,zab h,λk y hy j u hu=>by
 have hk:k=0:=Mc2;subst hk;simp only[List.getElem?_cons_zero,Option.some.injEq]at hy;subst hy;simp only[World.cell?,h,Nat.zero_mul,Nat.zero_add,Nat.add_zero]
 simpa using hu⟩
variable{d c wl r:Nat}{mv:Value}
def ppl_rows{p:Nat}(h:PplAt base W B d c p wl r mv s):∀g∈B,g<W.heap.size:=λg hg=>by
 obtain⟨mc,mp,_,_,k3,k4,k5,_,kn1,kn2⟩:=h.rows;have key:∀ {m:List (ByteArray×Value)} {f:ByteArray->List ByteArray},(m.map (·.1)).Nodup->(∀n,RowIs W base m n (f n))->g∈zaY m->g<W.heap.size:=λ{m f} hk hr h=>by
  obtain⟨e,he,fL⟩:=zdg.1 h;have h1:=zhT hk (show(e.1,e.2)∈m from he);rcases hr e.1 with⟨h2,_⟩|⟨v,h2,h3⟩
  ·rw[h2]at h1;cases h1
  ·rw[h2]at h1;simp only[Option.some.injEq]at h1;rw[h1]at h3;exact(h3.ge g fL).2
 rw[k5,zc2,List.mem_append]at hg;rcases hg with hg|hg
 ·exact key kn1 k3 hg
 ·exact key kn2 k4 hg
def znx{i:Nat}{g':Grave}(hT:TombsAt base W B tv ps gs)
 (hi:ps[i]?=some T)(hx:W.heap[T]?=some (.cells cs 78 fr))(hg:W.grownBy W' (some T))(hN:TombAt W' base B T g'):TombsAt base W' B tv ps (gs.set i g'):=by
 refine⟨hT.own.kept hg hx McU,by simp[hT.len],hT.nd,λj T' g e1 e2=>?_⟩;by_cases hj:i=j
 ·subst hj;rw[hi]at e1;have eR:i<gs.length:=Med;exact MbM
 ·exact Max
def wldC_tomb{p:Nat}{la co:Int}(h:WldC W b d c p wl r mv tv la co)(hx:W.heap[T]?=some (.cells cs 78 fr))(hg:W.grownBy W' (some T)):WldC W' b d c p wl r mv tv la co:=
 (hg.block b (zab h) (λe=>by
   simp only[Option.some.injEq]at e;subst e;unfold WldC at h;rw[h]at hx
   simp at hx)).trans h
variable{g:Nat}
def zp1{n:Nat}(h:w.grownBy W (some g))(hb:Below n W W')(hn:w.heap.size<=n):w.grownBy W' (some g):=
 ⟨hb.os.trans h.os,hb.tape.trans h.tape,hb.output.trans h.output,Nat.le_trans h.size hb.size,λk hk ai=>(hb.block k McS).trans (h.block k hk ai)⟩
def zkc{n:Nat}(hb:Below n w W)(hn:w.heap.size<=n)(h:W.grownBy W' (some g)):w.grownBy W' (some g):=
 ⟨h.os.trans hb.os,h.tape.trans hb.tape,h.output.trans hb.output,Nat.le_trans hb.size h.size,λk hk ai=>(h.block k (Nat.lt_of_lt_of_le hk hb.size) ai).trans (hb.block k McS)⟩
def B_drop(h:Below w.drew.heap.size w.drew W):Qa w W:=⟨h.os,h.tape,h.output,h.size,h.block⟩
def death_any(base b:Nat)(s:St)(la co last:Int)(laws:List Law)(LA:Option Addr)(lc:Nat)(d:Deed)(B:Option Addr)(c:Nat)(w:World)(hW:WldAt base w b s la co)(jC:GoodSt s last)(hl:last<=d.day)(hk:d.kind=8)(fx:za8 16 (zbc laws d.day).num (zbc laws d.day).den=true)(g9:laws.length<=10)(fT:Sl w 4 Law.cells LA laws)
 (lK:s.graves.length<=1000)(cf:s.children.length<=1000)(gn:s.marriages.length<=1000)(cK:(zbv s d.frm).length<=1000)(bQ:∀g∈s.graves,g.holders.length<=70000/\g.died.length<=1000):
 Calls Tryz.prog 81 #[.pointer (some ⟨b,0,none⟩),.slice LA laws.length lc,d.v B c] w (zbG base b (zdM laws s d) la co w):=by
 have hq:=deathP_eq jC hl fx;have FY:=estate_bd (s:=s) (law:=zbc laws d.day) (jC.wills d.frm) fx;have am:=hW;obtain⟨Bk,dd,cc,pp,wl,rr,mv,tv,ps,ba,hC,hP,hT⟩:=hW;have cI:=zab hC;obtain⟨kd,dy,pl,fr,ts,cl,yr⟩:=d;simp only at*;clear hk;have HX:Hid (zdM laws s ⟨kd,dy,pl,fr,ts,cl,yr⟩=_):=hq;generalize zdM laws s ⟨kd,dy,pl,fr,ts,cl,yr⟩=X at*;obtain⟨TA,tc,rfl,_,tB⟩:=hT.own.sl zcK;have wW:=hT.own;obtain⟨oL,HC,HP,HT,HW,dq,oE,eL⟩:=yH8 hT.len hC hP hT am jC bQ fT;have qT:=zHi FY;unfold WldC at hC;obtain⟨c0,-,-,-,-,-,c6⟩:=cF7 hC;have iB:=zHi (λW (hB:Qa w W)=>zd0 (HP.o.keep hB) fr);have aR:∀q',_:=λq'=>iB.o ((w.alloc (.cells #[.int .i64 kd,.int .i64 dy,.string pl,.string fr,.slice B ts.length c,.int .i64 cl,.int .i64 yr] 60)).drewN q') (zcD Bw _)
 generalize sI:zaN s fr=dx at*;clear hC hP hT am jC bQ fT hq FY;unfold Deed.v;simp only;go_enter Tryz.func81,Tryz.ntmps81
 go_upto_region 1 with fail
 cases dx
 ·go_quiet (fail)
  go_upto_block 0 with fail
  have bV:Qa w (((w.alloc (.cells #[.int .i64 kd,.int .i64 dy,.string pl,.string fr,.slice B ts.length c,.int .i64 cl,.int .i64 yr] 60)).drewN nq).alloc (.cells #[.bool false] 167)):=zad (zcD Bw _) _;have D2:(((w.alloc (.cells #[.int .i64 kd,.int .i64 dy,.string pl,.string fr,.slice B ts.length c,.int .i64 cl,.int .i64 yr] 60)).drewN nq).alloc (.cells #[.bool false] 167)).heap[w.heap.size]?=some (.cells #[.int .i64 kd,.int .i64 dy,.string pl,.string fr,.slice B ts.length c,.int .i64 cl,.int .i64 yr] 60):=zal (zas _ _ _ rfl);have M2:MarkAt (((w.alloc (.cells #[.int .i64 kd,.int .i64 dy,.string pl,.string fr,.slice B ts.length c,.int .i64 cl,.int .i64 yr] 60)).drewN nq).alloc (.cells #[.bool false] 167)) (w.heap.size+1) false:=zas _ _ _ (by simp[World.drewN]);have s2:(((w.alloc (.cells #[.int .i64 kd,.int .i64 dy,.string pl,.string fr,.slice B ts.length c,.int .i64 cl,.int .i64 yr] 60)).drewN nq).alloc (.cells #[.bool false] 167)).heap.size=w.heap.size+1+1:=by simp[World.drewN]
  generalize(((w.alloc (.cells #[.int .i64 kd,.int .i64 dy,.string pl,.string fr,.slice B ts.length c,.int .i64 cl,.int .i64 yr] 60)).drewN nq).alloc (.cells #[.bool false] 167))=W2 at*;obtain⟨aN,jX,pU,S2⟩:=yH4 bV D2 M2 s2;clear D2 M2 s2 aR;have bi:=bV.size;clear bV;go_cut [8,10,35]from 36 (λv8 _ _ wc=>∃A n,v8=.slice A (zbO fr dy ps s.graves).length n/\OwnS wc W2.heap.size 76 1 ptrC v8 (zbO fr dy ps s.graves)/\Qa W2 wc)
  case first=>
   go_wp2_with fail
   go_loopw [8,35] (λv i wr=>∃(k:Nat),k<=ps.length/\i=.int .i64 k/\OwnS wr W2.heap.size 76 1 ptrC v (zbO fr dy ps (s.graves.take k))/\Qa W2 wr) (λ_ i _=>ps.length-(intOf i).toNat)
   case atStart=>exact⟨0,Nat.zero_le _,rfl,OwnS.nil,Qb⟩
   case round=>
    obtain⟨k,hk,rfl,aa,hB⟩:=hrel;obtain⟨VA,vc,rfl,_,gu⟩:=aa.sl zcK;have bn:Qa w wr:=aN.o.trans (hB.mono bi);have hsz:=hB.size;obtain⟨HO,HB⟩:=yH2 aa hB;have e1:wr.cell? ⟨w.heap.size,1,none⟩=some (.int .i64 dy):=(zai hB Meh).trans (by simp only[World.cell?,jX.o];rfl);have e3:wr.cell? ⟨w.heap.size,3,none⟩=some (.string fr):=(zai hB Meh).trans (by simp only[World.cell?,jX.o];rfl);have bA:w.heap.size<wr.heap.size:=Meh;by_cases ae:k<ps.length
    ·have qi:k<s.graves.length:=Mev;have Dh:=(HT.o.keep bn).all k ps[k] s.graves[k] (List.getElem?_eq_getElem ae) (List.getElem?_eq_getElem qi);have bh:=dq.o.graves s.graves[k] (List.getElem_mem qi);have ng:=oE.o s.graves[k] (List.getElem_mem qi)
     obtain⟨TB,toff,AB,Dg,wZ⟩:=(show Sl wr 1 ptrC TA ps from by
      obtain⟨A',c',e',h',_⟩:=(wW.keep bn).sl zcK;simp only[Value.slice.injEq]at e'
      rw[e'.1];exact h').at ae
     subst AB;have bC:=held_snoc fr dy s.graves qi;have iy:ps.getD k 0=ps[k]:=MdH;have i0:wr.cell? ⟨TB,toff+k,none⟩=some (.pointer (some ⟨ps[k],0,none⟩)):=by have:=wZ 0 _ rfl;simpa using this
     have Hn:zbO fr dy ps (s.graves.take (k+1))=zbO fr dy ps (s.graves.take k)++if zcA fr dy s.graves[k]then[ps[k]]else[]:=by
      unfold zbO;rw[bC,List.map_append];cases zcA fr dy s.graves[k]
      ·rfl
      ·show _++[ps.getD k 0]=_;rw[iy];rfl
     generalize ps[k]=T at*;generalize s.graves[k]=g at*;have I8:zcA fr dy g=(zaM g dy&&decide (0<(zah g.holders fr).num)):=rfl;obtain⟨H,aE,D,dc,frm,t1,t2,t3,t4,t5,t6,t7⟩:=Dh;have cz:=zab t1;unfold zbt at t1;obtain⟨-,-,-,g3,g4⟩:=cF5 t1;obtain⟨BP,jv,BN,Ab⟩:=yH4 (λW (hW:Qa wr W)=>zi2 g H aE T dy W ((zai hW cz).trans g3) ((zai hW cz).trans g4)) (λW (hW:Qa wr W)=>zev g.holders H aE T fr W ((zai hW cz).trans g4) (Nat.lt_of_lt_of_le cz hW.size) McS bh.good.asc (Ro.sl zak (t5.keep hW))) Hn I8;generalize zaM g dy=fi at*;generalize zah g.holders fr=q at*;unfold zaA at jv;have au:(k:Int)<(ps.length:Int):=McS;have aR:(0:Int)<=(k:Int):=McS;have fZ:(k:Int)<=(tc:Int):=McS;have fN:(zbO fr dy ps (s.graves.take k)).length<=1000:=by
      unfold zbO;rw[List.length_map,zfB];exact Ma9
     generalize zbO fr dy ps (s.graves.take k)=eG at*;have cG:=zHi fN;clear bh ng bC Hn I8 t1 t5 t6 t7 t2 t3 t4 wZ aa hB bn fN iy g3 g4;have AQ:=zp0 q.num q.den;cases fi
     ·rw[Bool.false_and]at Ab;go_wp2_with (go_at_call 52;refine(BP.o _ Bw).mono ?_;rintro e wq ⟨rfl,z,rfl⟩)
      go_round
      case rel=>exact⟨k+1,by omega,by go_num,by rw[BN.o,Ab.o];simpa using HO.o.keep (n:=wr.heap.size) Bw,HB.o.trans ((Bw:Qa wr _).mono hsz)⟩
      case measure=>simp[intOf];omega
     ·by_cases hq:0<q.num
      ·have Cb:Hid (zcA fr dy g=true):=by show _=_;rw[Ab.o];simpa using hq
       go_wp2_with (first
        |(go_at_call 52;refine(BP.o _ Bw).mono ?_;rintro e wq ⟨rfl,z,rfl⟩)
        |(go_at_call 110;refine(jv.o _ Bw).mono ?_;rintro e wq2 ⟨rfl,z2,rfl⟩)
        |(at_builtin;go_loud(refine zar (v:=.slice VA eG.length vc) (n:=eG.length) (m:=1) rfl _ _ rfl elTomb zcK zon rfl (HO.o.keep (n:=wr.heap.size) Bw) rfl rfl rfl (sl_ptr (T:=T) (zas _ _ _ Mdu)) (by have:=cG.o;simp[maxLen];omega) Meu Mc1 ?_);intro v3 w3 h1 h2 h3))
       have ax:Qa W2 w3:=Below.grown (a:=W2) (B:=W2.heap.size) (HB.o.trans ((Bw:Qa wr _).mono hsz)) h2 Mc1 (λj hj=>(HO.o.ge j hj).1);obtain⟨aG,H1⟩:=yH2 ax h1;clear h1 h2 h3 ax;go_wp2_with fail
       go_round
       case rel=>exact⟨k+1,by omega,by go_num,by rw[BN.o,Cb.o];exact H1.o,aG.o⟩
       case measure=>simp[intOf];omega
      ·have Cb:Hid (zcA fr dy g=false):=by show _=_;rw[Ab.o];simpa using hq
       go_wp2_with (first
        |(go_at_call 52;refine(BP.o _ Bw).mono ?_;rintro e wq ⟨rfl,z,rfl⟩)
        |(go_at_call 110;refine(jv.o _ Bw).mono ?_;rintro e wq2 ⟨rfl,z2,rfl⟩))
       go_round
       case rel=>exact⟨k+1,by omega,by go_num,by rw[BN.o,Cb.o];simpa using HO.o.keep (n:=wr.heap.size) Bw,HB.o.trans ((Bw:Qa wr _).mono hsz)⟩
       case measure=>simp[intOf];omega
    ·have au:¬(k:Int)<(ps.length:Int):=McS;have gC:zbO fr dy ps (s.graves.take k)=zbO fr dy ps s.graves:=by rw[List.take_of_length_le Mev]
     have dW:=zHi gC;clear gC aa hB bn;go_wp2_with fail
     go_meet
     have hO:=HO.o;rw[dW.o]at hO⊢;exact⟨VA,vc,rfl,hO,HB.o⟩
  case rest=>
   obtain⟨HA,hn,rfl,aa,hB⟩:=hcut;have bn:Qa w wc:=aN.o.trans (hB.mono bi);have hD:wc.heap[w.heap.size]?=some (.cells #[.int .i64 kd,.int .i64 dy,.string pl,.string fr,.slice B ts.length c,.int .i64 cl,.int .i64 yr] 60):=(hB.block _ Meh).trans jX.o;have hM:MarkAt wc (w.heap.size+1) false:=(hB.block _ Meh).trans pU.o;have mP:(zbO fr dy ps s.graves).length=0->s.graves.any (zcA fr dy)=false:=λh=>by
    unfold zbO at h;rw[List.length_map,zfB]at h;rw[List.any_eq_false];intro g hg hq;have:g∈s.graves.filter (zcA fr dy):=List.mem_filter.2 ⟨hg,hq⟩;rw[List.eq_nil_of_length_eq_zero h]at this;cases this
   obtain⟨lZ,HO,bk,HD,HM⟩:=yH5 mP aa bn hD hM;clear mP aa bn hD hM;go_upto_if 58 with fail
   go_cut [11,12,14,15,16,18,19,20,21,58]from 59 (λ_ _ _ _ _ _ _ _ _ _ W=>∃gs,Hid (X=({s with graves:=gs,dead:=s.dead++[fr]},0))/\WldAt base W b {s with graves:=gs} la co/\Below base w W/\W.heap[w.heap.size]?=some (.cells #[.int .i64 kd,.int .i64 dy,.string pl,.string fr,.slice B ts.length c,.int .i64 cl,.int .i64 yr] 60)/\KeepD w W)
   case first=>
    by_cases hz:(zbO fr dy ps s.graves).length=0
    ·have jo:¬(0:Int)<((zbO fr dy ps s.graves).length:Int):=McS;have hX:=HX.o;rw[lZ.o hz]at hX;have aw:=zHi hX;clear hz hX;go_wp2_with fail
     go_meet
     refine⟨s.graves,?_,HW.o.keep bk.o,bk.o.mono (by have:=HW.o.lt;omega),HD.o,KeepD.below bk.o⟩;show _=_;rw[aw.o];simp
    ·have jo:(0:Int)<((zbO fr dy ps s.graves).length:Int):=McS;have HZ:=zHi hz;have d1:wc.cell? ⟨w.heap.size,1,none⟩=some (.int .i64 dy):=by simp only[World.cell?,HD.o];rfl
     have d3:wc.cell? ⟨w.heap.size,3,none⟩=some (.string fr):=by simp only[World.cell?,HD.o];rfl
     have bA:w.heap.size<wc.heap.size:=zab HD.o;have aM:=bk.o.size;have tQ:=zHi (show∃EF,EF=zcj s (zbc laws dy) fr from⟨_,rfl⟩);obtain⟨EF,q9⟩:=tQ.o;rw[<-q9]at qT HX;have hel:EF.1.length<=3000:=by
      have h1:=qT.o.good;have h2:=ziR (s:=s) (law:=zbc laws dy) (n:=fr) (by rw[<-q9];exact h1);rw[<-q9]at h2;omega
     obtain⟨eX,HE⟩:=yH2 hel q9;clear hz q9 tQ hel;go_upto_region 12 with fail
     clear jo;go_cut [11,58]from 59 (λv11 _ W=>∃A n,v11=.slice A EF.1.length n/\OwnS W (w.heap.size+1+1) 55 3 zaa v11 EF.1/\MarkAt W (w.heap.size+1) EF.2/\wc.grownBy W (some (w.heap.size+1)))
     case first=>
      refine wp_region_held_drew (S:=(λw'=>w'.cell? ⟨w.heap.size,1,none⟩=some (.int .i64 dy)/\w'.cell? ⟨w.heap.size,3,none⟩=some (.string fr))) McT ?hS ?hrest
      case hS=>exact⟨d1,d3⟩
      case hrest=>
       intro hHeld;refine TkH 0 ?_;refine TkH 1 ?_;refine TkH 2 ?_;refine TkH 3 ?_;refine TkH 4 ?_;refine TkH 5 ?_;refine TkH 7 ?_;refine TkH 8 ?_;refine OnH 6 λK hK=>?_
       go_simp
       refine(zoO laws LA lc dy _ g9 (eL.o.keep (bk.o.trans ((zaF Qb).mono aM)))).mono ?_;rintro e w5 ⟨rfl,z,rfl⟩;refine NxM hK (λhHeld=>?_) (⟨(za3 _ _ _ _ bA).trans d1,(za3 _ _ _ _ bA).trans d3⟩);clear hK K;refine OnH 9 λK hK=>?_
       go_simp
       refine(zpt base b (w.heap.size+1) s last (zbc laws dy) fr _ ?q1 dq.o ?q2 cf gn cK fx).mono ?_
       case q1=>exact λW hW=>HW.o.peo.keep (zaV (bk.o.trans ((zb2 (zaF Qb) z).mono aM)) hW McS)
       case q2=>exact HM.o.drew.ext z
       rintro e w6 ⟨v,rfl,n1,n2,n3⟩;rw[<-HE.o]at n1 n2;have n3':wc.grownBy w6 (some (w.heap.size+1)):=⟨n3.os,n3.tape,n3.output,Nat.le_trans Mdu n3.size,λk hk ai=>(n3.block k Mc1 ai).trans (zcL _ _ _ hk)⟩
       obtain⟨N1,N2,N3⟩:=yH3 n1 n2 n3';clear n1 n2 n3 n3';refine NxM hK (λhHeld=>?_) (⟨(zbd N3.o bA McS).trans d1,(zbd N3.o bA McS).trans d3⟩);clear hK K;refine OnH 10 λK hK=>?_
       go_simp
       refine NxM hK (λhHeld=>?_) (⟨(zbd N3.o bA McS).trans d1,(zbd N3.o bA McS).trans d3⟩);clear hK K;refine wpAnyH_done McT ?_ _;go_wp2_with fail
       go_meet
       obtain⟨A9,n9,rfl,_,_⟩:=N1.o.sl zak;exact⟨A9,n9,rfl,OwnS.base_le N1.o (by have:=S2.o;have:=hB.size;simp[zaf];omega),N2.o,N3.o⟩
     case rest=>
      obtain⟨EA,en,rfl,n1,n2,n3⟩:=hcut;have Gd:Qa w wc:=zaV bk.o n3 McS MeA;have FV:wc.heap[w.heap.size]?=some (.cells #[.int .i64 kd,.int .i64 dy,.string pl,.string fr,.slice B ts.length c,.int .i64 cl,.int .i64 yr] 60):=(n3.block _ bA McV).trans HD.o
      have un:OwnS wc (w.heap.size+1+1) 76 1 ptrC (.slice HA (zbO fr dy ps s.graves).length hn) (zbO fr dy ps s.graves):=(OwnS.base_le HO.o Meh).grown n3 (by
       cases hb:za4 (.slice HA (zbO fr dy ps s.graves).length hn)with
       |none=>exact .inl rfl
       |some g=>exact .inr λe=>by have:=(HO.o.ge g hb).1;have:=S2.o;simp at e;omega)
      obtain⟨ll,vl,oH,zO,vn⟩:=yH5 un n1 n2 FV Gd;have jm:=n3.size;have hHL:(zbO fr dy ps s.graves).length<=1000:=by
       unfold zbO;rw[List.length_map,zfB];exact Nat.le_trans (List.length_filter_le _ _) lK
      have dZ:(zbO fr dy ps s.graves).length=(s.graves.filter (zcA fr dy)).length:=by
       unfold zbO;rw[List.length_map,zfB]
      obtain⟨oC,ri⟩:=yH2 dZ (λ(W:World) (hB:Qa w W) j hj=>held_tomb (n:=fr) (day:=dy) (HT.o.keep hB) (j:=j) hj);have Ge:∀g∈s.graves.filter (zcA fr dy),GoodG g/\g.holders.length<=70000/\g.died.length<=1000:=λg hg=>⟨dq.o.graves g (List.mem_filter.1 hg).1,oE.o g (List.mem_filter.1 hg).1⟩
      have rg:=zHi Ge;clear n1 n2 n3 un FV Gd d1 d3 bA dZ Ge;generalize hHs:zbO fr dy ps s.graves=HL at*;generalize sQ:s.graves.filter (zcA fr dy)=aI at*;obtain⟨gx,jr⟩:=yH2 hHs sQ;clear hHs sQ;go_upto_block 2 with fail
      go_cut [12,14,15,16,18,19,71]from 72 (λv12 _ _ _ _ _ _ W=>∃A n es,v12=.slice A HL.length n/\OwnS W (w.heap.size+1+1) 78 6 tmC v12 es/\es.map (·.1)=(zcZ fr EF.1 aI EF.2).1/\(∀e∈es,TmOk W w.heap.size e)/\MarkAt W (w.heap.size+1) (zcZ fr EF.1 aI EF.2).2/\Qa w W/\W.heap[w.heap.size]?=some (.cells #[.int .i64 kd,.int .i64 dy,.string pl,.string fr,.slice B ts.length c,.int .i64 cl,.int .i64 yr] 60)/\OwnS W (w.heap.size+1+1) 76 1 ptrC (.slice HA HL.length hn) HL)
      case first=>
       go_wp2_with fail
       go_loopw [12,71] (λv i wr=>∃(j:Nat) (es:List Tm),j<=HL.length/\i=.int .i64 j/\OwnS wr (w.heap.size+1+1) 78 6 tmC v es/\Hid (es.map (·.1)=(zcZ fr EF.1 (aI.take j) EF.2).1)/\Hid (∀e∈es,TmOk wr w.heap.size e)/\MarkAt wr (w.heap.size+1) (zcZ fr EF.1 (aI.take j) EF.2).2/\Qa w wr/\wr.heap[w.heap.size]?=some (.cells #[.int .i64 kd,.int .i64 dy,.string pl,.string fr,.slice B ts.length c,.int .i64 cl,.int .i64 yr] 60)/\OwnS wr (w.heap.size+1+1) 76 1 ptrC (.slice HA HL.length hn) HL/\OwnS wr (w.heap.size+1+1) 55 3 zaa (.slice EA EF.1.length en) EF.1/\w.heap.size+1+1<=wr.heap.size) (λ_ i _=>HL.length-(intOf i).toNat)
       case atStart=>exact⟨0,[],Nat.zero_le _,rfl,OwnS.nil,rfl,λe he=>by(cases he),oH.o,vn.o,zO.o,ll.o,vl.o,by have:=S2.o;have:=hB.size;omega⟩
       case round=>
        obtain⟨j,es,hj,rfl,aa,ij,dt,hm,hF,hD,hO,hE,hsz⟩:=hrel;obtain⟨NA,nc,rfl,_,yx⟩:=aa.sl zo6;have dZ:=oC.o;have sK:es.length=j:=by
         have h1:=congrArg List.length ij.o;rw[List.length_map,zkO,List.length_take]at h1;omega
        obtain⟨HN,HM,HF,gI,dV,vm⟩:=yH6 aa hm hF hD hO hE;obtain⟨-,-,-,e3⟩:=cF4 hD;have bA:=zab hD;by_cases ae:j<HL.length
        ·obtain⟨i,g,hi,gB,aH,DZ,gA⟩:=ri.o wr hF j ae;obtain⟨bh,hgh,bB⟩:=rg.o g (List.mem_of_getElem? DZ)
         obtain⟨cA,d8,CQ,sF,wC⟩:=(show Sl wr 1 ptrC HA HL from by
          obtain⟨A',c',e',h',_⟩:=hO.sl zcK;simp only[Value.slice.injEq]at e'
          rw[e'.1];exact h').at ae
         subst CQ;have i0:wr.cell? ⟨cA,d8+j,none⟩=some (.pointer (some ⟨HL[j],0,none⟩)):=by have:=wC 0 _ rfl;simpa using this
         have bC:=next_snoc fr EF.1 aI EF.2 (k:=j) McS;have xH:aI[j]' McS=g:=by
          have:=List.getElem?_eq_getElem (l:=aI) (i:=j) McS;rw[DZ]at this;exact(Option.some.inj this).symm
         rw[xH]at bC;have cM:=zHi bC;generalize HL[j]=T at*;obtain⟨H,aE,D,dc,frm,t1,t2,t3,t4,t5,t6,t7⟩:=gA;have cz:=zab t1;unfold zbt at t1;obtain⟨m0,m1,m2,m3,m4,m5⟩:=cF6 t1;obtain⟨eN,lA,cQ⟩:=yH3 t1 t6 (λW (hW:Qa wr W)=>zeD g.holders H g.holders.length aE W rfl McS (Ro.sl zak (t5.keep hW)));have Di:T≠wr.heap.size:=McS;have lV:w.heap.size≠wr.heap.size:=McS;have au:(j:Int)<(HL.length:Int):=McS;have aR:(0:Int)<=(j:Int):=McS;have Kc:(HL.length:Int)<=(hn:Int):=by
          obtain⟨A',c',e',_,h'⟩:=hO.sl zcK;exact Mbt
         generalize zcZ fr EF.1 (aI.take j) EF.2=nx at*;obtain⟨mu,gJ⟩:=yH2 dZ sK;clear dZ sK aa hm hF hD hO hE wC bC xH DZ aH gB hi t1 t5 t6 t7 t2 t3 t4;go_upto_region 18 with fail
         have Al:Qa wr (wr.alloc (.cells #[.string g.place,.int .i64 g.cls,.int .i64 frm,.int .i64 g.fin,.slice H g.holders.length aE,.slice D g.died.length dc] 78)):=Bw;have AL:(wr.alloc (.cells #[.string g.place,.int .i64 g.cls,.int .i64 frm,.int .i64 g.fin,.slice H g.holders.length aE,.slice D g.died.length dc] 78)).heap[wr.heap.size]?=some (.cells #[.string g.place,.int .i64 g.cls,.int .i64 frm,.int .i64 g.fin,.slice H g.holders.length aE,.slice D g.died.length dc] 78):=zas _ _ _ rfl;have GE:(wr.alloc (.cells #[.string g.place,.int .i64 g.cls,.int .i64 frm,.int .i64 g.fin,.slice H g.holders.length aE,.slice D g.died.length dc] 78)).heap.size=wr.heap.size+1:=McV;generalize wr.alloc (.cells #[.string g.place,.int .i64 g.cls,.int .i64 frm,.int .i64 g.fin,.slice H g.holders.length aE,.slice D g.died.length dc] 78)=WA at*;have y4:=(zai (o:=4) Al cz).trans m4;obtain⟨Ct,qJ,kD⟩:=yH3 AL Al GE;have bp:=cQ.o WA Al;have oA:=zHi bp;clear AL Al GE bp cQ;have EP:Qa wr WA:=qJ.o;go_cut [83]from 78 to 124 (λ_ W=>∃A1 c1,zbt W wr.heap.size g.place g.cls frm g.fin (.slice A1 g.holders.length c1) (.slice D g.died.length dc)/\OwnS W wr.heap.size 55 3 zaa (.slice A1 g.holders.length c1) g.holders/\Qa wr W)
         case first=>
          clear ri rg dt ij HM mu gJ cM HN vm dV gI HF lA eN ll vl oH zO vn gx jr HO bk HD lZ aN jX pU S2 iB qT eL oE dq HW HT HP HC oL
          go_wp2_with (go_at_call 112
                       go_must(refine oA.o.mono ?_)
                       rintro e wq ⟨hv,rfl,o1,o2⟩;obtain⟨A1,c1,tD,_,_⟩:=o1.sl zak;subst tD;have x1:=(o2.block wr.heap.size (by have:=kD.o;omega)).trans Ct.o;have x3:=zab x1;have x4:wq.frozen? ⟨wr.heap.size,4,none⟩=false:=(by simp only[World.frozen?,x1];rfl)
                       have x5:wq.cell? ⟨wr.heap.size,4,none⟩=some (.slice H g.holders.length aE):=(by simp only[World.cell?,x1];rfl)
                       obtain⟨X1,O1,O2⟩:=yH3 x1 o1 o2
                       clear x1 o1 o2)
          go_meet
          refine⟨A1,c1,zgq (show zbt wq wr.heap.size g.place g.cls frm g.fin (.slice H g.holders.length aE) (.slice D g.died.length dc) from X1.o) _,?_,zaS (qJ.o.trans (O2.o.mono (by have:=kD.o;omega))) McV _⟩;refine OwnS.base_le (OwnS.grown O1.o (za1 _ _ _ _) (.inr λe=>?_)) (by have:=kD.o;omega);have:=(O1.o.ge _ e).1;have:=kD.o;omega
         case rest=>
          obtain⟨A1,c1,cy,eF,eO⟩:=hcut;have zp:=eO.size;have bx:=zab cy;have d3:wc.cell? ⟨w.heap.size,3,none⟩=some (.string fr):=(zai eO bA).trans e3;have q5:wc.cell? ⟨T,5,none⟩=some (.slice D g.died.length dc):=(zai eO cz).trans m5;have ew:=zHi (λW (hW:Qa wc W)=>zl9 g.died D g.died.length dc W rfl McS (Ro.sl zaB ((lA.o.keep eO).keep hW)));obtain⟨fH,kB,av⟩:=yH3 cy eF eO;clear cy eF eO;go_upto_region 19 with fail
          go_cut [93]from 84 to 124 (λ_ W=>∃A2 c2,zbt W wr.heap.size g.place g.cls frm g.fin (.slice A1 g.holders.length c1) (.slice A2 (g.died.length+[fr].length) c2)/\OwnS W wr.heap.size 9 1 sC (.slice A2 (g.died.length+[fr].length) c2) (g.died++[fr])/\OwnS W wr.heap.size 55 3 zaa (.slice A1 g.holders.length c1) g.holders/\Qa wr W)
          case first=>
           clear ri rg dt ij HM mu gJ cM HN vm dV gI HF lA eN ll vl oH zO vn gx jr HO bk HD lZ aN jX pU S2 iB qT eL oE dq HW HT HP HC oL oA Ct qJ kD;refine wp_region_held_drew (S:=(λw'=>w'.cell? ⟨w.heap.size,3,none⟩=some (.string fr)/\w'.cell? ⟨T,5,none⟩=some (.slice D g.died.length dc))) McT ?hS ?hrest
           case hS=>exact⟨d3,q5⟩
           case hrest=>
            intro hHeld;refine TkH 0 ?_;refine TkH 1 ?_;refine TkH 2 ?_;refine TkH 3 ?_;refine TkH 5 ?_;refine TkH 6 ?_;refine wpAnyH_ready (rs:=[4,7]) McT McV (AllReadyH.cons (List.getElem?_toArray.trans rfl) (λK hK=>?_) (AllReadyH.cons (List.getElem?_toArray.trans rfl) (λK hK=>?_) AllReadyH.nil))
            ·go_simp
             refine(ew.o _ Bw).mono ?_;rintro e w5 ⟨hv,rfl,o1,o2⟩;obtain⟨A5,c5,tD,_,_⟩:=o1.sl zaB;subst tD;have z0:=o2.size;have z1:w.heap.size<w5.heap.size:=by simp at z0;omega
             have z2:T<w5.heap.size:=by simp at z0;omega
             have z3:w5.cell? ⟨w.heap.size,3,none⟩=some (.string fr):=(zai o2 McX).trans d3;have z5:w5.cell? ⟨T,5,none⟩=some (.slice D g.died.length dc):=(zai o2 McX).trans q5;refine NxM hK (λhHeld=>?_) (⟨z3,z5⟩);clear hK K;refine OnH 7 λK hK=>?_
             go_simp
             refine NxM hK (λhHeld=>?_) (⟨(zai (zad Qb _) z1).trans z3,(zai (zad Qb _) z2).trans z5⟩);clear hK K;refine OnH 8 λK hK=>?_
             have oK:Below wc.drew.heap.size wc.drew (w5.alloc (.cells #[.string fr] 9)):=(zad o2 _)
             refine zap (v:=.slice A5 g.died.length c5) (n:=g.died.length) (m:=1) rfl _ _ rfl zbL zaB zbK rfl (xs:=g.died) (ys:=[fr]) (o1.keep (n:=w5.heap.size) Bw) rfl rfl rfl (zcU (zas w5 _ _ McV)) Mc8 McS (by have:=z0;simp at this⊢;omega) ?_;exact Mt
            ·go_simp
             have pZ:Qa wc (wc.drew.alloc (.cells #[.string fr] 9)):=zad (zaF Qb) _;refine NxM hK (λhHeld=>?_) (⟨(zai pZ McS).trans d3,(zai pZ McS).trans q5⟩);clear hK K;refine OnH 4 λK hK=>?_
             go_simp
             have D3:=d3;have Q5:=q5;have d3:=(zai pZ McS).trans D3;have q5:=(zai pZ McS).trans Q5;refine(ew.o _ Bw).mono ?_;rintro e w5 ⟨hv,rfl,o1,o2⟩;obtain⟨A5,c5,tD,_,_⟩:=o1.sl zaB;subst tD;have z0:=o2.size;have z1:w.heap.size<w5.heap.size:=by simp at z0;omega
             have z2:T<w5.heap.size:=by simp at z0;omega
             have z3:w5.cell? ⟨w.heap.size,3,none⟩=some (.string fr):=(zai o2 McX).trans d3;have z5:w5.cell? ⟨T,5,none⟩=some (.slice D g.died.length dc):=(zai o2 McX).trans q5;have d3:=D3;have q5:=Q5;have rR:=pZ.trans (o2.mono McV);have Km:=(o2.block wc.heap.size McV).trans (zas wc.drew _ _ rfl);refine NxM hK (λhHeld=>?_) (⟨z3,z5⟩);clear hK K;refine OnH 8 λK hK=>?_
             have oK:Below wc.drew.heap.size wc.drew (w5):=⟨rR.os,rR.tape,rR.output,rR.size,rR.block⟩
             refine zap (v:=.slice A5 g.died.length c5) (n:=g.died.length) (m:=1) rfl _ _ rfl zbL zaB zbK rfl (xs:=g.died) (ys:=[fr]) (o1.keep (n:=w5.heap.size) Bw) rfl rfl rfl (zcU Km) Mc8 McS (by have:=z0;simp at this⊢;omega) ?_;exact Mt
          case rest=>
           obtain⟨A2,c2,cy,iu,eF,eO⟩:=hcut;obtain⟨W3,rfl⟩:∃x,x=wc:=⟨_,rfl⟩
           obtain⟨WR,rfl⟩:∃x,x=wr:=⟨_,rfl⟩
           have zp:=eO.size;have bx:=zab cy;have d3:W3.cell? ⟨w.heap.size,3,none⟩=some (.string fr):=(zai eO bA).trans e3;have pK:W3.cell? ⟨WR.heap.size,4,none⟩=some (.slice A1 g.holders.length c1):=MdD;obtain⟨ji,iT,lR,dA⟩:=death_bd (n:=fr) (hs:=EF.1) bh qT.o;have ou:∀W,Qa W3 W->_:=λW hB=>zev g.holders A1 c1 WR.heap.size fr W ((zai hB bx).trans pK) (Nat.lt_of_lt_of_le bx hB.size) McS bh.good.asc (Ro.sl zak (eF.ro'.keep hB))
           have iV:∀W,zbt W WR.heap.size g.place g.cls frm g.fin (.slice A1 g.holders.length c1) (.slice A2 (g.died.length+[fr].length) c2)->OwnS W WR.heap.size 55 3 zaa (.slice A1 g.holders.length c1) g.holders->Calls Tryz.prog 109 #[.pointer (some ⟨WR.heap.size,0,none⟩),.string fr,.agg #[.int .i64 0,.int .i64 1]] W (zk2 W WR.heap.size WR.heap.size g.place g.cls frm g.fin (.slice A2 (g.died.length+[fr].length) c2) (.slice A1 g.holders.length c1) (setP g.holders fr 0)):=λW h1 h2=>zi4 WR.heap.size WR.heap.size g.holders _ g.place g.cls frm g.fin _ fr 0 W h1 Qc h2 bh.good.asc McS
           obtain⟨own,aa⟩:=Qd (zah g.holders fr)
           rw[<-aa]at ou ji iT lR dA;obtain⟨gT,gN,dp,cR,fH,kB,eW,av⟩:=yH8 ou iV dA aa cy eF iu eO;clear ou iV dA aa cy eF iu eO pK;unfold zaA at gT
           go_upto_region 22 with(first
            |(go_at_call 110
              go_must(refine(gT.o _ Bw).mono ?_)
              rintro e wq ⟨rfl,z,hz⟩;have cJ:Qa W3 wq:=(by rw[hz];exact Bw)
              have d3q:=(zai cJ (show w.heap.size<W3.heap.size by omega)).trans d3;have dlq:=cJ.size;have cK:w.heap.size<wq.heap.size:=McS;have ly:=zHi cJ
              clear hz cJ)
            |(go_at_call 109
              go_must(refine(gN.o _ ?q1 ?q2).mono ?_)
              case q1=>exact zal ((ly.o.block _ bx).trans fH.o)
              case q2=>exact kB.o.keep (n:=W3.heap.size) (zad ly.o _)
              rintro e wz ⟨rfl,v',t1,t2,t3,t4⟩;obtain⟨T1,T2,T3,T4⟩:=yH4 t1 t2 t3 t4
              clear t1 t2 t3 t4))
           have fj:Qa WR wz:=(av.o.trans ((zad ly.o _).mono McS)).trans T3.o;have zK:=fj.size;have x8:(wq.alloc (zbs own)).heap[WR.heap.size]?=some (.cells #[.string g.place,.int .i64 g.cls,.int .i64 frm,.int .i64 g.fin,.slice A1 g.holders.length c1,.slice A2 (g.died.length+[fr].length) c2] 78):=zal ((ly.o.block _ bx).trans fH.o);have wN:=kB.o.keep (n:=W3.heap.size) (zad ly.o (zbs own));have ww:=eW.o.keep (n:=W3.heap.size) (zad ly.o (zbs own));have cm:∀(j:Nat) (cur:Array Value) (t:TypeId) (f:Nat×Nat),(wq.alloc (zbs own)).heap[j]?=some (.cells cur t f)->t≠78->t≠55->wz.heap[j]?=(wq.alloc (zbs own)).heap[j]?:=λj cur t f hj n1 n2=>
            T4.o j (zab hj) (λe=>by rw[e,x8]at hj;simp only[Option.some.injEq,Obj.cells.injEq]at hj;exact n1 hj.2.1.symm) (zkT wN hj n2)
           have FX:OwnS wz WR.heap.size 9 1 sC (.slice A2 (g.died.length+[fr].length) c2) (g.died++[fr]):=ww.same (λj cur _ hj=>cm j cur _ _ hj McU McU);have Av:wz.heap[wq.heap.size]?=some (zbs own):=(cm _ _ _ _ (zas wq (zbs own) _ rfl) McU McU).trans (zas wq (zbs own) _ rfl);have Gr:MarkAt wz (w.heap.size+1) nx.2:=HM.o.keep fj (zab HM.o);have sR:WR.grownBy wz (some (w.heap.size+1)):=⟨fj.os,fj.tape,fj.output,fj.size,λk hk _=>fj.block k hk⟩
           have yb:=zi0 (n:=fr) (q:=0) (l:=g.holders);have Kp:WR.heap.size<wq.heap.size:=by have:=ly.o.size;omega
           have gn:=zab HM.o;obtain⟨O,hO⟩:=Qd wq.heap.size
           rw[<-hO]at Av Kp⊢;have hOz:=zab Av;obtain⟨dN,vj,vp,C0,vw,pT⟩:=yH6 fj FX Av Gr sR yb;clear fj FX Av Gr sR cm x8 wN ww yb d3q dlq hO d3 ly T3 T4 gT gN cK;go_upto_block 4 with fail
           go_cut [18,19,103]from 104 to 124 (λ_ _ _ W=>∃v out fl,Hid ((out,fl)=zd3 fr EF.1 g nx.2)/\MarkAt W (w.heap.size+1) fl/\zbt W WR.heap.size g.place g.cls frm g.fin v (.slice A2 (g.died.length+[fr].length) c2)/\OwnS W WR.heap.size 55 3 zaa v out/\OwnS W WR.heap.size 9 1 sC (.slice A2 (g.died.length+[fr].length) c2) (g.died++[fr])/\WR.grownBy W (some (w.heap.size+1)))
           case first=>
            clear oL HC HP HT HW dq oE eL c0 c6 aN pU S2 bi bk aM HE vl oH vn jm lZ HZ rg oC gx jr HO ll au aR Kc ij mu gJ y4 oA d3 q5 dt HN HF e3 i0 m0 m1 m2 m3 m4 m5 lA Di lV qJ kD EP eW av dV wW;go_wp2_with fail
            go_loopw [103] (λi W=>∃(k:Nat) (v:Value) (out:Parts) (fl:Bool),k<=EF.1.length/\i=.int .i64 k/\Hid ((out,fl)=zei own (EF.1.take k) (setP g.holders fr 0,nx.2))/\Hid (out.length<=g.holders.length+1+k)/\MarkAt W (w.heap.size+1) fl/\zbt W WR.heap.size g.place g.cls frm g.fin v (.slice A2 (g.died.length+[fr].length) c2)/\OwnS W WR.heap.size 55 3 zaa v out/\OwnS W WR.heap.size 9 1 sC (.slice A2 (g.died.length+[fr].length) c2) (g.died++[fr])/\WR.grownBy W (some (w.heap.size+1))/\W.heap[O]?=some (zbs own)) (λi _=>EF.1.length-(intOf i).toNat)
            case atStart=>exact⟨0,v',setP g.holders fr 0,nx.2,Nat.zero_le _,rfl,rfl,pT.o,C0.o,T1.o,T2.o,vj.o,vw.o,vp.o⟩
            case round=>
             obtain⟨k,v,out,fl,hk,rfl,oP,cG,hm,cy,eF,iu,dD,kO⟩:=hrel;clear pT C0 T1 T2 vj vw vp dN;obtain⟨A3,c3,rfl,rZ,mT⟩:=eF.sl zak;have dA:Bd out 1:=by have:=dp.o nx.2 k;rw[<-oP.o]at this;exact this
             have Ar:=vm.o.grown dD (.inr λe=>by have:=(vm.o.ge _ e).1;omega);have zH:=zab cy;have wL:=zab kO;have LF:=zab hm;have pK:wr.cell? ⟨WR.heap.size,4,none⟩=some (.slice A3 out.length c3):=MdD;obtain⟨HD,Fn,rH,iC,qR,eJ,tR,Jn⟩:=yH8 dA hm cy eF iu dD kO rZ;have HE3:=zHi Ar;clear dA hm cy eF iu kO rZ dD;by_cases nt:k<EF.1.length
             ·obtain⟨b',off,rfl,cA,hc⟩:=(Ar.sl' zak).at nt;obtain⟨jl,ei,eG⟩:=zdK qT.o (List.getElem_mem nt);have aI:=zpz own EF.1 (setP g.holders fr 0,nx.2) nt;rw[<-oP.o]at aI;have uA:EF.1.length<=en:=by
               obtain⟨A',c',e',_,h'⟩:=Ar.sl zak;exact Mbt
              generalize EF.1[k]=p at*;obtain⟨pn,q⟩:=p;simp only at jl ei eG;have i0:wr.cell? ⟨b',off+k*3,none⟩=some (.string pn):=hc 0 _ rfl;have i1:wr.cell? ⟨b',off+k*3+1,none⟩=some (.int .i64 q.num):=hc 1 _ rfl;have i2:wr.cell? ⟨b',off+k*3+2,none⟩=some (.int .i64 q.den):=hc 2 _ rfl;have o0:wr.cell? ⟨O,0,none⟩=some (.int .i64 own.num):=by simp only[World.cell?,tR.o,zbs];rfl
              have o1:wr.cell? ⟨O,1,none⟩=some (.int .i64 own.den):=by simp only[World.cell?,tR.o,zbs];rfl
              have xJ:zaJ (zbi (own*q)):=zca (zcw (Rat.mul_nonneg ji (Rat.le_of_lt jl))) (Rat.le_trans (zhe (Rat.mul_nonneg ji (Rat.le_of_lt jl))) (zjU ji lR (Rat.le_of_lt jl) ei)) (zgn _);obtain⟨dq,BK,rm⟩:=yH3 aI xJ nt;have kV:wrap64 ((k:Int)+1)=(k:Int)+1:=by
               have:=eX.o;unfold wrap64;omega
              have Cq:=zHi kV;clear kV;have yv:∀W,MarkAt W (w.heap.size+1) fl->Calls Tryz.prog 113 #[.pointer (some ⟨w.heap.size+1,0,none⟩),.agg #[.int .i64 own.num,.int .i64 own.den],.agg #[.int .i64 q.num,.int .i64 q.den]] W (zeE W (w.heap.size+1) fl (own*q)):=λW h=>zhR (w.heap.size+1) fl W h own q iT eG
              have BZ:=zHi yv;have xU:(k:Int)<(EF.1.length:Int):=McS;have Lo:(0:Int)<=(k:Int):=McS;have Ls:(k:Int)<=(en:Int):=McS;have hOn:O≠wr.heap.size:=McS;have pk:out.length<=90000:=by have:=cG.o;have:=eX.o;omega
              have uF:w.heap.size+1≠wr.heap.size:=McS;clear hc aI xJ jl ei yv uA Ar
              go_wp2_with (go_at_call 113
                           go_must(refine(BZ.o _ (Fn.o.alloc _)).mono ?_)
                           rintro e wq ⟨rfl,m1,m2⟩;have jV:=m2.size;have y0:wq.heap[wr.heap.size]?=some (.cells #[.string pn,.int .i64 q.num,.int .i64 q.den] 55):=(m2.block _ McV McX).trans (zas _ _ _ rfl);have y1:wq.cell? ⟨wr.heap.size,0,none⟩=some (.string pn):=(by simp only[World.cell?,y0];rfl)
                           have y3:wr.heap.size<wq.heap.size:=zab y0;obtain⟨M1,M2⟩:=yH2 m1 m2;clear m1 m2 y0
                           simp only[zaA])
              have wJ:OwnS wq WR.heap.size 55 3 zaa (.slice A3 out.length c3) out:=OwnS.grown (W:=wr.alloc _) (iC.o.keep (n:=wr.heap.size) (zad Qb _)) M2.o (.inr λe=>by have:=(iC.o.ge _ e).1;omega);have mN:zbt wq WR.heap.size g.place g.cls frm g.fin (.slice A3 out.length c3) (.slice A2 (g.died.length+[fr].length) c2):=(M2.o.block _ McX McX).trans (zal rH.o);have F0:wq.cell? ⟨WR.heap.size,4,none⟩=some (.slice A3 out.length c3):=by unfold zbt at mN;simp only[World.cell?,mN];rfl
              have br:WR.heap.size<wq.heap.size:=zab mN;obtain⟨OQ,TQ⟩:=yH2 wJ mN;have nJ:zaJ (zah out pn):=HD.o.share Rat.le_refl pn;generalize eQ:zbi (own*q)=gt at*;generalize hsv2:zah out pn=sv at*;obtain⟨vv,vZ,eZ⟩:=yH3 eQ hsv2 nJ;have Nl:wr.heap.size≠wq.heap.size:=McS;have Ir:WR.heap.size≠wq.heap.size:=McS;clear wJ mN nJ eQ hsv2 i0 i1 i2 o0 o1;go_region_held3 (λw'=>w'.cell? ⟨wr.heap.size,0,none⟩=some (.string pn)/\w'.cell? ⟨wq.heap.size,0,none⟩=some (.int .i64 gt.num)/\w'.cell? ⟨wq.heap.size,1,none⟩=some (.int .i64 gt.den))
               ((refine⟨?_,?_,?_⟩<;>first|assumption|(simp[go_sem,y1,y3];done)))
               (first
                 |(go_at_call 110
                   go_loud(refine(zev out A3 c3 WR.heap.size pn _ ?q1 ?q2 McS HD.o.good.asc (Sl.keep (OQ.o.sl' zak) (n:=wq.heap.size) Bw)).mono ?_)
                   case q1=>simp[go_sem,F0,br]
                   case q2=>simp;omega
                   rintro e w5 ⟨rfl,zs,rfl⟩;rw[vZ.o]
                   simp only[zaA])
                 |(go_at_call 114
                   go_loud(refine(zhS (w.heap.size+1) (fl||bigQ (own*q)) _ ?q3 sv gt eZ.o BK.o).mono ?_)
                   case q3=>(repeat(first|exact M1.o|refine MarkAt.ext ?_ _|refine MarkAt.drew ?_|refine MarkAt.alloc ?_ _))
                   rintro e w6 ⟨rfl,n1,n2⟩;have p3:w6.cell? ⟨wr.heap.size,0,none⟩=some (.string pn):=Md0;have p0:w6.cell? ⟨wq.heap.size,0,none⟩=some (.int .i64 gt.num):=Mdt;have p1:w6.cell? ⟨wq.heap.size,1,none⟩=some (.int .i64 gt.den):=Mdt;obtain⟨N1,N2⟩:=yH2 n1 n2;clear n1 n2
                   simp only[zaA])
                 |(go_at_call 109
                   go_loud(refine(zi4 WR.heap.size WR.heap.size out (.slice A3 out.length c3) g.place g.cls frm g.fin (.slice A2 (g.died.length+[fr].length) c2) pn (zbi (sv+gt)) _ ?q4 Qc ?q5 HD.o.good.asc pk).mono ?_)
                   case q4=>exact(N2.o.block _ Mc1 McX).trans MdR
                   case q5=>exact OwnS.grown (OQ.o.keep (n:=wq.heap.size) Bw) N2.o (.inr λe=>by have:=(OQ.o.ge _ e).1;omega)
                   rintro e wz ⟨rfl,v',t1,t2,t3,t4⟩;have s3:wz.cell? ⟨wr.heap.size,0,none⟩=some (.string pn):=(World.cell?_of_block (w:=w6) (t4 wr.heap.size Mdq McS (λe=>by have:=(iC.o.ge _ e).2;omega))).trans p3;have s0:wz.cell? ⟨wq.heap.size,0,none⟩=some (.int .i64 gt.num):=(World.cell?_of_block (w:=w6) (t4 wq.heap.size Mdq McS (λe=>by have:=(iC.o.ge _ e).2;omega))).trans p0;have s1:wz.cell? ⟨wq.heap.size,1,none⟩=some (.int .i64 gt.den):=(World.cell?_of_block (w:=w6) (t4 wq.heap.size Mdq McS (λe=>by have:=(iC.o.ge _ e).2;omega))).trans p1;obtain⟨T1,T2,T3,T4⟩:=yH4 t1 t2 t3 t4
                   clear t1 t2 t3 t4))
              have BH:Hid (zfe own (pn,q) (out,fl)=(setP out pn (zbi (sv+gt)),fl||bigQ (own*q)||bigQ (sv+gt))):=by
               show _=_;unfold zfe;simp only[vv.o,vZ.o]
              have cu:MarkAt wz (w.heap.size+1) (fl||bigQ (own*q)||bigQ (sv+gt)):=N1.o.keep T3.o McS;have iS:=zi0 (n:=pn) (q:=zbi (sv+gt)) (l:=out);have h6:wr.grownBy w6 (some (w.heap.size+1)):=zbm (zkc (zad (Below.refl wr.heap.size wr) _) Qc M2.o) (zkc (n:=wq.heap.size) (W:=((wq.alloc (zbs gt)).drew).ext zs) Bw Qc N2.o);have ii:=h6.size;have Ii:w6.heap[WR.heap.size]?=some (.cells #[.string g.place,.int .i64 g.cls,.int .i64 frm,.int .i64 g.fin,.slice A3 out.length c3,.slice A2 (g.died.length+[fr].length) c2] 78):=(h6.block _ zH McX).trans rH.o;have qt:OwnS w6 WR.heap.size 55 3 zaa (.slice A3 out.length c3) out:=iC.o.grown h6 (.inr λe=>by have:=(iC.o.ge _ e).1;omega);have H9:=qR.o.grown h6 (.inr λe=>by have:=(qR.o.ge _ e).1;omega);have DQ:w6.heap[O]?=some (zbs own):=(h6.block O wL McX).trans tR.o;have cm:∀(j:Nat) (cur:Array Value) (t:TypeId) (f:Nat×Nat),w6.heap[j]?=some (.cells cur t f)->t≠78->t≠55->wz.heap[j]?=w6.heap[j]?:=λj cur t f hj n1 n2=>
               T4.o j (zab hj) (λe=>by rw[e,Ii]at hj;simp only[Option.some.injEq,Obj.cells.injEq]at hj;exact n1 hj.2.1.symm) (zkT qt hj n2)
              have Hb:=H9.same (W':=wz) (λj cur _ hj=>cm j cur _ _ hj McU McU);have DT:wz.heap[O]?=some (zbs own):=(cm _ _ _ _ DQ McU McU).trans DQ;have sR:WR.grownBy wz (some (w.heap.size+1)):=zp1 (zbm eJ.o h6) T3.o Qc;obtain⟨C2,fS,vj,vp,vw⟩:=yH5 cu iS Hb DT sR;clear cu iS h6 Ii qt H9 DQ cm Hb DT sR p3 p0 p1 s3 s0 s1 y1;go_wp2_with fail
              go_round
              case rel=>
               have hel:=eX.o;have nt:=rm.o;have qj:=BH.o.symm.trans dq.o.symm;have eS:(setP out pn (zbi (sv+gt))).length<=g.holders.length+1+(k+1):=by have:=fS.o;have:=cG.o;omega
               exact⟨k+1,v',setP out pn (zbi (sv+gt)),_,rm.o,by rw[Cq.o];rfl,qj,eS,C2.o,T1.o,T2.o,vj.o,vw.o,vp.o⟩
              case measure=>rw[Cq.o];have:=rm.o;simp only[intOf];omega
             ·have au:¬(k:Int)<(EF.1.length:Int):=McS;have ow:(out,fl)=zd3 fr EF.1 g nx.2:=by
               rw[oP.o,List.take_of_length_le McS];unfold zd3;rw[<-cR.o]
              have Ag:=zHi ow;clear ow oP dp;go_wp2_with fail
              go_meet
              exact⟨_,out,fl,Ag.o,Fn.o,rH.o,iC.o,qR.o,eJ.o⟩
           case rest=>
            obtain⟨v9,out,fl,Ag,hm,cy,eF,iu,dD⟩:=hcut;obtain⟨W4,rfl⟩:∃x,x=wc:=⟨_,rfl⟩
            obtain⟨A3,c3,rfl,_,mT⟩:=eF.sl zak;have lI:(g.died++[fr]).length<=c2:=by
             obtain⟨A',c',e',_,h'⟩:=iu.sl zaB;exact Mbt
            have hg4:=dD.size;have jS:=cy;unfold zbt at jS;obtain⟨m0,m1,m2,m3,m4,m5⟩:=cF6 jS;obtain⟨E,hE⟩:∃E:Tm,E=(⟨g.place,g.cls,g.fin,out,g.died++[fr]⟩,frm,(A3,c3),(A2,c2)):=⟨_,rfl⟩
            have FZ:(tmC E).toArray= #[.string g.place,.int .i64 g.cls,.int .i64 frm,.int .i64 g.fin,.slice A3 out.length c3,.slice A2 (g.died.length+[fr].length) c2]:=by rw[hE];simp[tmC]
            have Gs:=HN.o.grown dD (.inr λe=>by have:=(HN.o.ge _ e).1;omega);have DP:es.length<=1000:=by have:=gJ.o;omega
            obtain⟨C3,IR,Fb,Fo,C8,vg,Fd,IO⟩:=yH8 Gs FZ hE hm eF iu dD lI;clear Gs FZ hE hm cy eF iu dD jS dp pT vj vp C0 vw dN T1 T2 fH kB eW av d3 q5 oA Ct qJ kD lI;go_upto_region 28 with fail
            go_wp2_with (at_builtin
                         go_loud(refine zar (v:=.slice NA es.length nc) (n:=es.length) (m:=1) rfl _ _ rfl elTm zo6 tm_one rfl (xs:=es) (ys:=[E]) (C3.o.keep (n:=W4.heap.size) Bw) rfl rfl rfl (sl_tm (by rw[IR.o];exact zas _ _ _ McV)) Mc8 McS McX ?_)
                         intro v5 w5 h1 h2 h3;obtain⟨H1,H2⟩:=yH2 h1 h2
                         clear h1 h2 h3)
            have kV:wrap64 ((j:Int)+1)=(j:Int)+1:=by
             unfold wrap64;omega
            obtain⟨Cq,aj⟩:=yH2 kV ae;clear kV;go_wp2_with fail
            go_round
            case rel=>
             have EN:=H2.o.size;simp only[World.size_alloc]at EN;have Ko:=C3.o;have I2:=HM.o;unfold MarkAt at I2;have Lp:∀(k:Nat) (cur:Array Value) (t:TypeId) (f:Nat×Nat),WR.heap[k]?=some (.cells cur t f)->t≠167->W4.heap[k]?=WR.heap[k]?:=λk cur t f hk n1=>
              Fd.o.block k (zab hk) (λe=>by
               simp only[Option.some.injEq]at e;rw[e,I2]at hk;simp only[Option.some.injEq,Obj.cells.injEq]at hk
               exact n1 hk.2.1.symm)
             have AW:∀(k:Nat) (cur:Array Value) (t:TypeId) (f:Nat×Nat),W4.heap[k]?=some (.cells cur t f)->t≠78->w5.heap[k]?=W4.heap[k]?:=λk cur t f hk n1=>by
              have hl:=zab hk;have a1:=H2.o.block k McX (λe=>zkT Ko hk n1 e.symm);exact a1.trans (Below.heap_alloc _ _ _ hl)
             have fw:∀(k:Nat) (cur:Array Value) (t:TypeId) (f:Nat×Nat),WR.heap[k]?=some (.cells cur t f)->t≠167->t≠78->w5.heap[k]?=WR.heap[k]?:=λk cur t f hk n1 n2=>by
              have a1:=Lp k cur t f hk n1;exact(AW k cur t f (a1.trans hk) n2).trans a1
             have DD:Qa w w5:=Below.grown (a:=w) (B:=w.heap.size) (zad (zaV HF.o Fd.o McS) _ McS) H2.o McX (λk hk=>by have:=(C3.o.ge k hk).1;omega);refine⟨j+1,es++[E],aj.o,by go_num,H1.o,?_,?_,?_,DD,?_,?_,?_,by omega⟩
             ·show _=_;rw[cM.o,<-Ag.o,List.map_append,ij.o,Fb.o];rfl
             ·show∀e∈es++[E],TmOk w5 w.heap.size e;intro e he;rcases List.mem_append.1 he with he|he
              ·refine(dt.o e he).same λk cur t f hk ht=>fw k cur t f hk ?_ ?_
               ·rcases ht with rfl|rfl<;>decide
               ·rcases ht with rfl|rfl<;>decide
              ·rw[List.mem_singleton.1 he,Fb.o];refine⟨C8.o.ro'.same λk cur f hk _=>AW k cur _ f hk McU,mT,vg.o.ro'.same λk cur f hk _=>AW k cur _ f hk McU,IO.o,λa ha=>?_⟩;have ha:A2=some a:=ha;have:=(vg.o.ge a.block (by rw[ha];rfl)).1;omega
             ·rw[cM.o,<-Ag.o];exact(AW _ _ _ _ Fo.o McU).trans Fo.o
             ·exact(fw _ _ _ _ gI.o McU McU).trans gI.o
             ·exact dV.o.same λk cur _ hk=>fw k cur _ _ hk McU McU
             ·exact vm.o.same λk cur _ hk=>fw k cur _ _ hk McU McU
            case measure=>have:=aj.o;simp only[intOf];omega
        ·have au:¬(j:Int)<(HL.length:Int):=McS;have cO:aI.take j=aI:=List.take_of_length_le McS;have He:es.length=HL.length:=McS;rw[cO]at ij HM;have IT:=zHi He;clear cO He sK aa hm hF hD hO hE dZ;go_wp2_with fail
         go_meet
         exact⟨NA,nc,es,by rw[IT.o],HN.o,ij.o,dt.o,HM.o,HF.o,gI.o,dV.o⟩
      case rest=>
       obtain⟨NA,nn,es,rfl,jP,iv,bE,hm,hF,hD,hO⟩:=hcut;obtain⟨W6,rfl⟩:∃x,x=wc:=⟨_,rfl⟩
       have zf:=zfZ fr dy EF.1 s.graves [] EF.2;have bp:W6.cell? ⟨w.heap.size+1,0,none⟩=some (.bool (zcZ fr EF.1 aI EF.2).2):=(zbT hm).1;have LG:=zab hm;have xE:es.length=HL.length:=by
        have h1:=congrArg List.length iv;rw[List.length_map,zkO]at h1;have:=oC.o;omega
       have mP:s.graves.any (zcA fr dy)=true:=by
        cases hc:s.graves.any (zcA fr dy)
        ·have h1:=jr.o;rw[List.filter_eq_nil_iff.2 (λx hx=>by have:=List.any_eq_false.1 hc x hx;simpa using this)]at h1;have:=oC.o;rw[<-h1]at this;exact absurd this HZ.o
        ·rfl
       rw[List.nil_append,List.nil_append,List.length_nil,jr.o]at zf;have hX:=HX.o;rw[mP,<-zf.1,<-zf.2,<-iv]at hX;simp only[Bool.false_eq_true,if_false,if_true]at hX;have du:=zHi hX;generalize(zcZ fr EF.1 aI EF.2).2=fl at*;obtain⟨ij,gJ,dt,qW,IN,eA,rp,vz⟩:=yH8 iv xE bE hF hD hO jP (λj hj=>ri.o w Qb j hj);have vt:Hid ((s.graves.filter (zcA fr dy)).length=HL.length):=by show _=_;rw[jr.o,oC.o]
       clear zf mP hX iv bE hm hF hD hO jP xE HX ri lZ HM bk HO HD ll vl oH zO vn rg qT eX HE gx jr;cases fl
       ·have sk:=du.o;simp only[Bool.false_eq_true,if_false]at sk;have kF:=zHi sk;clear sk du;have ii:=qW.o.size;have BE:∃HI,HI=zbf fr dy 0 s.graves:=⟨_,rfl⟩
        obtain⟨HI,CO⟩:=BE;rw[<-CO]at kF vz;have lL:HI.length=HL.length:=by
         rw[CO,zfB,vt.o]
        have ix:HL.length<=nn:=by
         obtain⟨A',c',e',_,h'⟩:=rp.o.sl zo6;simp only[Value.slice.injEq]at e';have:=gJ.o;omega
        have AU:HL.length<=hn:=by
         obtain⟨A',c',e',_,h'⟩:=eA.o.sl zcK;exact Mbt
        obtain⟨zW,Jk,BM⟩:=yH3 lL ix AU;clear CO lL ix AU vt;go_wp2_with fail
        go_loopw [129] (λi wr=>∃j:Nat,j<=HL.length/\i=.int .i64 j/\Hid (WldC wr b dd cc pp wl rr mv (.slice TA ps.length tc) la co)/\Hid (PplAt base wr Bk dd cc pp wl rr mv s)/\Hid (TombsAt base wr Bk (.slice TA ps.length tc) ps (zd4 s.graves (HI.take j) ((es.map (·.1)).take j)))/\Hid (Below base w wr)/\wr.heap[w.heap.size]?=some (.cells #[.int .i64 kd,.int .i64 dy,.string pl,.string fr,.slice B ts.length c,.int .i64 cl,.int .i64 yr] 60)/\Hid (KeepD w wr)/\OwnS wr (w.heap.size+1+1) 76 1 ptrC (.slice HA HL.length hn) HL/\OwnS wr (w.heap.size+1+1) 78 6 tmC (.slice NA HL.length nn) es/\Hid (∀e∈es,TmOk wr w.heap.size e)/\w.heap.size<=wr.heap.size) (λi _=>HL.length-(intOf i).toNat)
        case atStart=>exact⟨0,Nat.zero_le _,rfl,HC.o.keep qW.o,HP.o.keep qW.o,HT.o.keep qW.o,qW.o.mono McS,IN.o,KeepD.below qW.o,eA.o,by rw[<-gJ.o]at*;exact rp.o,dt.o,ii⟩
        case round=>
         obtain⟨j,hj,rfl,F9,pV,nS,bT,CH,vC,Az,wH,vN,jn⟩:=hrel;obtain⟨BA,vM,Fq⟩:=yH3 CH Az wH;by_cases ae:j<HL.length
         ·have pw:j<es.length:=by have:=gJ.o;omega
          obtain⟨i,g,hi,gB,aH,_,gA⟩:=vz.o j ae;have GI:HL[j]<w.heap.size:=by obtain⟨_,_,_,_,_,t1,_⟩:=gA;exact zab t1
          obtain⟨cA,d8,CQ,sF,wC⟩:=(Az.sl' zcK).at ae;subst CQ;have i0:wr.cell? ⟨cA,d8+j,none⟩=some (.pointer (some ⟨HL[j],0,none⟩)):=by have:=wC 0 _ rfl;simpa using this
          obtain⟨nb,noff,Kn,kP,rX⟩:=(wH.sl' zo6).at pw;subst Kn;have bE:=vN.o es[j] (List.getElem_mem pw);have eR:i<(zd4 s.graves (HI.take j) ((es.map (·.1)).take j)).length:=by rw[zjZ];exact(List.getElem?_eq_some_iff.1 aH).1
          obtain⟨H,aE,D,dc,frm,t1,t2,_⟩:=nS.o.all i _ _ gB (List.getElem?_eq_getElem eR);have bC:zd4 s.graves (HI.take (j+1)) ((es.map (·.1)).take (j+1))=(zd4 s.graves (HI.take j) ((es.map (·.1)).take j)).set i es[j].1:=by
           have Hp:j<HI.length:=by have:=zW.o;omega
           have Lj:j<(es.map (·.1)).length:=by rw[List.length_map];exact pw
           have Ke:HI[j]=i:=by
            rw[List.getElem?_eq_getElem Hp]at hi;exact Option.some.inj hi
           rw[List.take_succ_eq_append_getElem Hp,List.take_succ_eq_append_getElem Lj,List.getElem_map,Ke];exact ziW _ _ _ _ _ (by rw[List.length_take,List.length_take];omega)
          obtain⟨cM,ru,mB⟩:=yH3 bC gB bE;generalize HL[j]=T at*;generalize hE:es[j]=E at*;obtain⟨⟨gp,gc,gf,gh,gd⟩,efr,⟨EH,ehc⟩,⟨ED,edc⟩⟩:=E;have n0:wr.cell? ⟨nb,noff+j*6,none⟩=some (.string gp):=rX 0 _ rfl;have n1:wr.cell? ⟨nb,noff+j*6+1,none⟩=some (.int .i64 gc):=rX 1 _ rfl;have n2:wr.cell? ⟨nb,noff+j*6+2,none⟩=some (.int .i64 efr):=rX 2 _ rfl;have n3:wr.cell? ⟨nb,noff+j*6+3,none⟩=some (.int .i64 gf):=rX 3 _ rfl;have n4:wr.cell? ⟨nb,noff+j*6+4,none⟩=some (.slice EH gh.length ehc):=rX 4 _ rfl;have n5:wr.cell? ⟨nb,noff+j*6+5,none⟩=some (.slice ED gd.length edc):=rX 5 _ rfl;have cz:=zab t1;have eN:=zHi t1;unfold zbt at t1;generalize bh:(zd4 s.graves (HI.take j) ((es.map (·.1)).take j))[i]=gg at*;obtain⟨z0,z1,z2,z3,z4,z5⟩:=cF6 t1;have fz:∀j,wr.frozen? ⟨T,j,none⟩=false:=λj=>by simp only[World.frozen?,t1];rfl
          have au:(j:Int)<(HL.length:Int):=McS;have aR:(0:Int)<=(j:Int):=McS;have hkh:(j:Int)<=(hn:Int):=by have:=BM.o;omega
          have jL:(j:Int)<=(nn:Int):=by have:=Jk.o;omega
          have hnT:nb≠T:=by
           have:=(wH.ge nb rfl).1;omega
          obtain⟨aj,rG⟩:=yH2 ae GI;clear bh hE bC gB bE wC rX hi aH gA t1 CH Az wH eR pw;go_wp2_with fail
          go_round
          case rel=>
           have hg:=zcb wr T (.string gp) (.int .i64 gc) (.int .i64 efr) (.int .i64 gf) (.slice EH gh.length ehc) (.slice ED gd.length edc);have Kz:=ziF (show wr.heap[T]?=some (.cells #[.string gg.place,.int .i64 gg.cls,.int .i64 frm,.int .i64 gg.fin,.slice H gg.holders.length aE,.slice D gg.died.length dc] 78) from eN.o) (.string gp) (.int .i64 gc) (.int .i64 efr) (.int .i64 gf) (.slice EH gh.length ehc) (.slice ED gd.length edc);have GI:=rG.o;have AX:∀(k:Nat) (cur:Array Value) (t:TypeId) (f:Nat×Nat),wr.heap[k]?=some (.cells cur t f)->t=55\/t=9->((((((wr.setCell ⟨T,0,none⟩ (.string gp)).setCell ⟨T,1,none⟩ (.int .i64 gc)).setCell ⟨T,2,none⟩ (.int .i64 efr)).setCell ⟨T,3,none⟩ (.int .i64 gf)).setCell ⟨T,4,none⟩ (.slice EH gh.length ehc)).setCell ⟨T,5,none⟩ (.slice ED gd.length edc)).heap[k]?=wr.heap[k]?:=λk cur t f hk ht=>
            hg.block k (zab hk) (λe=>by
             simp only[Option.some.injEq]at e;rw[e,show wr.heap[T]?=_ from eN.o]at hk;simp only[Option.some.injEq,Obj.cells.injEq]at hk;rw[<-hk.2.1]at ht;revert ht
             decide)
           have hN:TombAt ((((((wr.setCell ⟨T,0,none⟩ (.string gp)).setCell ⟨T,1,none⟩ (.int .i64 gc)).setCell ⟨T,2,none⟩ (.int .i64 efr)).setCell ⟨T,3,none⟩ (.int .i64 gf)).setCell ⟨T,4,none⟩ (.slice EH gh.length ehc)).setCell ⟨T,5,none⟩ (.slice ED gd.length edc)) base Bk T ⟨gp,gc,gf,gh,gd⟩:=
            ⟨EH,ehc,ED,edc,efr,Kz,t2,mB.o.hc,mB.o.dc,mB.o.hs.kept hg eN.o McU,mB.o.ds.kept hg eN.o McU,λ_ a ha hb=>by
              have h1:=mB.o.ge a ha;have h2:=ppl_rows HP.o _ hb
              omega⟩
           refine⟨j+1,aj.o,by go_num,wldC_tomb F9.o eN.o hg,pV.o.kept hg eN.o McU McU McU,?_,zaV bT.o hg t2 McS,(hg.block _ (zab BA.o) McX).trans BA.o,vC.o.trans (KeepD.cells hg eN.o McU),vM.o.kept hg eN.o McU,Fq.o.grown hg (.inr λe=>by have:=(Fq.o.ge _ e).1;omega),λe he=>(vN.o e he).same AX,Nat.le_trans jn hg.size⟩;show TombsAt _ _ _ _ _ _;rw[cM.o];exact znx nS.o ru.o eN.o hg hN
          case measure=>have:=aj.o;simp only[intOf];omega
         ·have au:¬(j:Int)<(HL.length:Int):=McS;have h1:HI.take j=HI:=List.take_of_length_le (by have:=zW.o;omega);have h2:(es.map (·.1)).take j=es.map (·.1):=List.take_of_length_le (by have:=gJ.o;rw[List.length_map];omega);rw[h1,h2]at nS;clear h1 h2 CH Az wH;go_wp2_with fail
          go_meet
          exact⟨_,kF.o,⟨Bk,dd,cc,pp,wl,rr,mv,_,ps,ba,F9.o,⟨pV.o.nd,pV.o.ge,pV.o.dead,pV.o.rows,pV.o.marr,pV.o.wills,pV.o.ren⟩,nS.o⟩,bT.o,BA.o,vC.o⟩
       ·have sk:=du.o;simp only[if_true]at sk;have kF:=zHi sk;clear sk du;go_wp2_with fail
        go_ret
        exact zbN HW.o qW.o kF.o
   case rest=>
    obtain⟨gs,aw,KF,eO,Aq,Kj⟩:=hcut;have J5:=zHi Kj;obtain⟨W9,rfl⟩:∃x,x=wc:=⟨_,rfl⟩
    obtain⟨Bk',d',c',p',wl',r',mv',tv',ps',eC,cH,gX,gz⟩:=KF;have sF:=zab cH;have bA:=zab Aq;obtain⟨II,C9,Fx,gw⟩:=yH4 cH gX gz eO;unfold WldC at cH;obtain z0:=cF1 cH;obtain⟨-,-,-,z3⟩:=cF4 Aq;obtain⟨es,ec,hx⟩:=zbz gX.dead;have oP:=zHi hx;have kN:=gX.dead.at.lt;have dA:b≠d':=λe=>by subst e;rw[cH]at hx;simp at hx
    have EW:w.heap.size≠d':=λe=>by rw[<-e,Aq]at hx;simp at hx
    clear cH gX gz eO Aq hx;go_upto_region 37 with fail
    refine wp_region_held_drew (S:=(λw'=>w'.cell? ⟨b,0,none⟩=some (.map (some d'))/\w'.cell? ⟨w.heap.size,3,none⟩=some (.string fr))) McT ?hS ?hrest
    case hS=>exact⟨z0,z3⟩
    case hrest=>
     intro hHeld;refine TkH 0 ?_;refine TkH 1 ?_;refine TkH 2 ?_;refine TkH 3 ?_;refine TkH 4 ?_;refine TkH 5 ?_;refine TkH 6 ?_;refine OnH 7 λK hK=>?_
     obtain⟨w6,hrun,jh,bF,ii⟩:=zcv (w:=W9.drew) zoV (C9.o.dead.keep (w':=W9.drew) rfl) fr true;refine zde rfl _ _ _ rfl _ _ _ rfl rfl rfl w6 hrun ?_;have pf:W9.grownBy w6 (some d'):=⟨bF.os,bF.tape,bF.output,bF.size,bF.block⟩
     have p6:w6.cell? ⟨b,0,none⟩=some (.map (some d')):=(zbd pf sF dA).trans z0;have q6:w6.cell? ⟨w.heap.size,3,none⟩=some (.string fr):=(zbd pf bA EW).trans z3;obtain⟨vG,jY⟩:=yH2 jh pf;clear jh bF pf hrun;refine hK.out _ _ ?_ (λhHeld=>?_);focus((try dsimp only);refine⟨?_,?_⟩<;>assumption)
     clear hK K;try simp only[Act.put,List.setIfInBounds_toArray,List.set_cons_zero,List.set_cons_succ]
     refine wpAnyH_done McT ?_ _;go_wp2_with fail
     go_ret
     rw[aw.o];have fL:=C9.o.ge;have uF:mput eqS fr true (s.dead.map λn=>(n,true))=(s.dead++[fr]).map λn=>(n,true):=by
      have hz:=ziP (eq:=eqS) (k:=fr) (l:=s.dead) (by rw[zhP];exact sI);rw[zkD hz];simp
     have ta:MapS w6 d' ekS evB ((s.dead++[fr]).map λn=>(n,true)):=by
      rw[<-uF];exact vG.o
     exact⟨rfl,znl eC II.o Fx.o jY.o oP.o rfl (ppl_dead C9.o jY.o ta),zaV gw.o jY.o fL.1 (by have:=HW.o.lt;omega),J5.o.trans (KeepD.map jY.o oP.o)⟩
 ·go_quiet (fail)
  go_wp2_with fail
  go_ret
  exact zbN HW.o Bw HX.o

import Derived.Test.YtegdimedhfafjaaGreatDoorWY
import Derived.Test.YtegdimedhfafjaaGreatDoorAZ
set_option linter.all false
set_option maxRecDepth 100000
set_option maxHeartbeats 4000000
namespace Go.Proofs.YtegdimedhfafjaaGreatDoor
open Go.RowKit Go.Shelf
attribute [local go_sem] World.cell?_alloc_mark zaf za5 zao za8 zav zaw zax zay zaz za0 za1
attribute [local go_sem] zaq zad
structure StIn (w:World) (laws:List Law) (s:St) (wd rd:List Deed) (LA CA MA DA WA RA GA:Option Addr) (c0 c1 c2 c3 c4 c5 c6:Nat):Prop where
 laws:Sl w 4 Law.cells LA laws
 kids:Sl w 2 zaR CA s.children
 marr:Sl w 2 zaR MA s.marriages
 dead:Sl w 1 sC DA s.dead
 wills:SlW w 7 zdY WA wd
 ren:SlW w 7 zdY RA rd
 graves:SlW w 5 zhY GA s.graves
 deadc:s.dead.length<=c3
theorem StIn.keep{w W:World}{laws:List Law}{s:St}{wd rd:List Deed}{LA CA MA DA WA RA GA:Option Addr}{c0 c1 c2 c3 c4 c5 c6 n:Nat}(h:StIn w laws s wd rd LA CA MA DA WA RA GA c0 c1 c2 c3 c4 c5 c6)(hB:Below n w W)(hn:w.heap.size<=n:=by first|exact Nat.le_refl _|omega):StIn W laws s wd rd LA CA MA DA WA RA GA c0 c1 c2 c3 c4 c5 c6:=
 ⟨h.laws.keep hB hn,h.kids.keep hB hn,h.marr.keep hB hn,h.dead.keep hB hn,h.wills.keep zb5 hB hn,h.ren.keep zb5 hB hn,h.graves.keep zfQ hB hn,h.deadc⟩
structure StLink (s:St) (wd rd:List Deed):Prop where
 wills:s.wills=wd.map fun d=>(d.frm,zam d.to)
 shares:∀d∈wd,∀p∈d.to,za9 16 p.num p.den=true
 ren:s.renounce=rd.map fun d=>(d.frm,zbg d)
 tos:∀d∈rd,d.to≠[]
structure StFew (s:St) (wd rd:List Deed):Prop where
 kids:s.children.length<=1000
 marr:s.marriages.length<=1000
 dead:s.dead.length<=1000
 wills:wd.length<=1000
 ren:rd.length<=1000
 graves:s.graves.length<=1000
section
variable {laws:List Law} {s:St} {wd rd:List Deed} {LA CA MA DA WA RA GA:Option Addr} {c0 c1 c2 c3 c4 c5 c6:Nat}
theorem sAble(n frm:ByteArray)(w:World)(h:StIn w laws s wd rd LA CA MA DA WA RA GA c0 c1 c2 c3 c4 c5 c6)(hk:StLink s wd rd)(hf:StFew s wd rd):Calls Tryz.prog 170 #[.agg #[.slice LA laws.length c0,.slice CA s.children.length c1,.slice MA s.marriages.length c2,.slice DA s.dead.length c3,.slice WA wd.length c4,.slice RA rd.length c5,.slice GA s.graves.length c6],.string n,.string frm] w (Ret w (.bool (zdX s n frm))):=by
 rw[<-ableR_eq s rd hk.ren];exact rAble_any rd s.dead n frm LA CA MA DA WA RA GA laws.length c0 s.children.length c1 s.marriages.length c2 s.dead.length c3 wd.length c4 rd.length c5 s.graves.length c6 w (by have:=hf.ren;omega) hk.tos h.ren Met h.deadc h.dead
theorem sDead(n:ByteArray)(w:World)(h:StIn w laws s wd rd LA CA MA DA WA RA GA c0 c1 c2 c3 c4 c5 c6)(hf:StFew s wd rd):Calls Tryz.prog 111 #[.agg #[.slice LA laws.length c0,.slice CA s.children.length c1,.slice MA s.marriages.length c2,.slice DA s.dead.length c3,.slice WA wd.length c4,.slice RA rd.length c5,.slice GA s.graves.length c6],.string n] w (Ret w (.bool (zaM s n))):=
 zeI s.dead n LA CA MA DA WA RA GA laws.length c0 s.children.length c1 s.marriages.length c2 s.dead.length c3 wd.length c4 rd.length c5 s.graves.length c6 w Met h.deadc h.dead
theorem sKids(n:ByteArray)(w:World)(h:StIn w laws s wd rd LA CA MA DA WA RA GA c0 c1 c2 c3 c4 c5 c6)(hf:StFew s wd rd):Calls Tryz.prog 150 #[.agg #[.slice LA laws.length c0,.slice CA s.children.length c1,.slice MA s.marriages.length c2,.slice DA s.dead.length c3,.slice WA wd.length c4,.slice RA rd.length c5,.slice GA s.graves.length c6],.string n] w (zdy w (zai s n)):=
 zgF s.children n LA CA MA DA WA RA GA laws.length c0 s.children.length c1 s.marriages.length c2 s.dead.length c3 wd.length c4 rd.length c5 s.graves.length c6 w (by have:=hf.kids;omega) h.kids
theorem sSpouse(n:ByteArray)(w:World)(h:StIn w laws s wd rd LA CA MA DA WA RA GA c0 c1 c2 c3 c4 c5 c6)(hf:StFew s wd rd):Calls Tryz.prog 152 #[.agg #[.slice LA laws.length c0,.slice CA s.children.length c1,.slice MA s.marriages.length c2,.slice DA s.dead.length c3,.slice WA wd.length c4,.slice RA rd.length c5,.slice GA s.graves.length c6],.string n] w (Ret w (.string (zaK s n))):=by
 rw[<-zpd];exact zno s.marriages s.dead n LA CA MA DA WA RA GA laws.length c0 s.children.length c1 s.marriages.length c2 s.dead.length c3 wd.length c4 rd.length c5 s.graves.length c6 w (by have:=hf.marr;omega) h.marr Met h.deadc h.dead
theorem zmo(place:ByteArray)(day:Int)(w:World)(h:StIn w laws s wd rd LA CA MA DA WA RA GA c0 c1 c2 c3 c4 c5 c6)(hf:StFew s wd rd):Calls Tryz.prog 138 #[.agg #[.slice LA laws.length c0,.slice CA s.children.length c1,.slice MA s.marriages.length c2,.slice DA s.dead.length c3,.slice WA wd.length c4,.slice RA rd.length c5,.slice GA s.graves.length c6],.string place,.int .i64 day] w (Ret w (.int .i64 (zkG s.graves place day))):=
 zoV s.graves place day LA CA MA DA WA RA GA laws.length c0 s.children.length c1 s.marriages.length c2 s.dead.length c3 wd.length c4 rd.length c5 s.graves.length c6 w (by have:=hf.graves;omega) h.graves
theorem sDesc(n:ByteArray)(w:World)(h:StIn w laws s wd rd LA CA MA DA WA RA GA c0 c1 c2 c3 c4 c5 c6)(hf:StFew s wd rd):Calls Tryz.prog 151 #[.agg #[.slice LA laws.length c0,.slice CA s.children.length c1,.slice MA s.marriages.length c2,.slice DA s.dead.length c3,.slice WA wd.length c4,.slice RA rd.length c5,.slice GA s.graves.length c6],.string n] w (DescR w s.children n):=
 rDesc_any s.children n LA CA MA DA WA RA GA laws.length c0 s.children.length c1 s.marriages.length c2 s.dead.length c3 wd.length c4 rd.length c5 s.graves.length c6 w hf.kids h.kids
theorem zmp(l:List RPart)(A:Option Addr)(c:Nat)(w:World)(h:StIn w laws s wd rd LA CA MA DA WA RA GA c0 c1 c2 c3 c4 c5 c6)(hf:StFew s wd rd)(hl:l.length<=1000000)(hS:Sl w 3 RPart.cells A l):Calls Tryz.prog 139 #[.agg #[.slice LA laws.length c0,.slice CA s.children.length c1,.slice MA s.marriages.length c2,.slice DA s.dead.length c3,.slice WA wd.length c4,.slice RA rd.length c5,.slice GA s.graves.length c6],.slice A l.length c] w (Ret w (.bool (zdZ s l))):=
 zkM l A c s.dead LA CA MA DA WA RA GA laws.length c0 s.children.length c1 s.marriages.length c2 s.dead.length c3 wd.length c4 rd.length c5 s.graves.length c6 w hl hS Met h.deadc h.dead
end
def zd1(s:St)(stems:Bool)(frm:ByteArray):Nat->ByteArray->List ByteArray
 |0,_=>[]
 |f+1,n=>(zai s n).filter fun c=>(zcL s stems frm f c).isSome
theorem zgI{α β:Type}(g:α->Option β):∀l:List α,(l.filterMap g).length=(l.filter fun x=>(g x).isSome).length
 | []=>rfl
 |x::l=>by
  have ih:=zgI g l;cases hg:g x
  ·rw[List.filterMap_cons_none hg,List.filter_cons_of_neg (by simp[hg]),ih]
  ·rw[List.filterMap_cons_some hg,List.filter_cons_of_pos (by simp[hg]),List.length_cons,List.length_cons,ih]
theorem zgJ(s:St)(stems:Bool)(frm:ByteArray):∀(f:Nat) (n:ByteArray),(zb7 s stems frm f n).length=(zd1 s stems frm f n).length
 |0,_=>rfl
 |f+1,n=>by rw[zf9,zgI];rfl
theorem znz{α:Type}(p:α->Bool)(l:List α){k:Nat}(h:k<l.length):(l.take (k+1)).filter p=(l.take k).filter p++if p l[k]then[l[k]]else[]:=by
 rw[List.take_add_one,List.getElem?_eq_getElem h,List.filter_append];simp only[Option.toList_some,List.filter_cons,List.filter_nil]
theorem rLeads_of(laws:List Law)(s:St)(wd rd:List Deed)(LA CA MA DA WA RA GA:Option Addr)(c0 c1 c2 c3 c4 c5 c6:Nat)(law:Law)(frm:ByteArray)(hk:StLink s wd rd)(hf:StFew s wd rd)(f:Nat)(n:ByteArray)(w:World)(h:StIn w laws s wd rd LA CA MA DA WA RA GA c0 c1 c2 c3 c4 c5 c6)
 (IH:∀W,Below w.heap.size w W->Calls Tryz.prog 171 #[.agg #[.slice LA laws.length c0,.slice CA s.children.length c1,.slice MA s.marriages.length c2,.slice DA s.dead.length c3,.slice WA wd.length c4,.slice RA rd.length c5,.slice GA s.graves.length c6],law.v,.string n,.string frm] W (zdy W (zd1 s law.stems frm f n))):
 Calls Tryz.prog 195 #[.agg #[.slice LA laws.length c0,.slice CA s.children.length c1,.slice MA s.marriages.length c2,.slice DA s.dead.length c3,.slice WA wd.length c4,.slice RA rd.length c5,.slice GA s.graves.length c6],law.v,.string n,.string frm] w (Ret w (.bool (zcL s law.stems frm f n).isSome)):=by
 have fw:=zHi (fun W (hB:Below w.heap.size w W)=>sAble n frm W (h.keep hB) hk hf);have dC:(zcL s law.stems frm f n).isSome=(zdX s n frm||law.stems&&decide (0<(zd1 s law.stems frm f n).length)):=by
  rw[<-zgJ];unfold zcL;cases zdX s n frm
  ·cases law.stems
   ·rfl
   ·cases zb7 s true frm f n<;>rfl
  ·rfl
 rw[dC];unfold Law.v at IH⊢;generalize zdX s n frm=ab at*;generalize zd1 s law.stems frm f n=ls at*;have Io:=zHi IH;clear dC IH h;go_enter Tryz.func195,Tryz.ntmps195
 go_upto_region 1 with fail
 obtain⟨W0,ao⟩:∃W0,W0=(w.alloc (.cells #[.slice LA laws.length c0,.slice CA s.children.length c1,.slice MA s.marriages.length c2,.slice DA s.dead.length c3,.slice WA wd.length c4,.slice RA rd.length c5,.slice GA s.graves.length c6] 41)).alloc (.cells #[.int .i64 law.frm,.bool law.stems,.int .i64 law.num,.int .i64 law.den] 72):=⟨_,rfl⟩
 have g0:W0.heap[w.heap.size]?=some (.cells #[.slice LA laws.length c0,.slice CA s.children.length c1,.slice MA s.marriages.length c2,.slice DA s.dead.length c3,.slice WA wd.length c4,.slice RA rd.length c5,.slice GA s.graves.length c6] 41):=Mdn;have g1:W0.heap[w.heap.size+1]?=some (.cells #[.int .i64 law.frm,.bool law.stems,.int .i64 law.num,.int .i64 law.den] 72):=by rw[ao];exact zas _ _ _ Mcp
 have aO:Below w.heap.size w W0:=McW;rw[<-ao];clear ao;obtain⟨d0,d1,d2,d3,d4,d5,d6⟩:=zaG g0;obtain⟨e0,e1,e2,e3⟩:=cF4 g1;have l0:=zab g0;have l1:=zab g1;have ay:=aO.size;have ak:=zHi aO;clear aO g0 g1;cases ab
 ·generalize law.stems=st at*;cases st
  ·exact MaK
  ·go_upto_region 5 with(go_at_call 170;go_must(refine(fw.o _ Mdh).mono ?_);rintro e wq ⟨rfl,z,rfl⟩)
   by_cases hz:0<ls.length
   ·have jc:(0:Int)<(ls.length:Int):=Mcm;exact Mac
   ·have jc:¬(0:Int)<(ls.length:Int):=Mcm;exact Mac
 ·exact MaK
theorem zhm(laws:List Law)(s:St)(wd rd:List Deed)(LA CA MA DA WA RA GA:Option Addr)(c0 c1 c2 c3 c4 c5 c6:Nat)(law:Law)(frm:ByteArray)(hk:StLink s wd rd)(hf:StFew s wd rd):∀(f:Nat) (n:ByteArray) (w:World),StIn w laws s wd rd LA CA MA DA WA RA GA c0 c1 c2 c3 c4 c5 c6->Deep s f n->
 Calls Tryz.prog 171 #[.agg #[.slice LA laws.length c0,.slice CA s.children.length c1,.slice MA s.marriages.length c2,.slice DA s.dead.length c3,.slice WA wd.length c4,.slice RA rd.length c5,.slice GA s.graves.length c6],law.v,.string n,.string frm] w (zdy w (zd1 s law.stems frm f n))
 |0,n,w,_,hd=>hd.elim
 |f+1,n,w,h,hd=>by
  obtain⟨Bj,jM⟩:=yH2 (fun(c:ByteArray) (W:World) (hc:c∈zai s n) (hB:Below w.heap.size w W)=>rLeads_of laws s wd rd LA CA MA DA WA RA GA c0 c1 c2 c3 c4 c5 c6 law frm hk hf f c W (h.keep hB) fun W' f9=>zhm laws s wd rd LA CA MA DA WA RA GA c0 c1 c2 c3 c4 c5 c6 law frm hk hf f c W' ((h.keep hB).keep f9) (hd c hc)) (fun W (hB:Below w.heap.size w W)=>sKids n W (h.keep hB) hf);have bV:(zai s n).length<=1000:=Nat.le_trans (zhR s.children n) hf.kids;rw[show zd1 s law.stems frm (f+1) n=(zai s n).filter (fun c=>(zcL s law.stems frm f c).isSome) from rfl];unfold zdy;unfold Law.v at Bj⊢;generalize zai s n=ks at*;generalize hP:(fun c=>(zcL s law.stems frm f c).isSome)=P at*;have Iw:Hid (∀c W,c∈ks->Below w.heap.size w W->Calls Tryz.prog 195 #[.agg #[.slice LA laws.length c0,.slice CA s.children.length c1,.slice MA s.marriages.length c2,.slice DA s.dead.length c3,.slice WA wd.length c4,.slice RA rd.length c5,.slice GA s.graves.length c6],.agg #[.int .i64 law.frm,.bool law.stems,.int .i64 law.num,.int .i64 law.den],.string c,.string frm] W (Ret W (.bool (P c)))):=zHi (by rw[<-hP];exact Bj.o);obtain⟨ed,nW⟩:=yH2 (fun k hk=>znz P ks (k:=k) hk) bV;clear hP Bj h hd bV;go_enter Tryz.func171,Tryz.ntmps171
  go_upto_region 1 with fail
  obtain⟨W0,ao⟩:∃W0,W0=(w.alloc (.cells #[.slice LA laws.length c0,.slice CA s.children.length c1,.slice MA s.marriages.length c2,.slice DA s.dead.length c3,.slice WA wd.length c4,.slice RA rd.length c5,.slice GA s.graves.length c6] 41)).alloc (.cells #[.int .i64 law.frm,.bool law.stems,.int .i64 law.num,.int .i64 law.den] 72):=⟨_,rfl⟩
  have g0:W0.heap[w.heap.size]?=some (.cells #[.slice LA laws.length c0,.slice CA s.children.length c1,.slice MA s.marriages.length c2,.slice DA s.dead.length c3,.slice WA wd.length c4,.slice RA rd.length c5,.slice GA s.graves.length c6] 41):=Mdn;have g1:W0.heap[w.heap.size+1]?=some (.cells #[.int .i64 law.frm,.bool law.stems,.int .i64 law.num,.int .i64 law.den] 72):=by rw[ao];exact zas _ _ _ Mcp
  have aO:Below w.heap.size w W0:=McW;rw[<-ao];clear ao;obtain⟨d0,d1,d2,d3,d4,d5,d6⟩:=zaG g0;have l0:=zab g0;have l1:=zab g1;have ak:=zHi aO;go_upto_region 4 with(go_at_call 150;go_must(refine(jM.o _ Mdh).mono ?_);rintro e w1 ⟨v1,rfl,o1,b1⟩)
  obtain⟨KA,kc,rfl,iq,_⟩:=o1.sl zaD;obtain⟨G0,G1,aB,ii⟩:=yH4 ((b1.block _ l0).trans g0) ((b1.block _ l1).trans g1) (aO.trans (b1.mono aO.size)) iq;have gw:=aB.o.size;have aY:w.heap.size+1<w1.heap.size:=Nat.lt_of_lt_of_le l1 b1.size;clear o1 b1 aO d0 d1 d2 d3 d4 d5 d6 g0 g1 iq jM l0 l1;go_loopw [10,11] (fun v i wr=>∃k:Nat,k<=ks.length/\i=.int .i64 k/\OwnS wr w1.heap.size 9 1 sC v ((ks.take k).filter P)/\Below w1.heap.size w1 wr) (fun _ i _=>ks.length-(intOf i).toNat)
  case atStart=>exact⟨0,Nat.zero_le _,rfl,OwnS.nil,Below.refl _ _⟩
  case round=>
   obtain⟨k,hk,rfl,ae,hB⟩:=hrel;have i8:k<=1000:=by have:=nW.o;omega
   have aE:=hB.size;obtain⟨HO,HB⟩:=yH2 ae hB;by_cases aa:k<ks.length
   ·have aj:=ed.o k aa;have bJ:=List.getElem_mem aa;have bs:((ks.take k).filter P).length<=1000:=by
     have h1:=List.length_filter_le P (ks.take k);rw[List.length_take]at h1;have:=nW.o;omega
    generalize(ks.take k).filter P=xs at*;obtain⟨VA,vc,rfl,_,jV⟩:=ae.sl zaD;obtain⟨b,off,rfl,hb,ah⟩:=(ii.o.keep hB).at aa;have am:=zHi aa;generalize ks[k]=x at*;have i0:wr.cell? ⟨b,off+k,none⟩=some (.string x):=McT;obtain⟨d0,d1,d2,d3,d4,d5,d6⟩:=zaG ((hB.block _ Mcm).trans G0.o);have g1:=(hB.block _ Mcm).trans G1.o;obtain⟨e0,e1,e2,e3⟩:=cF4 g1;have au:(k:Int)<(ks.length:Int):=Mcm;have aP:(0:Int)<=(k:Int):=Mcm;have eZ:=zHi bs;have F0:=zHi (aB.o.trans (hB.mono gw));have lI:=zHi (fun W (hW:Below wr.heap.size wr W)=>Iw.o x W bJ (F0.o.trans (hW.mono F0.o.size)));have bW:w.heap.size<wr.heap.size:=Mcm;have yN:w.heap.size+1<wr.heap.size:=Mcm;clear ah aa ae hB bs g1 bJ;go_upto_region 6 with fail
    cases hp:P x
    ·have aH:Hid ((ks.take (k+1)).filter P=xs):=by show _=_;rw[aj,hp];simp
     rw[hp]at lI;clear aj hp
     (refine zaj Mcn Mcn ?_
      repeat(first|go_big_quiet_skip|(go_big_quiet_want;go_big_quiet_op;first|go_big_quiet_on|(apply Exists.intro;refine⟨fun _=>?_,?_⟩;(go_at_call 195;exact quietx (lI.o _ Bw));go_big_quiet_on)))
      refine wpQuiet_nil ?_
      rintro _ ⟨zq,rfl⟩)
     go_wp2_with fail
     go_round
     case rel=>exact⟨k+1,am.o,by go_num,by rw[aH.o];exact HO.o.keep (n:=wr.heap.size) (zap wr zq),zbm HB.o zq⟩
     case measure=>have:=am.o;simp only[intOf];omega
    ·have aH:Hid ((ks.take (k+1)).filter P=xs++[x]):=by show _=_;rw[aj,hp];rfl
     rw[hp]at lI;clear aj hp
     (refine zaj Mcn Mcn ?_
      repeat(first|go_big_quiet_skip|(go_big_quiet_want;go_big_quiet_op;first|go_big_quiet_on|(apply Exists.intro;refine⟨fun _=>?_,?_⟩;(go_at_call 195;exact quietx (lI.o _ Bw));go_big_quiet_on)))
      refine wpQuiet_nil ?_
      rintro _ ⟨zq,rfl⟩)
     go_wp2_with (at_builtin
                  go_loud(refine zau (v:=.slice VA xs.length vc) (n:=xs.length) (m:=1) rfl _ _ rfl zbM zaD zbL rfl (xs:=xs) (ys:=[x]) (HO.o.keep (n:=wr.heap.size) Bw) rfl rfl rfl (zga (zas _ _ _ MdI)) McV Mc3 Mcv ?_)
                  intro v3 w3 h1 h2 h3;have aC:=Below.grown (B:=w1.heap.size) (a:=w1) (HB.o.trans (Below.mono (B:=wr.heap.size) (zac (zap wr zq) _) aE)) h2 Mcv (fun j hj=>(HO.o.ge j hj).1);obtain⟨H1,aL⟩:=yH2 h1 aC
                  clear h1 h2 h3 aC)
     exact Mae
   ·have au:¬(k:Int)<(ks.length:Int):=Mcm;rw[List.take_of_length_le Mcm]at HO ae;obtain⟨VA,vc,rfl,_,_⟩:=ae.sl zaD;clear ae hB;go_wp2_with fail
    go_ret
    exact⟨.slice VA (ks.filter P).length vc,rfl,HO.o.base_le gw,aB.o.trans (HB.o.mono gw)⟩
def zeL(share:Rat)(T:List Tree)(out:Parts):Option Parts:=if bigQ (share*(1/(T.length:Rat)))then none else zbG (share*(1/(T.length:Rat))) T out
theorem zh3(a:Rat)(n:Nat):a/(n:Rat)=a*(1/(n:Rat)):=by grind
theorem tree_node{each:Rat}{l:List Tree}{out:Parts}:zek each (.node l) out=zeL each l out:=by
 rw[zek,zeL,zh3]
mutual
theorem zgK{each:Rat}{L:List ByteArray}:∀ {l:List Tree} {out o:Parts},zbG each l out=some o->zc3 L l->zci out L->zci o L
 | [],out,o,h,_,hn=>by
   rw[zbG]at h;cases h;exact hn
 |x::l,out,o,h,hl,hn=>by
  rw[zc3]at hl;rw[zbG]at h;cases ht:zek each x out with
  |none=>rw[ht]at h;cases h
  |some o1=>
   rw[ht]at h;exact zgK (l:=l) h hl.2 (ziT ht hl.1 hn)
theorem ziT{each:Rat}{L:List ByteArray}:∀ {x:Tree} {out o:Parts},zek each x out=some o->zfn L x->zci out L->zci o L
 | .leaf n,out,o,h,hl,hn=>by
   rw[zfn]at hl;rw[zek]at h;split at h
   ·cases h
   ·cases h;intro p hp;rcases zfa hp with e|hp
    ·rw[e];exact hl
    ·exact hn p hp
 | .node l,out,o,h,hl,hn=>by
   rw[zfn]at hl;rw[zek]at h;split at h
   ·cases h
   ·exact zgK (l:=l) h hl hn
end
theorem zgL{out:Parts}{L:List ByteArray}(hg:GoodParts out)(h:zci out L):out.length<=L.length:=by
 haveI:DecidableEq ByteArray:=fun a b=>Classical.propDecidable _
 have hn:(out.map (·.1)).Nodup:=by
  rw[List.nodup_iff_pairwise_ne,List.pairwise_map];exact hg.asc.imp fun h=>zcC h
 have:=ziJ hn (m:=L) fun x hx=>by
  obtain⟨p,hp,rfl⟩:=List.mem_map.1 hx;exact h p hp
 simpa using this
theorem ziU{out:Parts}{L:List ByteArray}{n:ByteArray}{q:Rat}(h:zci out L)(hn:n∈L):zci (za4 out n q) L:=fun p hp=>by
 rcases zfa hp with e|hp
 ·rw[e];exact hn
 ·exact h p hp
theorem zon{α β:Type}(g:α->Option β):∀(l:List α) (k:Nat) (x:α),(l.filter fun x=>(g x).isSome)[k]?=some x->x∈l/\∃t,g x=some t/\(l.filterMap g)[k]?=some t
 | [],k,x,h=>by simp at h
 |y::l,k,x,h=>by
  cases hg:g y with
  |none=>
   rw[List.filter_cons_of_neg (by simp[hg])]at h;rw[List.filterMap_cons_none hg];exact MbN
  |some t=>
   rw[List.filter_cons_of_pos (by simp[hg])]at h;rw[List.filterMap_cons_some hg];cases k with
   |zero=>
    obtain rfl:y=x:=by simpa using h
    exact⟨by simp,t,hg,rfl⟩
   |succ k=>
    exact MbN
structure Hd (out:Parts) (L:List ByteArray):Prop where
 good:GoodParts out
 small:zaF out=false
 names:zci out L
theorem Hd.parts{out:Parts}{L:List ByteArray}(h:Hd out L)(hs:sumQ out<=1):∀p∈out,zaJ p.2:=fun p hp=>(zdG (hs:=out) ⟨h.good,h.small,hs⟩ hp).2.2
def SprPost(w:World)(R:Option Parts)(e:Ending)(w':World):Prop:=
 ∃(A:Option Addr) (c:Nat) (xs:Parts),e=.returned (.slice A xs.length c)/\Sl w' 3 zaa A xs/\Below w.heap.size w w'/\xs.length<=100000/\(R=some xs\/(R=none/\zaF xs=true))
theorem zjX{L:List ByteArray}:∀ {T:List Tree},zc3 L T->∀t∈T,zfn L t
 | [],_,t,ht=>by cases ht
 |x::T,h,t,ht=>by
  rw[zc3]at h;rcases List.mem_cons.1 ht with rfl|ht
  ·exact h.1
  ·exact zjX h.2 t ht
theorem ziV(laws:List Law)(s:St)(wd rd:List Deed)(LA CA MA DA WA RA GA:Option Addr)(c0 c1 c2 c3 c4 c5 c6:Nat)(law:Law)(frm:ByteArray)(L:List ByteArray)(hk:StLink s wd rd)(hf:StFew s wd rd)(hL:∀c∈s.children,c.2∈L)(tP:L.length<=90000):
 ∀(f:Nat) (n:ByteArray) (share:Rat) (A:Option Addr) (c:Nat) (out:Parts) (w:World),StIn w laws s wd rd LA CA MA DA WA RA GA c0 c1 c2 c3 c4 c5 c6->Deep s f n->Sl w 3 zaa A out->Hd out L->0<=share->zaJ share->sumQ out+share<=1->0<(zd1 s law.stems frm f n).length->
 Calls Tryz.prog 172 #[.agg #[.slice LA laws.length c0,.slice CA s.children.length c1,.slice MA s.marriages.length c2,.slice DA s.dead.length c3,.slice WA wd.length c4,.slice RA rd.length c5,.slice GA s.graves.length c6],law.v,.string n,.string frm,zaC share,.slice A out.length c] w (SprPost w (zeL share (zb7 s law.stems frm f n) out))
 |0,n,_,_,_,_,w,_,hd,_,_,_,_,_,_=>hd.elim
 |f+1,n,share,A,c,out,w,h,hd,hS,hH,ay,sV,dQ,ai=>by
  obtain⟨cU,fw,qS⟩:=yH3 (fun W (hB:Below w.heap.size w W)=>zhm laws s wd rd LA CA MA DA WA RA GA c0 c1 c2 c3 c4 c5 c6 law frm hk hf (f+1) n W (h.keep hB) hd) (fun x W (hB:Below w.heap.size w W)=>sAble x frm W (h.keep hB) hk hf) (fun(x:ByteArray) (hx:x∈zai s n) (share:Rat) (A:Option Addr) (c:Nat) (out:Parts) (W:World) (hB:Below w.heap.size w W)=>ziV laws s wd rd LA CA MA DA WA RA GA c0 c1 c2 c3 c4 c5 c6 law frm L hk hf hL tP f x share A c out W (h.keep hB) (hd x hx));have fG:=zgJ s law.stems frm (f+1) n;have bV:(zd1 s law.stems frm (f+1) n).length<=1000:=Nat.le_trans (List.length_filter_le _ _) (Nat.le_trans (zhR s.children n) hf.kids);have gZ:=fun k x hx=>zon (zcL s law.stems frm f) (zai s n) k x hx
  rw[<-show zd1 s law.stems frm (f+1) n=(zai s n).filter (fun c=>(zcL s law.stems frm f c).isSome) from rfl,<-zf9]at gZ;have bH:=zkg s law.stems frm (f+1) n;have sF:=zfo (stems:=law.stems) (frm:=frm) hL (f+1) n;unfold zeL;rw[fG];obtain⟨cm,ft,Gy,Gz⟩:=zhN ai;have mI:=zl3 ai bV;have je:=zHi (fun W=>zgC share (1/((zd1 s law.stems frm (f+1) n).length:Rat)) W sV mI);unfold zaC at je qS⊢;rw[cm,ft]at je;have jx:share*(1/((zd1 s law.stems frm (f+1) n).length:Rat))*((zd1 s law.stems frm (f+1) n).length:Rat)=share:=by
   have:=ratN (Nat.pos_iff_ne_zero.1 ai);grind
  have Gd:0<=share*(1/((zd1 s law.stems frm (f+1) n).length:Rat)):=Rat.mul_nonneg ay Gy;have pP:share*(1/((zd1 s law.stems frm (f+1) n).length:Rat))<=share:=by
   have:=Rat.mul_le_mul_of_nonneg_left Gz ay;rwa [Rat.mul_one]at this
  generalize zd1 s law.stems frm (f+1) n=ls at*;generalize zb7 s law.stems frm (f+1) n=T at*;generalize share*(1/(ls.length:Rat))=each at*;obtain⟨R,hR⟩:∃R,R=if bigQ each then none else zbG each T out:=⟨_,rfl⟩
  rw[<-hR];obtain⟨HR,HS,Hx,Il,uL⟩:=yH5 hR hS gZ hH Gd;have un:0<=sumQ out:=zbs fun p hp=>by have:=hH.good.pos p hp;grind
  have eI:Hid (each<=1):=by show _<=_;grind
  have tD:Hid (sumQ out+each*(ls.length:Rat)<=1):=by show _<=_;rw[jx];exact dQ
  obtain⟨lH,nW,dG,Ix⟩:=yH4 fG bV bH sF;unfold Law.v at cU qS⊢;unfold SprPost;clear h hd hS hH sV dQ fG bV gZ bH sF cm ft Gy Gz mI jx Gd pP hR un ay;go_enter Tryz.func172,Tryz.ntmps172
  go_upto_region 1 with fail
  obtain⟨W0,ao⟩:∃W0,W0=((w.alloc (.cells #[.slice LA laws.length c0,.slice CA s.children.length c1,.slice MA s.marriages.length c2,.slice DA s.dead.length c3,.slice WA wd.length c4,.slice RA rd.length c5,.slice GA s.graves.length c6] 41)).alloc (.cells #[.int .i64 law.frm,.bool law.stems,.int .i64 law.num,.int .i64 law.den] 72)).alloc (.cells #[.int .i64 share.num,.int .i64 share.den] 56):=⟨_,rfl⟩
  have g0:W0.heap[w.heap.size]?=some (.cells #[.slice LA laws.length c0,.slice CA s.children.length c1,.slice MA s.marriages.length c2,.slice DA s.dead.length c3,.slice WA wd.length c4,.slice RA rd.length c5,.slice GA s.graves.length c6] 41):=Mds;have g1:W0.heap[w.heap.size+1]?=some (.cells #[.int .i64 law.frm,.bool law.stems,.int .i64 law.num,.int .i64 law.den] 72):=by rw[ao];exact zak (zas _ _ _ Mcp)
  have g2:W0.heap[w.heap.size+2]?=some (.cells #[.int .i64 share.num,.int .i64 share.den] 56):=by rw[ao];exact zas _ _ _ Mcp
  have aO:Below w.heap.size w W0:=McW;rw[<-ao];clear ao;have l2:=zab g2;have ak:=zHi aO;have lT:=aO.size
  have aw:=zHi (fun W (hB:Below W0.heap.size W0 W)=>(show(W.cell? ⟨w.heap.size,0,none⟩=some (.slice LA laws.length c0)/\W.cell? ⟨w.heap.size,1,none⟩=some (.slice CA s.children.length c1)/\W.cell? ⟨w.heap.size,2,none⟩=some (.slice MA s.marriages.length c2)/\W.cell? ⟨w.heap.size,3,none⟩=some (.slice DA s.dead.length c3)/\W.cell? ⟨w.heap.size,4,none⟩=some (.slice WA wd.length c4)/\W.cell? ⟨w.heap.size,5,none⟩=some (.slice RA rd.length c5)/\W.cell? ⟨w.heap.size,6,none⟩=some (.slice GA s.graves.length c6))/\(W.cell? ⟨w.heap.size+1,0,none⟩=some (.int .i64 law.frm)/\W.cell? ⟨w.heap.size+1,1,none⟩=some (.bool law.stems)/\W.cell? ⟨w.heap.size+1,2,none⟩=some (.int .i64 law.num)/\W.cell? ⟨w.heap.size+1,3,none⟩=some (.int .i64 law.den))/\(W.cell? ⟨w.heap.size+2,0,none⟩=some (.int .i64 share.num)/\W.cell? ⟨w.heap.size+2,1,none⟩=some (.int .i64 share.den)) from by
   have x0:=(hB.block _ Mcm).trans g0;have x1:=(hB.block _ Mcm).trans g1;have x2:=(hB.block _ l2).trans g2
   refine⟨zaG x0,⟨?_,?_,?_,?_⟩,zbl x2⟩<;>(simp only[World.cell?,x1];rfl)))
  obtain⟨⟨d0,d1,d2,d3,d4,d5,d6⟩,⟨e0,e1,e2,e3⟩,q0,q1⟩:=aw.o W0 (Below.refl _ _);clear g0 g1 g2 aO;go_upto_region 3 with(go_at_call 171;go_must(refine(cU.o _ Mdh).mono ?_);rintro e w1 ⟨v1,rfl,o1,b1⟩)
  obtain⟨KA,kc,rfl,iq,_⟩:=o1.sl zaD;obtain⟨aB,ii⟩:=yH2 b1 iq;have gw:=b1.size;clear o1 b1 iq cU d0 d1 d2 d3 d4 d5 d6 e0 e1 e2 e3 q0 q1;go_loopw [5,14,15] (fun v i _ wr=>∃(k:Nat) (ys:Parts) (YA:Option Addr) (yc:Nat),k<=ls.length/\v=.slice YA ys.length yc/\i=.int .i64 k/\Hid (R=if bigQ each then none else zbG each (T.drop k) ys)/\Hid (Hd ys L)/\Hid (sumQ ys+each*((ls.length-k:Nat):Rat)<=1)/\(0<k->bigQ each=false)/\Sl wr 3 zaa YA ys/\Below w1.heap.size w1 wr) (fun _ i _ _=>ls.length-(intOf i).toNat)
  case atStart=>exact⟨0,out,A,c,Nat.zero_le _,rfl,rfl,zHi (by rw[List.drop_zero];exact HR.o),Il,zHi (by rw[Nat.sub_zero];exact tD.o),fun h=>absurd h Mcm,(HS.o.keep ak.o).keep aB.o,Below.refl _ _⟩
  case round=>
   obtain⟨k,zs,ZA,zc,hk,rfl,rfl,HX,HZ,tI,km,hZ,hB⟩:=hrel;have i8:k<=1000:=by have:=nW.o;omega
   have aE:=hB.size;obtain⟨HB,pG⟩:=yH2 hB hZ;have ct:=aB.o.trans (hB.mono gw);by_cases aa:k<ls.length
   ·obtain⟨mW,t,cL,dR⟩:=Hx.o k ls[k] (List.getElem?_eq_getElem aa);obtain⟨b,off,rfl,hb,ah⟩:=(ii.o.keep hB).at aa;generalize ls[k]=x at*;have i0:wr.cell? ⟨b,off+k,none⟩=some (.string x):=McT;have p8:t∈T:=List.mem_of_getElem? dR;have gH:T.drop k=t::T.drop (k+1):=by
     have h1:=(List.getElem?_eq_some_iff.1 dR)
     rw[List.drop_eq_getElem_cons h1.1,h1.2]
    have mj:((ls.length-k:Nat):Rat)=((ls.length-(k+1):Nat):Rat)+1:=by
     rw[show ls.length-k=(ls.length-(k+1))+1 by omega];exact zg5 _
    have ia:0<=each*((ls.length-(k+1):Nat):Rat):=Rat.mul_nonneg uL.o Rat.natCast_nonneg;have yZ:sumQ zs+each<=1:=by have:=tI.o;rw[mj]at this;grind
    have hx:=HX.o;rw[gH,zbG]at hx;obtain⟨R1,wv⟩:∃R1,R1=zek each t zs:=⟨_,rfl⟩
    rw[<-wv]at hx
    have dF:Hid (∀ys,R1=some ys->bigQ each=false->Hid (R=if bigQ each then none else zbG each (T.drop (k+1)) ys)/\Hid (Hd ys L)/\Hid (sumQ ys+each*((ls.length-(k+1):Nat):Rat)<=1)):=zHi (fun ys h1 h2=>by
     rw[wv]at h1;have hg:=zif uL.o HZ.o.good HZ.o.small h1;refine⟨zHi (by rw[hx,wv,h1];rfl),zHi ⟨hg.1,hg.2,ziT h1 (zjX Ix.o t p8) HZ.o.names⟩,zHi ?_⟩;have h3:=znD (zmy.1 dG.o t p8) h1;have h4:=tI.o;rw[mj]at h4;rw[h3]
     grind)
    have nj:Hid (R1=none->R=none):=zHi (fun h1=>by rw[hx,h1];split<;>rfl);have au:(k:Int)<(ls.length:Int):=Mcm;have aP:(0:Int)<=(k:Int):=Mcm;obtain⟨⟨d0,d1,d2,d3,d4,d5,d6⟩,⟨e0,e1,e2,e3⟩,q0,q1⟩:=aw.o wr ct;have yN:w.heap.size+2<wr.heap.size:=Mcm;obtain⟨am,bp,IY,jO,zB,aW⟩:=yH6 aa mW cL wv yZ ct;clear ah hB hZ hx gH mj ia yZ p8 dR cL wv mW ct aa;go_upto_region 6 with(go_at_call 144;go_must(refine(je.o _).mono ?_);rintro e wq ⟨rfl,z,rfl⟩)
    obtain⟨E,hE⟩:∃E,E=wr.heap.size+z.os.size:=⟨_,rfl⟩
    obtain⟨WE,Aa⟩:∃WE,WE=(wr.ext z).alloc (.cells #[.int .i64 each.num,.int .i64 each.den] 56):=⟨_,rfl⟩
    have gE:WE.heap[E]?=some (.cells #[.int .i64 each.num,.int .i64 each.den] 56):=by rw[Aa];exact zas _ _ _ (by rw[hE];simp[zaf])
    have rX:Below wr.heap.size wr WE:=by rw[Aa];exact zac (zap wr z) _
    rw[<-Aa,<-hE];clear Aa hE d0 d1 d2 d3 d4 d5 d6 e0 e1 e2 e3 q0 q1;obtain⟨v0,v1⟩:=zbl gE;have Fi:=rX.size;have Fh:=zab gE
    have bT:=zHi (fun W (h:Below WE.heap.size WE W)=>(show((W.cell? ⟨w.heap.size,0,none⟩=some (.slice LA laws.length c0)/\W.cell? ⟨w.heap.size,1,none⟩=some (.slice CA s.children.length c1)/\W.cell? ⟨w.heap.size,2,none⟩=some (.slice MA s.marriages.length c2)/\W.cell? ⟨w.heap.size,3,none⟩=some (.slice DA s.dead.length c3)/\W.cell? ⟨w.heap.size,4,none⟩=some (.slice WA wd.length c4)/\W.cell? ⟨w.heap.size,5,none⟩=some (.slice RA rd.length c5)/\W.cell? ⟨w.heap.size,6,none⟩=some (.slice GA s.graves.length c6))/\(W.cell? ⟨w.heap.size+1,0,none⟩=some (.int .i64 law.frm)/\W.cell? ⟨w.heap.size+1,1,none⟩=some (.bool law.stems)/\W.cell? ⟨w.heap.size+1,2,none⟩=some (.int .i64 law.num)/\W.cell? ⟨w.heap.size+1,3,none⟩=some (.int .i64 law.den))/\W.cell? ⟨b,off+k,none⟩=some (.string x)/\W.cell? ⟨E,0,none⟩=some (.int .i64 each.num)/\W.cell? ⟨E,1,none⟩=some (.int .i64 each.den)) from by
     have hw:=aw.o W (aW.o.trans ((rX.trans (h.mono Fi)).mono aW.o.size))
     exact⟨hw.1,hw.2.1,(zah (rX.trans (h.mono Fi)) hb).trans i0,(zah h Fh).trans v0,(zah h Fh).trans v1⟩))
    obtain⟨qq,lm,F5⟩:=yH3 (HB.o.trans (rX.mono aE)) (aW.o.trans (rX.mono aW.o.size)) (pG.o.keep rX);clear gE rX i0 pG;by_cases hbig:bigQ each=true
    ·have da:1000000000<(each.den:Int):=by unfold bigQ at hbig;simpa using hbig
     have pA:Hid (R=none):=by show _=_;rw[HX.o,if_pos hbig]
     have Hz:=zHi hbig;clear hbig;go_wp2_with fail
     go_ret
     exact⟨_,_,[((⟨#[]⟩:ByteArray),each)],rfl,zda (zas _ _ _ rfl),ak.o.trans ((zac lm.o _).mono lT),by simp,.inr ⟨pA.o,by simp[zaF,Hz.o]⟩⟩
    ·have kn:bigQ each=false:=by simpa using hbig
     have da:¬1000000000<(each.den:Int):=by unfold bigQ at kn;simpa using kn
     have Ha:=zcb uL.o eI.o kn;obtain⟨vm,AO,pC⟩:=yH3 (fun ys h=>dF.o ys h kn) kn Ha;have kD:=zHi (fun W (h:Below WE.heap.size WE W)=>fw.o x W (ak.o.trans ((lm.o.trans (h.mono lm.o.size)).mono lT)));obtain⟨⟨d0,d1,d2,d3,d4,d5,d6⟩,⟨e0,e1,e2,e3⟩,j0,v0,v1⟩:=bT.o WE (Below.refl _ _);have hwE:w.heap.size<WE.heap.size:=Mcm;have Kj:b<WE.heap.size:=Mcm;clear kn hbig Ha dF HX;go_upto_region 8 with fail
     have dC:=IY.o;unfold zcL at dC;cases cF:zdX s x frm
     ·rw[cF]at kD dC;simp only[Bool.false_eq_true,if_false]at dC;have ht:t=.node (zb7 s law.stems frm f x)/\0<(zd1 s law.stems frm f x).length:=by
       split at dC
       ·rename_i h
        cases dC;refine⟨rfl,?_⟩;rw[<-zgJ];rw[Bool.and_eq_true]at h;cases hT:zb7 s law.stems frm f x with
        |nil=>rw[hT]at h;simp at h
        |cons=>simp
       ·cases dC
      have vz:=zHi (fun W (h:Below WE.heap.size WE W)=>qS.o x bp.o each ZA zc zs W (ak.o.trans ((lm.o.trans (h.mono lm.o.size)).mono lT)) (F5.o.keep h) HZ.o uL.o pC.o zB.o ht.2);have fJ:R1=zeL each (zb7 s law.stems frm f x) zs:=by rw[jO.o,ht.1,tree_node]
      rw[<-fJ]at vz;clear fJ ht dC cF
      (refine zaj Mcn Mcn ?_
       repeat(first|go_big_quiet_skip|(go_big_quiet_want;go_big_quiet_op;first|go_big_quiet_on|(apply Exists.intro;refine⟨fun _=>?_,?_⟩;(go_at_call 170;exact quietx (kD.o _ Bw));go_big_quiet_on)))
       refine wpQuiet_nil ?_
       rintro _ ⟨zq,rfl⟩)
      obtain⟨WQ,oy⟩:∃WQ,WQ=WE.ext zq:=⟨_,rfl⟩
      have me:Below WE.heap.size WE WQ:=Meq;rw[<-oy];clear oy;go_upto_region 10 with fail
      refine zaB 9 (fun bb w'=>bb=true\/((w'.cell? ⟨w.heap.size,0,none⟩=some (.slice LA laws.length c0)/\w'.cell? ⟨w.heap.size,1,none⟩=some (.slice CA s.children.length c1)/\w'.cell? ⟨w.heap.size,2,none⟩=some (.slice MA s.marriages.length c2)/\w'.cell? ⟨w.heap.size,3,none⟩=some (.slice DA s.dead.length c3)/\w'.cell? ⟨w.heap.size,4,none⟩=some (.slice WA wd.length c4)/\w'.cell? ⟨w.heap.size,5,none⟩=some (.slice RA rd.length c5)/\w'.cell? ⟨w.heap.size,6,none⟩=some (.slice GA s.graves.length c6))/\(w'.cell? ⟨w.heap.size+1,0,none⟩=some (.int .i64 law.frm)/\w'.cell? ⟨w.heap.size+1,1,none⟩=some (.bool law.stems)/\w'.cell? ⟨w.heap.size+1,2,none⟩=some (.int .i64 law.num)/\w'.cell? ⟨w.heap.size+1,3,none⟩=some (.int .i64 law.den))/\w'.cell? ⟨b,off+k,none⟩=some (.string x)/\w'.cell? ⟨E,0,none⟩=some (.int .i64 each.num)/\w'.cell? ⟨E,1,none⟩=some (.int .i64 each.den))) Mcn (.inr (bT.o _ (zaH me))) ?hrest
      case hrest=>
       intro hHeld;refine TkM 0 ?_;refine TkM 1 ?_;refine TkM 2 ?_;refine TkM 3 ?_;refine TkM 4 ?_;refine TkM 5 ?_;refine TkM 6 ?_;refine TkM 7 ?_;refine TkM 8 ?_;refine OnM 9 true fun K hK=>?_
       go_simp
       refine(vz.o _ (zaH me)).mono ?_;rintro e w5 ⟨YA,yc,ys,rfl,wJ,CO,Kd,Ke⟩;refine NxM hK fun hHeld=>?_
       clear hK K;refine OnM 10 true fun K hK=>?_
       go_simp
       refine NxM hK fun hHeld=>?_
       clear hK K;refine zaI Mcn ?_ _;clear hHeld;obtain⟨BM,ki⟩:=yH2 Ke Kd;exact Mz
     ·rw[cF]at kD dC;simp only[if_true]at dC;have ht:t=.leaf x:=by cases dC;rfl
      have pg:=zgL HZ.o.good HZ.o.names;have vz:=zHi (fun W (h:Below WE.heap.size WE W)=>zcN zs x each ZA zc W Mcm (HZ.o.parts (by have:=zB.o;have:=uL.o;grind)) pC.o (F5.o.keep h));have fJ:R1=if zaF (za4 zs x each)then none else some (za4 zs x each):=by rw[jO.o,ht,zek]
      have BM:Hid (R1=some (za4 zs x each)\/(R1=none/\zaF (za4 zs x each)=true)):=zHi (by
       rw[fJ];cases h:zaF (za4 zs x each)
       ·exact .inl rfl
       ·exact .inr ⟨rfl,rfl⟩)
      have ki:Hid ((za4 zs x each).length<=100000):=zHi (by have:=zcw x each zs;omega);generalize za4 zs x each=ys at*;unfold zaC at vz;clear fJ ht dC cF pg
      (refine zaj Mcn Mcn ?_
       repeat(first|go_big_quiet_skip|(go_big_quiet_want;go_big_quiet_op;first|go_big_quiet_on|(apply Exists.intro;refine⟨fun _=>?_,?_⟩;(go_at_call 170;exact quietx (kD.o _ Bw));go_big_quiet_on)))
       refine wpQuiet_nil ?_
       rintro _ ⟨zq,rfl⟩)
      obtain⟨WQ,oy⟩:∃WQ,WQ=WE.ext zq:=⟨_,rfl⟩
      have me:Below WE.heap.size WE WQ:=Meq;rw[<-oy];clear oy;go_upto_region 9 with fail
      refine zaB 6 (fun bb w'=>bb=true\/((w'.cell? ⟨w.heap.size,0,none⟩=some (.slice LA laws.length c0)/\w'.cell? ⟨w.heap.size,1,none⟩=some (.slice CA s.children.length c1)/\w'.cell? ⟨w.heap.size,2,none⟩=some (.slice MA s.marriages.length c2)/\w'.cell? ⟨w.heap.size,3,none⟩=some (.slice DA s.dead.length c3)/\w'.cell? ⟨w.heap.size,4,none⟩=some (.slice WA wd.length c4)/\w'.cell? ⟨w.heap.size,5,none⟩=some (.slice RA rd.length c5)/\w'.cell? ⟨w.heap.size,6,none⟩=some (.slice GA s.graves.length c6))/\(w'.cell? ⟨w.heap.size+1,0,none⟩=some (.int .i64 law.frm)/\w'.cell? ⟨w.heap.size+1,1,none⟩=some (.bool law.stems)/\w'.cell? ⟨w.heap.size+1,2,none⟩=some (.int .i64 law.num)/\w'.cell? ⟨w.heap.size+1,3,none⟩=some (.int .i64 law.den))/\w'.cell? ⟨b,off+k,none⟩=some (.string x)/\w'.cell? ⟨E,0,none⟩=some (.int .i64 each.num)/\w'.cell? ⟨E,1,none⟩=some (.int .i64 each.den))) Mcn (.inr (bT.o _ (zaH me))) ?hrest
      case hrest=>
       intro hHeld;refine TkM 0 ?_;refine TkM 1 ?_;refine TkM 2 ?_;refine TkM 3 ?_;refine TkM 4 ?_;refine TkM 5 ?_;refine OnM 6 true fun K hK=>?_
       go_simp
       refine(vz.o _ (zaH me)).mono ?_;rintro e w5 ⟨v5,rfl,o5,CO⟩;obtain⟨YA,yc,rfl,wJ,_⟩:=o5.sl zan;refine NxM hK fun hHeld=>?_
       clear hK K;refine OnM 7 true fun K hK=>?_
       go_simp
       refine NxM hK fun hHeld=>?_
       clear hK K;refine zaI Mcn ?_ _;clear hHeld;exact Mz
   ·have au:¬(k:Int)<(ls.length:Int):=Mcm;have hx:=HX.o;have kv:k=ls.length:=Mcm;rw[km Mcm,List.drop_of_length_le (by rw[lH.o];omega),zbG]at hx;have bw:Hid (R=some zs):=Md7;obtain⟨Ji,aW⟩:=yH2 (zgL HZ.o.good HZ.o.names) ct;clear hx kv hB hZ ct;go_wp2_with fail
    go_ret
    exact⟨ZA,zc,zs,rfl,pG.o,ak.o.trans (aW.o.mono lT),by have:=Ji.o;omega,.inl bw.o⟩

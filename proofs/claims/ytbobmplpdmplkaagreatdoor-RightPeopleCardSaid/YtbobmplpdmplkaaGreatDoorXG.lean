import Derived.Test.YtbobmplpdmplkaaGreatDoorXB
import Derived.Test.YtbobmplpdmplkaaGreatDoorAZ
set_option linter.all false
set_option maxRecDepth 100000
set_option maxHeartbeats 4000000
namespace Go.Proofs.YtbobmplpdmplkaaGreatDoor
open Go.RowKit Go.Shelf
attribute [local go_sem] World.cell?_alloc_mark zaf za4 zam za7 zaw zax zay zaz za0 za1 za2
attribute [local go_sem] zan zac
theorem slw_list{α β:Type}{W:World}{size:Nat}{R:World->α->List Value->Prop}{f:β->List Value}{pr:β->α}{G:β->Prop}(hR:∀x cs,R W x cs->∃y,pr y=x/\G y/\f y=cs){A:Option Addr}{xs:List α}(h:SlW W size R A xs):
 ∃ys:List β,ys.map pr=xs/\(∀y∈ys,G y)/\Sl W size f A ys:=by
 by_cases h0:xs=[]
 ·subst h0;exact⟨[],rfl,by simp,fun h=>absurd h McB⟩
 ·have hl:0<xs.length:=List.length_pos_iff.2 h0;obtain⟨b,off,hA,hb,hc⟩:=h hl;have b9:∀n,n<=xs.length->∃ys:List β,ys.map pr=xs.take n/\(∀y∈ys,G y)/\∀k y,ys[k]?=some y->∀j u,(f y)[j]?=some u->W.cell? ⟨b,off+k*size+j,none⟩=some u:=by
   intro n;induction n with
   |zero=>intro _;exact⟨[],by simp,by simp,by simp⟩
   |succ n ih=>
    intro hn;obtain⟨ys,h1,h2,h3⟩:=ih Mcy;obtain⟨cs,hr,ah⟩:=hc n _ (List.getElem?_eq_getElem (show n<xs.length by omega));obtain⟨y,e1,e2,e3⟩:=hR _ _ hr;have ag:ys.length=n:=by
     have:=congrArg List.length h1;simp at this;omega
    refine⟨ys++[y],?_,?_,?_⟩
    ·rw[List.map_append,h1,List.take_add_one,List.getElem?_eq_getElem (show n<xs.length by omega)];simp[e1]
    ·intro z hz;rcases List.mem_append.1 hz with hz|hz
     ·exact h2 z hz
     ·rw[List.mem_singleton.1 hz];exact e2
    ·intro k z hk;by_cases js:k<n
     ·rw[List.getElem?_append_left Mcy]at hk;exact h3 k z hk
     ·have fQ:k=n:=by
       exact MbU
      subst fQ;rw[List.getElem?_append_right Mcy,ag]at hk;simp at hk;subst hk;intro j u hu;exact ah j u (by rw[<-e3];exact hu)
  obtain⟨ys,h1,h2,h3⟩:=b9 xs.length (Nat.le_refl _);rw[List.take_length]at h1;exact⟨ys,h1,h2,fun _=>⟨b,off,hA,hb,h3⟩⟩
theorem slw_back{α β:Type}{W:World}{size:Nat}{R:World->α->List Value->Prop}{f:β->List Value}{pr:β->α}{G:β->Prop}(hG:∀y,G y->R W (pr y) (f y)){A:Option Addr}{xs:List α}{ys:List β}(h:Sl W size f A ys)(hm:ys.map pr=xs)(hg:∀y∈ys,G y):SlW W size R A xs:=fun hl=>by
 subst hm;obtain⟨b,off,hA,hb,hc⟩:=h (by simpa using hl);refine⟨b,off,hA,hb,fun k x hk=>?_⟩;rw[List.getElem?_map]at hk;obtain⟨y,hy,rfl⟩:=Option.map_eq_some_iff.1 hk;exact⟨f y,hG y (hg y (List.mem_of_getElem? hy)),fun j u hu=>hc k y hy j u hu⟩
structure GX where
 g:Grave
 H:Option Addr
 hc:Nat
 D:Option Addr
 dc:Nat
def GX.cells(x:GX):List Value:=[.string x.g.place,.int .i64 x.g.cls,.int .i64 x.g.fin,.slice x.H x.g.holders.length x.hc,.slice x.D x.g.died.length x.dc]
theorem zcU(x:GX):x.cells.length=5:=rfl
theorem zjT(x:GX):∀u∈x.cells,u.oneCell'=true:=by simp[GX.cells,Value.oneCell']
def GX.ok(W:World)(x:GX):Prop:=Sl W 3 zaa x.H x.g.holders/\Sl W 1 sC x.D x.g.died
theorem GX.ok.keep{W W':World}{x:GX}{n:Nat}(h:x.ok W)(hB:Below n W W')(hn:W.heap.size<=n:=by first|exact Nat.le_refl _|omega):x.ok W':=⟨h.1.keep hB hn,h.2.keep hB hn⟩
theorem gx_of{W:World}{A:Option Addr}{gs:List Grave}(h:SlW W 5 zhT A gs):∃xs:List GX,xs.map (·.g)=gs/\(∀x∈xs,x.ok W)/\Sl W 5 GX.cells A xs:=
 slw_list (fun x cs hr=>by
  obtain⟨H,hc,D,dc,rfl,h1,h2⟩:=hr
  exact⟨⟨x,H,hc,D,dc⟩,rfl,⟨h1,h2⟩,rfl⟩) h
theorem slw_gx{W:World}{A:Option Addr}{gs:List Grave}{xs:List GX}(h:Sl W 5 GX.cells A xs)(hm:xs.map (·.g)=gs)(hg:∀x∈xs,x.ok W):SlW W 5 zhT A gs:=
 slw_back (fun y hy=>⟨y.H,y.hc,y.D,y.dc,rfl,hy.1,hy.2⟩) h hm hg
theorem zhi:ElTy Tryz.prog 42 100 5 80:=zd4 (z:=.agg #[.string ⟨#[]⟩,.int .i64 0,.int .i64 0,.slice none 0 0,.slice none 0 0]) Mcz Mcz rfl McA
structure RowC (W:World) (e:TypeId) (g o size:Nat) (css:List (List Value)):Prop where
 len:∀c∈css,c.length=size
 row:∃cur,W.heap[g]?=some (.cells cur e (0,0))/\o+css.length*size<=cur.size/\∀k c,css[k]?=some c->∀j u,c[j]?=some u->cur[o+k*size+j]?=some u
section
variable {W W':World} {e:TypeId} {g o size:Nat} {css:List (List Value)}
theorem RowC.at(h:RowC W e g o size css){k:Nat}{c:List Value}(hk:css[k]?=some c){j:Nat}{u:Value}(hj:c[j]?=some u):W.cell? ⟨g,o+k*size+j,none⟩=some u:=by
 obtain⟨cur,h1,_,h3⟩:=h.row;simp only[World.cell?,h1];exact h3 k c hk j u hj
theorem RowC.lt(h:RowC W e g o size css):g<W.heap.size:=by
 obtain⟨cur,h1,_⟩:=h.row;exact zab h1
theorem RowC.frz(h:RowC W e g o size css):∀j,W.frozen? ⟨g,j,none⟩=false:=by
 obtain⟨cur,h1,_⟩:=h.row;exact Go.Proofs.YtbobmplpdmplkaaGreatDoor.frz h1
theorem RowC.block(h:RowC W e g o size css)(hb:W'.heap[g]?=W.heap[g]?):RowC W' e g o size css:=by
 obtain⟨cur,h1,h2⟩:=h.row;exact⟨h.len,cur,hb.trans h1,h2⟩
theorem RowC.keep{n:Nat}(h:RowC W e g o size css)(hB:Below n W W')(hn:W.heap.size<=n:=by first|exact Nat.le_refl _|omega):RowC W' e g o size css:=h.block (hB.block g (Nat.lt_of_lt_of_le h.lt hn))
theorem RowC.sl{α:Type}{f:α->List Value}{xs:List α}(h:RowC W e g o size css)(hc:css=xs.map f):Sl W size f (some ⟨g,o,none⟩) xs:=fun _=>
 ⟨g,o,rfl,h.lt,fun k x hk j u hu=>h.at (k:=k) (by rw[hc,List.getElem?_map,hk];rfl) hu⟩
theorem OwnS.row{α:Type}{base n cap:Nat}{f:α->List Value}{xs:List α}(ag:∀x,(f x).length=size)(h:OwnS W base e size f (.slice (some ⟨g,o,none⟩) n cap) xs):RowC W e g o size (xs.map f):=by
 rcases h with⟨h,_⟩|⟨g',o',c',cur,h,hb,hg,hc,hm,hs,hx⟩
 ·cases h
 ·simp only[Value.slice.injEq,Option.some.injEq,Addr.mk.injEq,and_true]at h;obtain⟨⟨rfl,rfl⟩,rfl,rfl⟩:=h;refine⟨fun c hc=>?_,cur,hg,?_,fun k c hk j u hu=>?_⟩
  ·obtain⟨x,_,rfl⟩:=List.mem_map.1 hc;exact ag x
  ·rw[List.length_map];exact Nat.le_trans (Nat.add_le_add_left (Nat.mul_le_mul_right _ hc) _) hs
  ·rw[List.getElem?_map]at hk;obtain⟨x,eE,rfl⟩:=Option.map_eq_some_iff.1 hk;have:=hx (k*size+j) u (zeO f size ag xs k x eE j u hu);rw[Nat.add_assoc];exact this
theorem RowC.set(h:RowC W e g o size css){i j:Nat}{c:List Value}{u:Value}(hi:css[i]?=some c)(hj:j<size):RowC (W.setCell ⟨g,o+i*size+j,none⟩ u) e g o size (css.set i (c.set j u)):=by
 obtain⟨cur,h1,h2,h3⟩:=h.row;have aW:=h.len c (List.mem_of_getElem? hi);have eV:i<css.length:=(List.getElem?_eq_some_iff.1 hi).1;have aH:o+i*size+j<cur.size:=by
  have:(i+1)*size<=css.length*size:=Nat.mul_le_mul_right _ eV;rw[Nat.add_mul]at this;omega
 have hb:=Joins.block_setCell (i:=o+i*size+j) h1 u;refine⟨fun d hd=>?_,_,hb,?_,fun k d hk m v hm=>?_⟩
 ·rcases List.mem_or_eq_of_mem_set hd with hd|rfl
  ·exact h.len d hd
  ·rw[List.length_set];exact aW
 ·rw[List.length_set];simpa using h2
 ·rw[List.getElem?_set]at hk;by_cases ar:i=k
  ·subst ar;rw[if_pos rfl,if_pos eV]at hk;simp only[Option.some.injEq]at hk;subst hk;rw[List.getElem?_set]at hm;by_cases hjm:j=m
   ·subst hjm;rw[if_pos rfl,if_pos Mcy]at hm;simp only[Option.some.injEq]at hm;subst hm;simp[aH]
   ·rw[if_neg hjm]at hm;have:=h3 i c hi m v hm;rw[Array.getElem?_setIfInBounds_ne Mcy];exact this
  ·rw[if_neg ar]at hk;have ft:m<size:=by
    have:=(List.getElem?_eq_some_iff.1 hm).1;rw[h.len d (List.mem_of_getElem? hk)]at this;exact this
   have ai:o+i*size+j≠o+k*size+m:=by
    intro he;have rX:i*size+j=k*size+m:=Mcy;rcases Nat.lt_or_gt_of_ne ar with ae|ae
    ·have:(i+1)*size<=k*size:=Nat.mul_le_mul_right _ ae;rw[Nat.add_mul]at this;omega
    ·have:(k+1)*size<=i*size:=Nat.mul_le_mul_right _ ae;rw[Nat.add_mul]at this;omega
   rw[Array.getElem?_setIfInBounds_ne ai];exact h3 k d hk m v hm
end
def StAt(w:World)(laws:List Law)(s:St)(a0 a1 a2 a3 a4 a5 a6:Value):Prop:=
 ∃(wd rd:List Deed) (LA CA MA DA WA RA GA:Option Addr) (c0 c1 c2 c3 c4 c5 c6:Nat),a0=.slice LA laws.length c0/\a1=.slice CA s.children.length c1/\a2=.slice MA s.marriages.length c2/\a3=.slice DA s.dead.length c3/\a4=.slice WA wd.length c4/\a5=.slice RA rd.length c5/\a6=.slice GA s.graves.length c6/\
  StIn w laws s wd rd LA CA MA DA WA RA GA c0 c1 c2 c3 c4 c5 c6/\StLink s wd rd
def zcD:Value->Bool
 | .slice ..=>true
 |_=>false
theorem zeH{a:Value}(h:zcD a=true):∃A n c,a=.slice A n c:=by
 cases a<;>first|exact⟨_,_,_,rfl⟩|cases h
theorem zc2{a0 a1 a2 a3 a4 a5 a6:Value}(h:([a0,a1,a2,a3,a4,a5,a6].all zcD)=true):(∃A n c,a0=.slice A n c)/\(∃A n c,a1=.slice A n c)/\(∃A n c,a2=.slice A n c)/\(∃A n c,a3=.slice A n c)/\(∃A n c,a4=.slice A n c)/\(∃A n c,a5=.slice A n c)/\(∃A n c,a6=.slice A n c):=by
 simp only[List.all_cons,Bool.and_eq_true]at h;obtain⟨h0,h1,h2,h3,h4,h5,h6,_⟩:=h;exact⟨zeH h0,zeH h1,zeH h2,zeH h3,zeH h4,zeH h5,zeH h6⟩
def zfE(w:World)(laws:List Law)(R:St×Int)(e:Ending)(w':World):Prop:=
 ∃a0 a1 a2 a3 a4 a5 a6,e=.returned (.tuple #[.agg #[a0,a1,a2,a3,a4,a5,a6],.int .i64 R.2])/\([a0,a1,a2,a3,a4,a5,a6].all zcD)=true/\Below w.heap.size w w'/\(R.2=0->StAt w' laws R.1 a0 a1 a2 a3 a4 a5 a6)
theorem zpq{fn:Func}{p q:Tmp}{a:TypeId}(h:fn.results= #[.cell p a,.tmp q])(tmps:Array Value)(P:Program)(w:World):
 (results fn tmps).run P w=((asAddr (tmps.getD p undef)).run P w).andThen fun x w₁=>((loadVar a x).run P w₁).andThen fun v w₂=> .ok (.tuple #[v,tmps.getD q undef]) w₂:=by
 simp only[results,h];simp[Sem.run_bind,Result.andThen]
section
variable {w:World} {B:Nat} {x0 x1 x2 x3 x4 x5 x6 y:Value}
theorem zbC{fn:Func}{p q:Tmp}(h:fn.results= #[.cell p 44,.tmp q])(tmps:Array Value)(hp:tmps.getD p undef=.pointer (some ⟨B,0,none⟩))(hq:tmps.getD q undef=y)
 (hx:w.heap[B]?=some (.cells #[x0,x1,x2,x3,x4,x5,x6] 44)):(results fn tmps).run Tryz.prog w=.ok (.tuple #[.agg #[x0,x1,x2,x3,x4,x5,x6],y]) w:=by
 obtain⟨h0,h1,h2,h3,h4,h5,h6⟩:=zaF hx;clear hx;rw[zpq h,hp,hq];go_simp
theorem zjU{fn:Func}{p:Tmp}(h:fn.results= #[.cell p 44])(tmps:Array Value)(hp:tmps.getD p undef=.pointer (some ⟨B,0,none⟩))
 (hx:w.heap[B]?=some (.cells #[x0,x1,x2,x3,x4,x5,x6] 44)):(results fn tmps).run Tryz.prog w=.ok (.agg #[x0,x1,x2,x3,x4,x5,x6]) w:=by
 obtain⟨h0,h1,h2,h3,h4,h5,h6⟩:=zaF hx;exact Ma5
end
theorem RowC.ne{W:World}{e:TypeId}{g o size b j:Nat}{u:Value}{css:List (List Value)}(h:RowC W e g o size css)(ai:g≠b):RowC (W.setCell ⟨b,j,none⟩ u) e g o size css:=by
 obtain⟨cur,h1,h2⟩:=h.row;exact⟨h.len,cur,J_ne ai h1,h2⟩
theorem zcA{n b:Nat}{w W:World}{a0 a1 a2 a3 a4 a5 a6:Value}(h:Below n w W)(hb:n<=b):Below n w (((((((W.setCell ⟨b,0,none⟩ a0).setCell ⟨b,1,none⟩ a1).setCell ⟨b,2,none⟩ a2).setCell ⟨b,3,none⟩ a3).setCell ⟨b,4,none⟩ a4).setCell ⟨b,5,none⟩ a5).setCell ⟨b,6,none⟩ a6):=
 zaP (zaP (zaP (zaP (zaP (zaP (zaP h hb _) hb _) hb _) hb _) hb _) hb _) hb _
theorem RowC.ne7{W:World}{e:TypeId}{g o size b:Nat}{a0 a1 a2 a3 a4 a5 a6:Value}{css:List (List Value)}(h:RowC W e g o size css)(ai:g≠b):RowC (((((((W.setCell ⟨b,0,none⟩ a0).setCell ⟨b,1,none⟩ a1).setCell ⟨b,2,none⟩ a2).setCell ⟨b,3,none⟩ a3).setCell ⟨b,4,none⟩ a4).setCell ⟨b,5,none⟩ a5).setCell ⟨b,6,none⟩ a6) e g o size css:=
 ((((((h.ne ai).ne ai).ne ai).ne ai).ne ai).ne ai).ne ai
theorem zjV(W:World)(base:Nat)(h:base<=W.heap.size):OwnS (W.alloc (.cells #[] 100)) base 100 5 GX.cells (.slice (some ⟨W.heap.size,0,none⟩) 0 0) []:=
 OwnS.of_own zcU (World.ownsRow_made W #[] 0 h (Nat.zero_le _) McB)
def zgE(w:World)(laws:List Law)(s:St)(wd rd:List Deed)(LA CA MA DA WA RA GA:Option Addr)(c0 c1 c2 c3 c4 c5 c6:Nat)(gxs:List GX)(i:Nat)(x:GX)(e:Ending)(w':World):Prop:=
 ∃(ga go c:Nat),e=.returned (.agg #[.slice LA laws.length c0,.slice CA s.children.length c1,.slice MA s.marriages.length c2,.slice DA s.dead.length c3,.slice WA wd.length c4,.slice RA rd.length c5,.slice (some ⟨ga,go,none⟩) s.graves.length c])/\RowC w' 100 ga go 5 ((gxs.set i x).map GX.cells)/\Below w.heap.size w w'
theorem ziY(laws:List Law)(s:St)(wd rd:List Deed)(LA CA MA DA WA RA GA:Option Addr)(c0 c1 c2 c3 c4 c5 c6:Nat)(xs:List GX)(i:Nat)(x:GX)(w:World)(hm:xs.map (·.g)=s.graves)(bv:Sl w 5 GX.cells GA xs)(hf:StFew s wd rd)(hi:i<s.graves.length):
 Calls Tryz.prog 171 #[.agg #[.slice LA laws.length c0,.slice CA s.children.length c1,.slice MA s.marriages.length c2,.slice DA s.dead.length c3,.slice WA wd.length c4,.slice RA rd.length c5,.slice GA s.graves.length c6],.int .i64 i,.agg x.cells.toArray] w (zgE w laws s wd rd LA CA MA DA WA RA GA c0 c1 c2 c3 c4 c5 c6 xs i x):=by
 have bM:xs.length=s.graves.length:=by rw[<-hm,List.length_map]
 have Ka:=hf.graves;have bZ:=zHi bv;unfold zgE GX.cells;rw[<-bM]at hi Ka⊢;have fN:=zHi bM;clear hm bv hf bM;go_enter Tryz.func171,Tryz.ntmps171
 go_upto_region 1 with fail
 obtain⟨W0,am⟩:∃W0,W0=((w.alloc (.cells #[.slice LA laws.length c0,.slice CA s.children.length c1,.slice MA s.marriages.length c2,.slice DA s.dead.length c3,.slice WA wd.length c4,.slice RA rd.length c5,.slice GA xs.length c6] 44)).alloc (.cells #[.string x.g.place,.int .i64 x.g.cls,.int .i64 x.g.fin,.slice x.H x.g.holders.length x.hc,.slice x.D x.g.died.length x.dc] 100)).alloc (.cells #[.slice none 0 0,.slice none 0 0,.slice none 0 0,.slice none 0 0,.slice none 0 0,.slice none 0 0,.slice none 0 0] 44):=⟨_,rfl⟩
 have g0:W0.heap[w.heap.size]?=some (.cells #[.slice LA laws.length c0,.slice CA s.children.length c1,.slice MA s.marriages.length c2,.slice DA s.dead.length c3,.slice WA wd.length c4,.slice RA rd.length c5,.slice GA xs.length c6] 44):=Mdy;have g1:W0.heap[w.heap.size+1]?=some (.cells #[.string x.g.place,.int .i64 x.g.cls,.int .i64 x.g.fin,.slice x.H x.g.holders.length x.hc,.slice x.D x.g.died.length x.dc] 100):=by rw[am];exact zal (zar _ _ _ McB)
 have g2:W0.heap[w.heap.size+2]?=some (.cells #[.slice none 0 0,.slice none 0 0,.slice none 0 0,.slice none 0 0,.slice none 0 0,.slice none 0 0,.slice none 0 0] 44):=by rw[am];exact zar _ _ _ McB
 have aK:Below w.heap.size w W0:=Mdb;rw[<-am];clear am;obtain⟨s0,s1,s2,s3,s4,s5,s6⟩:=zaF g0;have l2:=zab g2;have l0:w.heap.size<W0.heap.size:=Mcy;have aj:=zHi aK;have lV:=aK.size;clear aK
 go_upto_region 2 with(at_builtin
                       go_loud(refine zat (v:=.slice (some ⟨W0.heap.size,0,none⟩) 0 0) (n:=0) (m:=xs.length) rfl _ _ rfl zhi zcU zjT rfl (xs:=[]) (ys:=xs) (zjV W0 W0.heap.size (Nat.le_refl _)) rfl rfl rfl (bZ.o.keep (aj.o.trans (Below.mono (B:=W0.heap.size) Bw lV))) Mc6 Mcy McB ?_)
                       intro v2 w2 h1 h2 h3;rw[List.nil_append]at h1;have e0:w2.heap[w.heap.size]?=_:=(h2.block w.heap.size McD MdL).trans (zal g0);have e1:w2.heap[w.heap.size+1]?=_:=(h2.block (w.heap.size+1) McD MdL).trans (zal g1);have e2:w2.heap[w.heap.size+2]?=_:=(h2.block (w.heap.size+2) McD MdL).trans (zal g2);have bs:Below W0.heap.size W0 w2:=Below.grown (zad (Below.refl _ _) _) h2 McB Mdc;have eT:=h1.ge;obtain⟨V2,c2',rfl,_,_⟩:=h1.sl zcU;obtain⟨ga,go,rfl⟩:∃ga go,V2=some ⟨ga,go,none⟩:=by
                        rcases h1 with⟨he,h0⟩|⟨g',o',_,_,he,_⟩
                        ·rw[h0]at hi;exact absurd hi McB
                        ·simp only[Value.slice.injEq]at he;exact⟨g',o',he.1⟩
                       have zU:=(eT ga rfl).1;have bi:=OwnS.row zcU h1;have f6:=frz e0 6;obtain⟨y0,y1,y2,y3,y4,y5,y6⟩:=zaF e0
                       clear h1 h2 h3 eT)
 obtain⟨W3,aY⟩:∃W3,W3=w2.setCell ⟨w.heap.size,6,none⟩ (.slice (some ⟨ga,go,none⟩) xs.length c2'):=⟨_,rfl⟩
 have b0:W3.heap[w.heap.size]?=some (.cells #[.slice LA laws.length c0,.slice CA s.children.length c1,.slice MA s.marriages.length c2,.slice DA s.dead.length c3,.slice WA wd.length c4,.slice RA rd.length c5,.slice (some ⟨ga,go,none⟩) xs.length c2'] 44):=by
  rw[aY];have:=Joins.block_setCell (i:=6) e0 (.slice (some ⟨ga,go,none⟩) xs.length c2');simpa using this
 have b1:W3.heap[w.heap.size+1]?=some (.cells #[.string x.g.place,.int .i64 x.g.cls,.int .i64 x.g.fin,.slice x.H x.g.holders.length x.hc,.slice x.D x.g.died.length x.dc] 100):=by rw[aY];exact J_ne Mcy e1
 have b2:W3.heap[w.heap.size+2]?=some (.cells #[.slice none 0 0,.slice none 0 0,.slice none 0 0,.slice none 0 0,.slice none 0 0,.slice none 0 0,.slice none 0 0] 44):=by rw[aY];exact J_ne Mcy e2
 have r3:RowC W3 100 ga go 5 (xs.map GX.cells):=by rw[aY];exact bi.ne Mcy
 have dS:Below w.heap.size w W3:=by rw[aY];exact zaP (aj.o.trans (bs.mono lV)) McB _
 rw[<-aY];clear aY bi e0 e1 e2 bs f6 y0 y1 y2 y3 y4 y5 y6 s0 s1 s2 s3 s4 s5 s6 g0 g1 g2;obtain⟨s0,s1,s2,s3,s4,s5,s6⟩:=zaF b0;obtain⟨v0,v1,v2,v3,v4⟩:=zea b1;have aO:(xs.map GX.cells)[i]?=some (xs[i]).cells:=by rw[List.getElem?_map,List.getElem?_eq_getElem hi];rfl
 have gT:∀j u,(xs[i]).cells[j]?=some u->W3.cell? ⟨ga,go+i*5+j,none⟩=some u:=fun j u hu=>r3.at aO hu
 have rf:=r3.frz;have q0:=gT 0 _ rfl;have q1:=gT 1 _ rfl;have q2:=gT 2 _ rfl;have q3:=gT 3 _ rfl;have q4:=gT 4 _ rfl;simp only[Nat.add_zero]at q0;have t0:RowC (W3.setCell ⟨ga,go+i*5,none⟩ (.string x.g.place)) 100 ga go 5 _:=r3.set (j:=0) (u:=.string x.g.place) aO McA;have sr:i<(xs.map GX.cells).length:=by rw[List.length_map];exact hi
 have t1:=t0.set (i:=i) (j:=1) (u:=.int .i64 x.g.cls) (c:=(xs[i]).cells.set 0 (.string x.g.place)) (by rw[List.getElem?_set_self sr]) McA;have t2:=t1.set (i:=i) (j:=2) (u:=.int .i64 x.g.fin) (c:=((xs[i]).cells.set 0 (.string x.g.place)).set 1 (.int .i64 x.g.cls)) (by rw[List.getElem?_set_self (by rw[List.length_set];exact sr)]) McA;have t3:=t2.set (i:=i) (j:=3) (u:=.slice x.H x.g.holders.length x.hc) (c:=(((xs[i]).cells.set 0 (.string x.g.place)).set 1 (.int .i64 x.g.cls)).set 2 (.int .i64 x.g.fin)) (by rw[List.getElem?_set_self (by rw[List.length_set,List.length_set];exact sr)]) McA;have t4:=t3.set (i:=i) (j:=4) (u:=.slice x.D x.g.died.length x.dc) (c:=((((xs[i]).cells.set 0 (.string x.g.place)).set 1 (.int .i64 x.g.cls)).set 2 (.int .i64 x.g.fin)).set 3 (.slice x.H x.g.holders.length x.hc)) (by rw[List.getElem?_set_self (by rw[List.length_set,List.length_set,List.length_set];exact sr)]) McA;have xb:(i:Int)<(xs.length:Int):=Mcy;have fm:(0:Int)<=(i:Int):=Mcy;obtain⟨T4,R3,aD,B0,B2⟩:=yH5 t4 r3 dS b0 b2;have aI:w.heap.size≠ga:=Mcy;have sg:ga≠w.heap.size:=Mcy;have dq:ga≠w.heap.size+2:=Mcy;have mD:w.heap.size+2≠ga:=Mcy;clear t0 t1 t2 t3 t4 r3 dS b0 b1 b2 gT sr;go_upto_region 3 with fail
 obtain⟨W4,ij⟩:∃W4,W4=((((W3.setCell ⟨ga,go+i*5,none⟩ (.string x.g.place)).setCell ⟨ga,go+i*5+1,none⟩ (.int .i64 x.g.cls)).setCell ⟨ga,go+i*5+2,none⟩ (.int .i64 x.g.fin)).setCell ⟨ga,go+i*5+3,none⟩ (.slice x.H x.g.holders.length x.hc)).setCell ⟨ga,go+i*5+4,none⟩ (.slice x.D x.g.died.length x.dc):=⟨_,rfl⟩
 have t4:=T4.o;rw[<-ij]at t4⊢;have b0:W4.heap[w.heap.size]?=some (.cells #[.slice LA laws.length c0,.slice CA s.children.length c1,.slice MA s.marriages.length c2,.slice DA s.dead.length c3,.slice WA wd.length c4,.slice RA rd.length c5,.slice (some ⟨ga,go,none⟩) xs.length c2'] 44):=by rw[ij];exact J_ne aI (J_ne aI (J_ne aI (J_ne aI (J_ne aI B0.o))))
 have b2:W4.heap[w.heap.size+2]?=some (.cells #[.slice none 0 0,.slice none 0 0,.slice none 0 0,.slice none 0 0,.slice none 0 0,.slice none 0 0,.slice none 0 0] 44):=by rw[ij];exact J_ne mD (J_ne mD (J_ne mD (J_ne mD (J_ne mD B2.o))))
 have qW:Below w.heap.size w W4:=by rw[ij];exact zaP (zaP (zaP (zaP (zaP aD.o Mdu _) Mdu _) Mdu _) Mdu _) Mdu _
 have bh:(xs.set i x).map GX.cells=(((((xs.map GX.cells).set i ((xs[i]).cells.set 0 (.string x.g.place))).set i (((xs[i]).cells.set 0 (.string x.g.place)).set 1 (.int .i64 x.g.cls))).set i ((((xs[i]).cells.set 0 (.string x.g.place)).set 1 (.int .i64 x.g.cls)).set 2 (.int .i64 x.g.fin))).set i (((((xs[i]).cells.set 0 (.string x.g.place)).set 1 (.int .i64 x.g.cls)).set 2 (.int .i64 x.g.fin)).set 3 (.slice x.H x.g.holders.length x.hc))).set i ((((((xs[i]).cells.set 0 (.string x.g.place)).set 1 (.int .i64 x.g.cls)).set 2 (.int .i64 x.g.fin)).set 3 (.slice x.H x.g.holders.length x.hc)).set 4 (.slice x.D x.g.died.length x.dc)):=by
  simp only[List.set_set,List.map_set];rfl
 rw[<-bh]at t4;obtain⟨T5,cM⟩:=yH2 t4 qW;clear t4 bh T4 R3 aD B0 B2 ij qW s0 s1 s2 s3 s4 s5 s6 v0 v1 v2 v3 v4 q0 q1 q2 q3 q4 rf aO;obtain⟨s0,s1,s2,s3,s4,s5,s6⟩:=zaF b0;obtain⟨r0,r1,r2,r3,r4,r5,r6⟩:=zaF b2;have rf:=frz b2;go_wp2_with fail
 refine bodyPost_ret (v:=.agg #[.slice LA laws.length c0,.slice CA s.children.length c1,.slice MA s.marriages.length c2,.slice DA s.dead.length c3,.slice WA wd.length c4,.slice RA rd.length c5,.slice (some ⟨ga,go,none⟩) xs.length c2']) ?_ rfl ?_
 ·exact zjU rfl _ rfl (zcy b2)
 ·have jH:=zcA (a0:=.slice LA laws.length c0) (a1:=.slice CA s.children.length c1) (a2:=.slice MA s.marriages.length c2) (a3:=.slice DA s.dead.length c3) (a4:=.slice WA wd.length c4) (a5:=.slice RA rd.length c5) (a6:=.slice (some ⟨ga,go,none⟩) xs.length c2') cM.o (show w.heap.size<=w.heap.size+2 by omega);exact⟨ga,go,c2',by first|rfl|rw[fN.o],T5.o.ne7 dq,jH⟩

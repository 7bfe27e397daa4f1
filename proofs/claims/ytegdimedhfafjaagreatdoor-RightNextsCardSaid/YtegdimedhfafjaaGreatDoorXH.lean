import Derived.Test.YtegdimedhfafjaaGreatDoorXB
import Derived.Test.YtegdimedhfafjaaGreatDoorDR
set_option linter.all false
set_option maxRecDepth 100000
set_option maxHeartbeats 4000000
namespace Go.Proofs.YtegdimedhfafjaaGreatDoor
open Go.RowKit Go.Shelf
attribute [local go_sem] World.cell?_alloc_mark zaf za5 zao za8 zav zaw zax zay zaz za0 za1
attribute [local go_sem] zaq zad
theorem slw_list{α β:Type}{W:World}{size:Nat}{R:World->α->List Value->Prop}{f:β->List Value}{pr:β->α}{G:β->Prop}(hR:∀x cs,R W x cs->∃y,pr y=x/\G y/\f y=cs){A:Option Addr}{xs:List α}(h:SlW W size R A xs):
 ∃ys:List β,ys.map pr=xs/\(∀y∈ys,G y)/\Sl W size f A ys:=by
 by_cases h0:xs=[]
 ·subst h0;exact⟨[],rfl,by simp,fun h=>absurd h Mcp⟩
 ·have hl:0<xs.length:=List.length_pos_iff.2 h0;obtain⟨b,off,hA,hb,hc⟩:=h hl;have b9:∀n,n<=xs.length->∃ys:List β,ys.map pr=xs.take n/\(∀y∈ys,G y)/\∀k y,ys[k]?=some y->∀j u,(f y)[j]?=some u->W.cell? ⟨b,off+k*size+j,none⟩=some u:=by
   intro n;induction n with
   |zero=>intro _;exact⟨[],by simp,by simp,by simp⟩
   |succ n ih=>
    intro hn;obtain⟨ys,h1,h2,h3⟩:=ih Mcm;obtain⟨cs,hr,ah⟩:=hc n _ (List.getElem?_eq_getElem (show n<xs.length by omega));obtain⟨y,e1,e2,e3⟩:=hR _ _ hr;have ag:ys.length=n:=by
     have:=congrArg List.length h1;simp at this;omega
    refine⟨ys++[y],?_,?_,?_⟩
    ·rw[List.map_append,h1,List.take_add_one,List.getElem?_eq_getElem (show n<xs.length by omega)];simp[e1]
    ·intro z hz;rcases List.mem_append.1 hz with hz|hz
     ·exact h2 z hz
     ·rw[List.mem_singleton.1 hz];exact e2
    ·intro k z hk;by_cases jB:k<n
     ·rw[List.getElem?_append_left Mcm]at hk;exact h3 k z hk
     ·have fQ:k=n:=by
       exact MbJ
      subst fQ;rw[List.getElem?_append_right Mcm,ag]at hk;simp at hk;subst hk;intro j u hu;exact ah j u (by rw[<-e3];exact hu)
  obtain⟨ys,h1,h2,h3⟩:=b9 xs.length (Nat.le_refl _);rw[List.take_length]at h1;exact⟨ys,h1,h2,fun _=>⟨b,off,hA,hb,h3⟩⟩
theorem slw_back{α β:Type}{W:World}{size:Nat}{R:World->α->List Value->Prop}{f:β->List Value}{pr:β->α}{G:β->Prop}(hG:∀y,G y->R W (pr y) (f y)){A:Option Addr}{xs:List α}{ys:List β}(h:Sl W size f A ys)(hm:ys.map pr=xs)(hg:∀y∈ys,G y):SlW W size R A xs:=fun hl=>by
 subst hm;obtain⟨b,off,hA,hb,hc⟩:=h (by simpa using hl);refine⟨b,off,hA,hb,fun k x hk=>?_⟩;rw[List.getElem?_map]at hk;obtain⟨y,hy,rfl⟩:=Option.map_eq_some_iff.1 hk;exact⟨f y,hG y (hg y (List.mem_of_getElem? hy)),fun j u hu=>hc k y hy j u hu⟩
structure GX where
 g:Grave
 H:Option Addr
 hc:Nat
 D:Option Addr
 dc:Nat
def GX.cells(x:GX):List Value:=[.string x.g.place,.int .i64 x.g.cls,.int .i64 x.g.fin,.slice x.H x.g.holders.length x.hc,.slice x.D x.g.died.length x.dc]
theorem zcO(x:GX):x.cells.length=5:=rfl
theorem zjY(x:GX):∀u∈x.cells,u.oneCell'=true:=by simp[GX.cells,Value.oneCell']
def GX.ok(W:World)(x:GX):Prop:=Sl W 3 zaa x.H x.g.holders/\Sl W 1 sC x.D x.g.died
theorem GX.ok.keep{W W':World}{x:GX}{n:Nat}(h:x.ok W)(hB:Below n W W')(hn:W.heap.size<=n:=by first|exact Nat.le_refl _|omega):x.ok W':=⟨h.1.keep hB hn,h.2.keep hB hn⟩
theorem gx_of{W:World}{A:Option Addr}{gs:List Grave}(h:SlW W 5 zhY A gs):∃xs:List GX,xs.map (·.g)=gs/\(∀x∈xs,x.ok W)/\Sl W 5 GX.cells A xs:=
 slw_list (fun x cs hr=>by
  obtain⟨H,hc,D,dc,rfl,h1,h2⟩:=hr
  exact⟨⟨x,H,hc,D,dc⟩,rfl,⟨h1,h2⟩,rfl⟩) h
theorem slw_gx{W:World}{A:Option Addr}{gs:List Grave}{xs:List GX}(h:Sl W 5 GX.cells A xs)(hm:xs.map (·.g)=gs)(hg:∀x∈xs,x.ok W):SlW W 5 zhY A gs:=
 slw_back (fun y hy=>⟨y.H,y.hc,y.D,y.dc,rfl,hy.1,hy.2⟩) h hm hg
theorem zhn:ElTy Tryz.prog 39 189 5 80:=zd3 (z:=.agg #[.string ⟨#[]⟩,.int .i64 0,.int .i64 0,.slice none 0 0,.slice none 0 0]) Mcn Mcn rfl Mco
structure RowC (W:World) (e:TypeId) (g o size:Nat) (css:List (List Value)):Prop where
 len:∀c∈css,c.length=size
 row:∃cur,W.heap[g]?=some (.cells cur e (0,0))/\o+css.length*size<=cur.size/\∀k c,css[k]?=some c->∀j u,c[j]?=some u->cur[o+k*size+j]?=some u
section
variable {W W':World} {e:TypeId} {g o size:Nat} {css:List (List Value)}
theorem RowC.at(h:RowC W e g o size css){k:Nat}{c:List Value}(hk:css[k]?=some c){j:Nat}{u:Value}(hj:c[j]?=some u):W.cell? ⟨g,o+k*size+j,none⟩=some u:=by
 obtain⟨cur,h1,_,h3⟩:=h.row;simp only[World.cell?,h1];exact h3 k c hk j u hj
theorem RowC.lt(h:RowC W e g o size css):g<W.heap.size:=by
 obtain⟨cur,h1,_⟩:=h.row;exact zab h1
theorem RowC.frz(h:RowC W e g o size css):∀j,W.frozen? ⟨g,j,none⟩=false:=by
 obtain⟨cur,h1,_⟩:=h.row;exact Go.Proofs.YtegdimedhfafjaaGreatDoor.frz h1
theorem RowC.block(h:RowC W e g o size css)(hb:W'.heap[g]?=W.heap[g]?):RowC W' e g o size css:=by
 obtain⟨cur,h1,h2⟩:=h.row;exact⟨h.len,cur,hb.trans h1,h2⟩
theorem RowC.keep{n:Nat}(h:RowC W e g o size css)(hB:Below n W W')(hn:W.heap.size<=n:=by first|exact Nat.le_refl _|omega):RowC W' e g o size css:=h.block (hB.block g (Nat.lt_of_lt_of_le h.lt hn))
theorem RowC.sl{α:Type}{f:α->List Value}{xs:List α}(h:RowC W e g o size css)(hc:css=xs.map f):Sl W size f (some ⟨g,o,none⟩) xs:=fun _=>
 ⟨g,o,rfl,h.lt,fun k x hk j u hu=>h.at (k:=k) (by rw[hc,List.getElem?_map,hk];rfl) hu⟩
theorem OwnS.row{α:Type}{base n cap:Nat}{f:α->List Value}{xs:List α}(ag:∀x,(f x).length=size)(h:OwnS W base e size f (.slice (some ⟨g,o,none⟩) n cap) xs):RowC W e g o size (xs.map f):=by
 rcases h with⟨h,_⟩|⟨g',o',c',cur,h,hb,hg,hc,hm,hs,hx⟩
 ·cases h
 ·simp only[Value.slice.injEq,Option.some.injEq,Addr.mk.injEq,and_true]at h;obtain⟨⟨rfl,rfl⟩,rfl,rfl⟩:=h;refine⟨fun c hc=>?_,cur,hg,?_,fun k c hk j u hu=>?_⟩
  ·obtain⟨x,_,rfl⟩:=List.mem_map.1 hc;exact ag x
  ·rw[List.length_map];exact Nat.le_trans (Nat.add_le_add_left (Nat.mul_le_mul_right _ hc) _) hs
  ·rw[List.getElem?_map]at hk;obtain⟨x,dA,rfl⟩:=Option.map_eq_some_iff.1 hk;have:=hx (k*size+j) u (zeV f size ag xs k x dA j u hu);rw[Nat.add_assoc];exact this
theorem RowC.set(h:RowC W e g o size css){i j:Nat}{c:List Value}{u:Value}(hi:css[i]?=some c)(hj:j<size):RowC (W.setCell ⟨g,o+i*size+j,none⟩ u) e g o size (css.set i (c.set j u)):=by
 obtain⟨cur,h1,h2,h3⟩:=h.row;have bk:=h.len c (List.mem_of_getElem? hi);have eU:i<css.length:=(List.getElem?_eq_some_iff.1 hi).1;have aQ:o+i*size+j<cur.size:=by
  have:(i+1)*size<=css.length*size:=Nat.mul_le_mul_right _ eU;rw[Nat.add_mul]at this;omega
 have hb:=Joins.block_setCell (i:=o+i*size+j) h1 u;refine⟨fun d hd=>?_,_,hb,?_,fun k d hk m v hm=>?_⟩
 ·rcases List.mem_or_eq_of_mem_set hd with hd|rfl
  ·exact h.len d hd
  ·rw[List.length_set];exact bk
 ·rw[List.length_set];simpa using h2
 ·rw[List.getElem?_set]at hk;by_cases au:i=k
  ·subst au;rw[if_pos rfl,if_pos eU]at hk;simp only[Option.some.injEq]at hk;subst hk;rw[List.getElem?_set]at hm;by_cases hjm:j=m
   ·subst hjm;rw[if_pos rfl,if_pos Mcm]at hm;simp only[Option.some.injEq]at hm;subst hm;simp[aQ]
   ·rw[if_neg hjm]at hm;have:=h3 i c hi m v hm;rw[Array.getElem?_setIfInBounds_ne Mcm];exact this
  ·rw[if_neg au]at hk;have fI:m<size:=by
    have:=(List.getElem?_eq_some_iff.1 hm).1;rw[h.len d (List.mem_of_getElem? hk)]at this;exact this
   have ai:o+i*size+j≠o+k*size+m:=by
    intro he;have mu:i*size+j=k*size+m:=Mcm;rcases Nat.lt_or_gt_of_ne au with aa|aa
    ·have:(i+1)*size<=k*size:=Nat.mul_le_mul_right _ aa;rw[Nat.add_mul]at this;omega
    ·have:(k+1)*size<=i*size:=Nat.mul_le_mul_right _ aa;rw[Nat.add_mul]at this;omega
   rw[Array.getElem?_setIfInBounds_ne ai];exact h3 k d hk m v hm
end
def StAt(w:World)(laws:List Law)(s:St)(a0 a1 a2 a3 a4 a5 a6:Value):Prop:=
 ∃(wd rd:List Deed) (LA CA MA DA WA RA GA:Option Addr) (c0 c1 c2 c3 c4 c5 c6:Nat),a0=.slice LA laws.length c0/\a1=.slice CA s.children.length c1/\a2=.slice MA s.marriages.length c2/\a3=.slice DA s.dead.length c3/\a4=.slice WA wd.length c4/\a5=.slice RA rd.length c5/\a6=.slice GA s.graves.length c6/\
  StIn w laws s wd rd LA CA MA DA WA RA GA c0 c1 c2 c3 c4 c5 c6/\StLink s wd rd
def zcG:Value->Bool
 | .slice ..=>true
 |_=>false
theorem zeM{a:Value}(h:zcG a=true):∃A n c,a=.slice A n c:=by
 cases a<;>first|exact⟨_,_,_,rfl⟩|cases h
theorem zc0{a0 a1 a2 a3 a4 a5 a6:Value}(h:([a0,a1,a2,a3,a4,a5,a6].all zcG)=true):(∃A n c,a0=.slice A n c)/\(∃A n c,a1=.slice A n c)/\(∃A n c,a2=.slice A n c)/\(∃A n c,a3=.slice A n c)/\(∃A n c,a4=.slice A n c)/\(∃A n c,a5=.slice A n c)/\(∃A n c,a6=.slice A n c):=by
 simp only[List.all_cons,Bool.and_eq_true]at h;obtain⟨h0,h1,h2,h3,h4,h5,h6,_⟩:=h;exact⟨zeM h0,zeM h1,zeM h2,zeM h3,zeM h4,zeM h5,zeM h6⟩
def zeT(w:World)(laws:List Law)(R:St×Int)(e:Ending)(w':World):Prop:=
 ∃a0 a1 a2 a3 a4 a5 a6,e=.returned (.tuple #[.agg #[a0,a1,a2,a3,a4,a5,a6],.int .i64 R.2])/\([a0,a1,a2,a3,a4,a5,a6].all zcG)=true/\Below w.heap.size w w'/\(R.2=0->StAt w' laws R.1 a0 a1 a2 a3 a4 a5 a6)
theorem zpp{fn:Func}{p q:Tmp}{a:TypeId}(h:fn.results= #[.cell p a,.tmp q])(tmps:Array Value)(P:Program)(w:World):
 (results fn tmps).run P w=((asAddr (tmps.getD p undef)).run P w).andThen fun x w₁=>((loadVar a x).run P w₁).andThen fun v w₂=> .ok (.tuple #[v,tmps.getD q undef]) w₂:=by
 exact Mbp
section
variable {w:World} {B:Nat} {x0 x1 x2 x3 x4 x5 x6 y:Value}
theorem zbD{fn:Func}{p q:Tmp}(h:fn.results= #[.cell p 41,.tmp q])(tmps:Array Value)(hp:tmps.getD p undef=.pointer (some ⟨B,0,none⟩))(hq:tmps.getD q undef=y)
 (hx:w.heap[B]?=some (.cells #[x0,x1,x2,x3,x4,x5,x6] 41)):(results fn tmps).run Tryz.prog w=.ok (.tuple #[.agg #[x0,x1,x2,x3,x4,x5,x6],y]) w:=by
 obtain⟨h0,h1,h2,h3,h4,h5,h6⟩:=zaG hx;clear hx;rw[zpp h,hp,hq];go_simp
theorem zpq{fn:Func}{p:Tmp}(h:fn.results= #[.cell p 41])(tmps:Array Value)(hp:tmps.getD p undef=.pointer (some ⟨B,0,none⟩))
 (hx:w.heap[B]?=some (.cells #[x0,x1,x2,x3,x4,x5,x6] 41)):(results fn tmps).run Tryz.prog w=.ok (.agg #[x0,x1,x2,x3,x4,x5,x6]) w:=by
 obtain⟨h0,h1,h2,h3,h4,h5,h6⟩:=zaG hx;exact Ma2
end
theorem RowC.ne{W:World}{e:TypeId}{g o size b j:Nat}{u:Value}{css:List (List Value)}(h:RowC W e g o size css)(ai:g≠b):RowC (W.setCell ⟨b,j,none⟩ u) e g o size css:=by
 obtain⟨cur,h1,h2⟩:=h.row;exact⟨h.len,cur,J_ne ai h1,h2⟩
theorem zcA{n b:Nat}{w W:World}{a0 a1 a2 a3 a4 a5 a6:Value}(h:Below n w W)(hb:n<=b):Below n w (((((((W.setCell ⟨b,0,none⟩ a0).setCell ⟨b,1,none⟩ a1).setCell ⟨b,2,none⟩ a2).setCell ⟨b,3,none⟩ a3).setCell ⟨b,4,none⟩ a4).setCell ⟨b,5,none⟩ a5).setCell ⟨b,6,none⟩ a6):=
 zaL (zaL (zaL (zaL (zaL (zaL (zaL h hb _) hb _) hb _) hb _) hb _) hb _) hb _
theorem RowC.ne7{W:World}{e:TypeId}{g o size b:Nat}{a0 a1 a2 a3 a4 a5 a6:Value}{css:List (List Value)}(h:RowC W e g o size css)(ai:g≠b):RowC (((((((W.setCell ⟨b,0,none⟩ a0).setCell ⟨b,1,none⟩ a1).setCell ⟨b,2,none⟩ a2).setCell ⟨b,3,none⟩ a3).setCell ⟨b,4,none⟩ a4).setCell ⟨b,5,none⟩ a5).setCell ⟨b,6,none⟩ a6) e g o size css:=
 ((((((h.ne ai).ne ai).ne ai).ne ai).ne ai).ne ai).ne ai
theorem zjZ(W:World)(base:Nat)(h:base<=W.heap.size):OwnS (W.alloc (.cells #[] 189)) base 189 5 GX.cells (.slice (some ⟨W.heap.size,0,none⟩) 0 0) []:=
 OwnS.of_own zcO (World.ownsRow_made W #[] 0 h (Nat.zero_le _) Mcp)
def zgM(w:World)(laws:List Law)(s:St)(wd rd:List Deed)(LA CA MA DA WA RA GA:Option Addr)(c0 c1 c2 c3 c4 c5 c6:Nat)(gxs:List GX)(i:Nat)(x:GX)(e:Ending)(w':World):Prop:=
 ∃(ga go c:Nat),e=.returned (.agg #[.slice LA laws.length c0,.slice CA s.children.length c1,.slice MA s.marriages.length c2,.slice DA s.dead.length c3,.slice WA wd.length c4,.slice RA rd.length c5,.slice (some ⟨ga,go,none⟩) s.graves.length c])/\RowC w' 189 ga go 5 ((gxs.set i x).map GX.cells)/\Below w.heap.size w w'
theorem ziX(laws:List Law)(s:St)(wd rd:List Deed)(LA CA MA DA WA RA GA:Option Addr)(c0 c1 c2 c3 c4 c5 c6:Nat)(xs:List GX)(i:Nat)(x:GX)(w:World)(hm:xs.map (·.g)=s.graves)(bu:Sl w 5 GX.cells GA xs)(hf:StFew s wd rd)(hi:i<s.graves.length):
 Calls Tryz.prog 147 #[.agg #[.slice LA laws.length c0,.slice CA s.children.length c1,.slice MA s.marriages.length c2,.slice DA s.dead.length c3,.slice WA wd.length c4,.slice RA rd.length c5,.slice GA s.graves.length c6],.int .i64 i,.agg x.cells.toArray] w (zgM w laws s wd rd LA CA MA DA WA RA GA c0 c1 c2 c3 c4 c5 c6 xs i x):=by
 have bs:xs.length=s.graves.length:=by rw[<-hm,List.length_map]
 have KG:=hf.graves;have ca:=zHi bu;unfold zgM GX.cells;rw[<-bs]at hi KG⊢;have eZ:=zHi bs;clear hm bu hf bs;go_enter Tryz.func147,Tryz.ntmps147
 go_upto_region 1 with fail
 obtain⟨W0,ao⟩:∃W0,W0=((w.alloc (.cells #[.slice LA laws.length c0,.slice CA s.children.length c1,.slice MA s.marriages.length c2,.slice DA s.dead.length c3,.slice WA wd.length c4,.slice RA rd.length c5,.slice GA xs.length c6] 41)).alloc (.cells #[.string x.g.place,.int .i64 x.g.cls,.int .i64 x.g.fin,.slice x.H x.g.holders.length x.hc,.slice x.D x.g.died.length x.dc] 189)).alloc (.cells #[.slice none 0 0,.slice none 0 0,.slice none 0 0,.slice none 0 0,.slice none 0 0,.slice none 0 0,.slice none 0 0] 41):=⟨_,rfl⟩
 have g0:W0.heap[w.heap.size]?=some (.cells #[.slice LA laws.length c0,.slice CA s.children.length c1,.slice MA s.marriages.length c2,.slice DA s.dead.length c3,.slice WA wd.length c4,.slice RA rd.length c5,.slice GA xs.length c6] 41):=Mds;have g1:W0.heap[w.heap.size+1]?=some (.cells #[.string x.g.place,.int .i64 x.g.cls,.int .i64 x.g.fin,.slice x.H x.g.holders.length x.hc,.slice x.D x.g.died.length x.dc] 189):=by rw[ao];exact zak (zas _ _ _ Mcp)
 have g2:W0.heap[w.heap.size+2]?=some (.cells #[.slice none 0 0,.slice none 0 0,.slice none 0 0,.slice none 0 0,.slice none 0 0,.slice none 0 0,.slice none 0 0] 41):=by rw[ao];exact zas _ _ _ Mcp
 have aO:Below w.heap.size w W0:=McW;rw[<-ao];clear ao;obtain⟨s0,s1,s2,s3,s4,s5,s6⟩:=zaG g0;have l2:=zab g2;have l0:w.heap.size<W0.heap.size:=Mcm;have ak:=zHi aO;have lT:=aO.size;clear aO
 go_upto_region 2 with(at_builtin
                       go_loud(refine zau (v:=.slice (some ⟨W0.heap.size,0,none⟩) 0 0) (n:=0) (m:=xs.length) rfl _ _ rfl zhn zcO zjY rfl (xs:=[]) (ys:=xs) (zjZ W0 W0.heap.size (Nat.le_refl _)) rfl rfl rfl (ca.o.keep (ak.o.trans (Below.mono (B:=W0.heap.size) Bw lT))) McS Mcm Mcp ?_)
                       intro v2 w2 h1 h2 h3;rw[List.nil_append]at h1;have e0:w2.heap[w.heap.size]?=_:=(h2.block w.heap.size Mcr MdG).trans (zak g0);have e1:w2.heap[w.heap.size+1]?=_:=(h2.block (w.heap.size+1) Mcr MdG).trans (zak g1);have e2:w2.heap[w.heap.size+2]?=_:=(h2.block (w.heap.size+2) Mcr MdG).trans (zak g2);have bF:Below W0.heap.size W0 w2:=Below.grown (zac (Below.refl _ _) _) h2 Mcp Mc0;have dg:=h1.ge;obtain⟨V2,c2',rfl,_,_⟩:=h1.sl zcO;obtain⟨ga,go,rfl⟩:∃ga go,V2=some ⟨ga,go,none⟩:=by
                        rcases h1 with⟨he,h0⟩|⟨g',o',_,_,he,_⟩
                        ·rw[h0]at hi;exact absurd hi Mcp
                        ·simp only[Value.slice.injEq]at he;exact⟨g',o',he.1⟩
                       have Ao:=(dg ga rfl).1;have bh:=OwnS.row zcO h1;have f6:=frz e0 6;obtain⟨y0,y1,y2,y3,y4,y5,y6⟩:=zaG e0
                       clear h1 h2 h3 dg)
 obtain⟨W3,bm⟩:∃W3,W3=w2.setCell ⟨w.heap.size,6,none⟩ (.slice (some ⟨ga,go,none⟩) xs.length c2'):=⟨_,rfl⟩
 have b0:W3.heap[w.heap.size]?=some (.cells #[.slice LA laws.length c0,.slice CA s.children.length c1,.slice MA s.marriages.length c2,.slice DA s.dead.length c3,.slice WA wd.length c4,.slice RA rd.length c5,.slice (some ⟨ga,go,none⟩) xs.length c2'] 41):=by
  rw[bm];have:=Joins.block_setCell (i:=6) e0 (.slice (some ⟨ga,go,none⟩) xs.length c2');simpa using this
 have b1:W3.heap[w.heap.size+1]?=some (.cells #[.string x.g.place,.int .i64 x.g.cls,.int .i64 x.g.fin,.slice x.H x.g.holders.length x.hc,.slice x.D x.g.died.length x.dc] 189):=by rw[bm];exact J_ne Mcm e1
 have b2:W3.heap[w.heap.size+2]?=some (.cells #[.slice none 0 0,.slice none 0 0,.slice none 0 0,.slice none 0 0,.slice none 0 0,.slice none 0 0,.slice none 0 0] 41):=by rw[bm];exact J_ne Mcm e2
 have r3:RowC W3 189 ga go 5 (xs.map GX.cells):=by rw[bm];exact bh.ne Mcm
 have eN:Below w.heap.size w W3:=by rw[bm];exact zaL (ak.o.trans (bF.mono lT)) Mcp _
 rw[<-bm];clear bm bh e0 e1 e2 bF f6 y0 y1 y2 y3 y4 y5 y6 s0 s1 s2 s3 s4 s5 s6 g0 g1 g2;obtain⟨s0,s1,s2,s3,s4,s5,s6⟩:=zaG b0;obtain⟨v0,v1,v2,v3,v4⟩:=zed b1;have aT:(xs.map GX.cells)[i]?=some (xs[i]).cells:=by rw[List.getElem?_map,List.getElem?_eq_getElem hi];rfl
 have gZ:∀j u,(xs[i]).cells[j]?=some u->W3.cell? ⟨ga,go+i*5+j,none⟩=some u:=fun j u hu=>r3.at aT hu
 have rf:=r3.frz;have q0:=gZ 0 _ rfl;have q1:=gZ 1 _ rfl;have q2:=gZ 2 _ rfl;have q3:=gZ 3 _ rfl;have q4:=gZ 4 _ rfl;simp only[Nat.add_zero]at q0;have t0:RowC (W3.setCell ⟨ga,go+i*5,none⟩ (.string x.g.place)) 189 ga go 5 _:=r3.set (j:=0) (u:=.string x.g.place) aT Mco;have sE:i<(xs.map GX.cells).length:=by rw[List.length_map];exact hi
 have t1:=t0.set (i:=i) (j:=1) (u:=.int .i64 x.g.cls) (c:=(xs[i]).cells.set 0 (.string x.g.place)) (by rw[List.getElem?_set_self sE]) Mco;have t2:=t1.set (i:=i) (j:=2) (u:=.int .i64 x.g.fin) (c:=((xs[i]).cells.set 0 (.string x.g.place)).set 1 (.int .i64 x.g.cls)) (by rw[List.getElem?_set_self (by rw[List.length_set];exact sE)]) Mco;have t3:=t2.set (i:=i) (j:=3) (u:=.slice x.H x.g.holders.length x.hc) (c:=(((xs[i]).cells.set 0 (.string x.g.place)).set 1 (.int .i64 x.g.cls)).set 2 (.int .i64 x.g.fin)) (by rw[List.getElem?_set_self (by rw[List.length_set,List.length_set];exact sE)]) Mco;have t4:=t3.set (i:=i) (j:=4) (u:=.slice x.D x.g.died.length x.dc) (c:=((((xs[i]).cells.set 0 (.string x.g.place)).set 1 (.int .i64 x.g.cls)).set 2 (.int .i64 x.g.fin)).set 3 (.slice x.H x.g.holders.length x.hc)) (by rw[List.getElem?_set_self (by rw[List.length_set,List.length_set,List.length_set];exact sE)]) Mco;have xt:(i:Int)<(xs.length:Int):=Mcm;have fk:(0:Int)<=(i:Int):=Mcm;obtain⟨T4,R3,aL,B0,B2⟩:=yH5 t4 r3 eN b0 b2;have aK:w.heap.size≠ga:=Mcm;have sy:ga≠w.heap.size:=Mcm;have dj:ga≠w.heap.size+2:=Mcm;have mA:w.heap.size+2≠ga:=Mcm;clear t0 t1 t2 t3 t4 r3 eN b0 b1 b2 gZ sE;go_upto_region 3 with fail
 obtain⟨W4,ir⟩:∃W4,W4=((((W3.setCell ⟨ga,go+i*5,none⟩ (.string x.g.place)).setCell ⟨ga,go+i*5+1,none⟩ (.int .i64 x.g.cls)).setCell ⟨ga,go+i*5+2,none⟩ (.int .i64 x.g.fin)).setCell ⟨ga,go+i*5+3,none⟩ (.slice x.H x.g.holders.length x.hc)).setCell ⟨ga,go+i*5+4,none⟩ (.slice x.D x.g.died.length x.dc):=⟨_,rfl⟩
 have t4:=T4.o;rw[<-ir]at t4⊢;have b0:W4.heap[w.heap.size]?=some (.cells #[.slice LA laws.length c0,.slice CA s.children.length c1,.slice MA s.marriages.length c2,.slice DA s.dead.length c3,.slice WA wd.length c4,.slice RA rd.length c5,.slice (some ⟨ga,go,none⟩) xs.length c2'] 41):=by rw[ir];exact J_ne aK (J_ne aK (J_ne aK (J_ne aK (J_ne aK B0.o))))
 have b2:W4.heap[w.heap.size+2]?=some (.cells #[.slice none 0 0,.slice none 0 0,.slice none 0 0,.slice none 0 0,.slice none 0 0,.slice none 0 0,.slice none 0 0] 41):=by rw[ir];exact J_ne mA (J_ne mA (J_ne mA (J_ne mA (J_ne mA B2.o))))
 have Fa:Below w.heap.size w W4:=by rw[ir];exact zaL (zaL (zaL (zaL (zaL aL.o Mdp _) Mdp _) Mdp _) Mdp _) Mdp _
 have bj:(xs.set i x).map GX.cells=(((((xs.map GX.cells).set i ((xs[i]).cells.set 0 (.string x.g.place))).set i (((xs[i]).cells.set 0 (.string x.g.place)).set 1 (.int .i64 x.g.cls))).set i ((((xs[i]).cells.set 0 (.string x.g.place)).set 1 (.int .i64 x.g.cls)).set 2 (.int .i64 x.g.fin))).set i (((((xs[i]).cells.set 0 (.string x.g.place)).set 1 (.int .i64 x.g.cls)).set 2 (.int .i64 x.g.fin)).set 3 (.slice x.H x.g.holders.length x.hc))).set i ((((((xs[i]).cells.set 0 (.string x.g.place)).set 1 (.int .i64 x.g.cls)).set 2 (.int .i64 x.g.fin)).set 3 (.slice x.H x.g.holders.length x.hc)).set 4 (.slice x.D x.g.died.length x.dc)):=by
  simp only[List.set_set,List.map_set];rfl
 rw[<-bj]at t4;obtain⟨T5,eo⟩:=yH2 t4 Fa;clear t4 bj T4 R3 aL B0 B2 ir Fa s0 s1 s2 s3 s4 s5 s6 v0 v1 v2 v3 v4 q0 q1 q2 q3 q4 rf aT;obtain⟨s0,s1,s2,s3,s4,s5,s6⟩:=zaG b0;obtain⟨r0,r1,r2,r3,r4,r5,r6⟩:=zaG b2;have rf:=frz b2;go_wp2_with fail
 refine bodyPost_ret (v:=.agg #[.slice LA laws.length c0,.slice CA s.children.length c1,.slice MA s.marriages.length c2,.slice DA s.dead.length c3,.slice WA wd.length c4,.slice RA rd.length c5,.slice (some ⟨ga,go,none⟩) xs.length c2']) ?_ rfl ?_
 ·exact zpq rfl _ rfl (zc5 b2)
 ·have io:=zcA (a0:=.slice LA laws.length c0) (a1:=.slice CA s.children.length c1) (a2:=.slice MA s.marriages.length c2) (a3:=.slice DA s.dead.length c3) (a4:=.slice WA wd.length c4) (a5:=.slice RA rd.length c5) (a6:=.slice (some ⟨ga,go,none⟩) xs.length c2') eo.o (show w.heap.size<=w.heap.size+2 by omega);exact⟨ga,go,c2',by first|rfl|rw[eZ.o],T5.o.ne7 dj,io⟩
theorem zmq{W:World}{e t:TypeId}{g o size b:Nat}{css:List (List Value)}{cs:Array Value}{fr:Nat×Nat}(h:RowC W e g o size css)(hb:W.heap[b]?=some (.cells cs t fr))(ai:t≠e):g≠b:=fun he=>by
 obtain⟨cur,h1,_⟩:=h.row;rw[he,hb]at h1;simp only[Option.some.injEq,Obj.cells.injEq]at h1;exact ai h1.2.1
theorem zn1(laws:List Law)(s:St)(wd rd:List Deed)(LA CA MA DA WA RA GA:Option Addr)(c0 c1 c2 c3 c4 c5 c6:Nat)(gxs:List GX)(i:Nat)(hm:gxs.map (·.g)=s.graves){w:World}(bH:∀x∈gxs,x.ok w)(y:GX)(W:World)(ga go c:Nat)(h:StIn w laws s wd rd LA CA MA DA WA RA GA c0 c1 c2 c3 c4 c5 c6)(hk:StLink s wd rd)(hB:Below w.heap.size w W)(hr:RowC W 189 ga go 5 ((gxs.set i y).map GX.cells))(hy:y.ok W):
 StAt W laws (s.withGrave i y.g) (.slice LA laws.length c0) (.slice CA s.children.length c1) (.slice MA s.marriages.length c2) (.slice DA s.dead.length c3) (.slice WA wd.length c4) (.slice RA rd.length c5) (.slice (some ⟨ga,go,none⟩) s.graves.length c):=by
 have h':=h.keep hB;refine⟨wd,rd,LA,CA,MA,DA,WA,RA,some ⟨ga,go,none⟩,c0,c1,c2,c3,c4,c5,c,rfl,rfl,rfl,rfl,rfl,rfl,?_,⟨h'.laws,h'.kids,h'.marr,h'.dead,h'.wills,h'.ren,?_,h'.deadc⟩,⟨hk.wills,hk.shares,hk.ren,hk.tos⟩⟩
 ·unfold St.withGrave;rw[List.length_set]
 ·refine slw_gx (hr.sl rfl) (by unfold St.withGrave;rw[List.map_set,hm]) fun x hx=>?_
  rcases List.mem_or_eq_of_mem_set hx with hx|rfl
  ·exact(bH x hx).keep hB
  ·exact hy
theorem ddF{W:World}{a b c:Nat}{x0 x1 x2 x3 x4 x5 x6 y0 y1 y2 y3 y4 y5 y6 z0 z1 z2 z3 z4 z5 z6:Value}{t t' u:TypeId}{f f':Nat×Nat}(h:W.heap[a]?=some (.cells #[x0,x1,x2,x3,x4,x5,x6] t f)/\W.heap[b]?=some (.cells #[y0,y1,y2,y3,y4,y5,y6] t' f')/\W.heap[c]?=some (.cells #[z0,z1,z2,z3,z4,z5,z6] u (0,0))):
 (W.heap[a]?=some (.cells #[x0,x1,x2,x3,x4,x5,x6] t f)/\W.heap[b]?=some (.cells #[y0,y1,y2,y3,y4,y5,y6] t' f')/\W.heap[c]?=some (.cells #[z0,z1,z2,z3,z4,z5,z6] u (0,0)))/\(W.cell? ⟨a,0,none⟩=some x0/\W.cell? ⟨a,1,none⟩=some x1/\W.cell? ⟨a,2,none⟩=some x2/\W.cell? ⟨a,3,none⟩=some x3/\W.cell? ⟨a,4,none⟩=some x4/\W.cell? ⟨a,5,none⟩=some x5/\W.cell? ⟨a,6,none⟩=some x6)/\(W.cell? ⟨b,0,none⟩=some y0/\W.cell? ⟨b,1,none⟩=some y1/\W.cell? ⟨b,2,none⟩=some y2/\W.cell? ⟨b,3,none⟩=some y3/\W.cell? ⟨b,4,none⟩=some y4/\W.cell? ⟨b,5,none⟩=some y5/\W.cell? ⟨b,6,none⟩=some y6)/\(W.cell? ⟨c,0,none⟩=some z0/\W.cell? ⟨c,1,none⟩=some z1/\W.cell? ⟨c,2,none⟩=some z2/\W.cell? ⟨c,3,none⟩=some z3/\W.cell? ⟨c,4,none⟩=some z4/\W.cell? ⟨c,5,none⟩=some z5/\W.cell? ⟨c,6,none⟩=some z6)/\(∀j,W.frozen? ⟨c,j,none⟩=false)/\a<W.heap.size/\b<W.heap.size/\c<W.heap.size:=
 ⟨h,zaG h.1,zaG h.2.1,zaG h.2.2,frz h.2.2,zab h.1,zab h.2.1,zab h.2.2⟩
theorem dd_boxes{w:World}(o0 o1 o2:Obj):Hid (Below w.heap.size w (((w.alloc o0).alloc o1).alloc o2))/\Hid (∀W,Below (((w.alloc o0).alloc o1).alloc o2).heap.size (((w.alloc o0).alloc o1).alloc o2) W->W.heap[w.heap.size]?=some o0/\W.heap[w.heap.size+1]?=some o1/\W.heap[w.heap.size+2]?=some o2):=by
 refine⟨by show Below _ _ _;exact Bw,fun W hB=>⟨?_,?_,?_⟩⟩
 ·exact(hB.block _ Mcr).trans (zak (zak (zas _ _ _ rfl)))
 ·exact(hB.block _ Mcp).trans (zak (zas _ _ _ Mcp))
 ·exact(hB.block _ Mcp).trans (zas _ _ _ Mcp)
theorem zeN{w W0:World}{o0 o1 o2:Obj}(h:((w.alloc o0).alloc o1).alloc o2=W0):Hid (Below w.heap.size w W0)/\Hid (∀W,Below W0.heap.size W0 W->W.heap[w.heap.size]?=some o0/\W.heap[w.heap.size+1]?=some o1/\W.heap[w.heap.size+2]?=some o2):=by
 subst h;exact dd_boxes _ _ _
theorem ziY{s:St}{pl:ByteArray}{day:Int}(h:zaP s pl day=none):zkG s.graves pl day= -1:=by rw[zog,h]
theorem ze0{s:St}{pl:ByteArray}{day:Int}{i:Nat}(h:zaP s pl day=some i):zkG s.graves pl day=i:=by rw[zog,h]
theorem gx_at{xs:List GX}{gs:List Grave}{i:Nat}{g:Grave}(hm:xs.map (·.g)=gs)(hg:gs[i]?=some g):∃(hi:i<xs.length),xs[i].g=g:=by
 rw[<-hm,List.getElem?_map]at hg;obtain⟨x,hx,rfl⟩:=Option.map_eq_some_iff.1 hg;obtain⟨hi,rfl⟩:=List.getElem?_eq_some_iff.1 hx;exact⟨hi,rfl⟩
theorem zpr(laws:List Law)(s:St)(wd rd:List Deed)(LA CA MA DA WA RA GA:Option Addr)(c0 c1 c2 c3 c4 c5 c6:Nat)(d:Deed)(B:Option Addr)(c:Nat)(w:World)(h:StIn w laws s wd rd LA CA MA DA WA RA GA c0 c1 c2 c3 c4 c5 c6)(hk:StLink s wd rd)(hf:StFew s wd rd)(hd:OkD d)(hS:Sl w 3 RPart.cells B d.to)(bM:∀g∈s.graves,g.fin<=200000):Calls Tryz.prog 107 #[.agg #[.slice LA laws.length c0,.slice CA s.children.length c1,.slice MA s.marriages.length c2,.slice DA s.dead.length c3,.slice WA wd.length c4,.slice RA rd.length c5,.slice GA s.graves.length c6],d.v B c] w (zeT w laws (zcV s d)):=by
 obtain⟨R,hR⟩:∃R,R=zcV s d:=⟨_,rfl⟩
 rw[<-hR];obtain⟨gxs,hm,bH,bu⟩:=gx_of h.graves;obtain⟨HM,dG,ca,qD⟩:=yH4 hm bH bu bM;clear hm bH bu bM;obtain⟨H,HK,HF,HD,HS,HR⟩:=yH6 (fun W (hB:Below w.heap.size w W)=>h.keep hB) hk hf hd (fun W (hB:Below w.heap.size w W)=>hS.keep hB) hR;unfold Deed.v;clear h hk hf hd hS hR;go_enter Tryz.func107,Tryz.ntmps107
 go_upto_region 1 with fail
 generalize ao:World.alloc (World.alloc (World.alloc w _) _) _=W0;obtain⟨ak,aw⟩:=zeN ao;clear ao;have ay:=ak.o.size;obtain⟨⟨xs0,xd0,xr0⟩,⟨s0,s1,s2,s3,s4,s5,s6⟩,⟨d0,d1,d2,d3,d4,d5,d6⟩,⟨r0,r1,r2,r3,r4,r5,r6⟩,rf,ls,ld,lr⟩:=ddF (aw.o W0 (Below.refl _ _));have eu:=zHi (fun W (hB:Below W0.heap.size W0 W)=>zmo d.place d.day W (H.o W (ak.o.trans (hB.mono ay))) HF.o);have hr:=HR.o;unfold zcV at hr;cases aT:zaP s d.place d.day with
 |none=>
  exact Mci
 |some i=>
  rw[aT]at hr;rw[ze0 aT]at eu;obtain⟨g,cf,cw,An⟩:=zjO aT;simp only[cw]at hr;obtain⟨hi,p9⟩:=gx_at HM.o cf;have eU:i<s.graves.length:=MdV;have jJ:=dG.o _ (List.getElem_mem hi);have ri:=zHi (fun(y:GX) W (hB:Below W0.heap.size W0 W)=>ziX laws s wd rd LA CA MA DA WA RA GA c0 c1 c2 c3 c4 c5 c6 gxs i y W HM.o (ca.o.keep (ak.o.trans (hB.mono ay))) HF.o eU);obtain⟨kg,aH⟩:=yH2 (zn1 laws s wd rd LA CA MA DA WA RA GA c0 c1 c2 c3 c4 c5 c6 gxs i HM.o dG.o) (fun W (hB:Below W0.heap.size W0 W)=>H.o W (ak.o.trans (hB.mono ay)));go_upto_region 2 with(go_at_call 138;go_must(refine(eu.o _ (Below.refl _ _)).mono ?_);rintro e wq ⟨rfl,z1,rfl⟩)
  obtain⟨W1,aI⟩:∃W1,W1=W0.ext z1:=⟨_,rfl⟩
  have aU:Below W0.heap.size W0 W1:=Mdb;rw[<-aI];clear aI;clear xs0 xd0 xr0 s0 s1 s2 s3 s4 s5 s6 d0 d1 d2 d3 d4 d5 d6 r0 r1 r2 r3 r4 r5 r6 rf ls ld lr;obtain⟨⟨xs0,xd0,xr0⟩,⟨s0,s1,s2,s3,s4,s5,s6⟩,⟨d0,d1,d2,d3,d4,d5,d6⟩,⟨r0,r1,r2,r3,r4,r5,r6⟩,rf,ls,ld,lr⟩:=ddF (aw.o W1 (aU));have wM:=aU.size;have eR:=ak.o.trans (aU.mono ay);obtain⟨gb,gof,lX,dK,ah⟩:=(ca.o.keep eR).at hi;generalize gxs[i]=x at*;subst p9;subst lX;have i0:=ah 0 _ rfl;have i1:=ah 1 _ rfl;have i2:=ah 2 _ rfl;have i3:=ah 3 _ rfl;have i4:=ah 4 _ rfl;simp only[Nat.add_zero]at i0;have xt:(i:Int)<(s.graves.length:Int):=Mcm;have fk:(0:Int)<=(i:Int):=Mcm;have aQ:¬(i:Int)<0:=Mcm;clear ah;go_upto_region 5 with fail
  obtain⟨W2,cE⟩:∃W2,W2=W1.alloc (.cells #[.string x.g.place,.int .i64 x.g.cls,.int .i64 x.g.fin,.slice x.H x.g.holders.length x.hc,.slice x.D x.g.died.length x.dc] 189):=⟨_,rfl⟩
  have gG:W2.heap[W1.heap.size]?=some (.cells #[.string x.g.place,.int .i64 x.g.cls,.int .i64 x.g.fin,.slice x.H x.g.holders.length x.hc,.slice x.D x.g.died.length x.dc] 189):=Men;have aA:Hid (Below W0.heap.size W0 W2):=MdE;have kP:W1.heap.size<W2.heap.size:=zab gG;have uC:=zHi eR;obtain⟨GB,jl⟩:∃GB,GB=W1.heap.size:=⟨_,rfl⟩
  rw[<-cE,<-jl];rw[<-jl]at gG kP;have iU:W0.heap.size<=GB:=Mcm;clear cE jl aU eR i0 i1 i2 i3 i4;clear xs0 xd0 xr0 s0 s1 s2 s3 s4 s5 s6 d0 d1 d2 d3 d4 d5 d6 r0 r1 r2 r3 r4 r5 r6 rf ls ld lr;obtain⟨g0,g1,g2,g3,g4⟩:=zed gG;by_cases u7:x.g.fin<0
  ·have HE:Hid (R=(s,15)):=by show _=_;rw[hr,if_pos (by simpa using u7)]
   clear hr;go_upto_region 6 with fail
   obtain⟨⟨xs0,xd0,xr0⟩,⟨s0,s1,s2,s3,s4,s5,s6⟩,⟨d0,d1,d2,d3,d4,d5,d6⟩,⟨r0,r1,r2,r3,r4,r5,r6⟩,rf,ls,ld,lr⟩:=ddF (aw.o W2 (aA.o));have be:=aA.o;exact Mg
  ·rw[if_neg (by simpa using u7)]at hr;have dJ:=qD.o x.g (List.mem_of_getElem? cf);have AJ:=zHi (fun W=>zjW x.g.fin d.years W Mcm dJ HD.o.years.1 HD.o.years.2);have g2f:=frz gG;obtain⟨⟨xs0,xd0,xr0⟩,⟨s0,s1,s2,s3,s4,s5,s6⟩,⟨d0,d1,d2,d3,d4,d5,d6⟩,⟨r0,r1,r2,r3,r4,r5,r6⟩,rf,ls,ld,lr⟩:=ddF (aw.o W2 (aA.o));have GG:=zHi gG;generalize zce x.g.fin d.years=af at*;go_upto_region 8 with(go_at_call 140;go_must(refine(AJ.o _).mono ?_);rintro e wq ⟨rfl,z2,rfl⟩)
   clear xs0 xd0 xr0 s0 s1 s2 s3 s4 s5 s6 d0 d1 d2 d3 d4 d5 d6 r0 r1 r2 r3 r4 r5 r6 rf ls ld lr;obtain⟨W3,bm⟩:∃W3,W3=(W2.setCell ⟨GB,2,none⟩ (.int .i64 af)).ext z2:=⟨_,rfl⟩
   have gG3:W3.heap[GB]?=some (.cells #[.string x.g.place,.int .i64 x.g.cls,.int .i64 af,.slice x.H x.g.holders.length x.hc,.slice x.D x.g.died.length x.dc] 189):=by
    rw[bm];exact Mbo
   have eN:Below W0.heap.size W0 W3:=by rw[bm];exact zbm (zaL aA.o iU _) z2
   rw[<-bm];clear bm g0 g1 g2 g3 g4 g2f;obtain⟨g0,g1,g2,g3,g4⟩:=zed gG3;have rp:=eN.size;have cx:=zab gG3;obtain⟨⟨xs0,xd0,xr0⟩,⟨s0,s1,s2,s3,s4,s5,s6⟩,⟨d0,d1,d2,d3,d4,d5,d6⟩,⟨r0,r1,r2,r3,r4,r5,r6⟩,rf,ls,ld,lr⟩:=ddF (aw.o W3 (eN));by_cases oA:af<0
   ·have HE:Hid (R=(s,2)):=by show _=_;rw[hr,if_pos (by simpa using oA)]
    clear hr;go_upto_region 9 with fail
    have be:=eN;exact Mg
   ·have HE:Hid (R=(s.withGrave i {x.g with fin:=af},0)):=by show _=_;rw[hr,if_neg (by simpa using oA)]
    have lS:=zHi (ri.o {x with g:= {x.g with fin:=af}} W3 eN);unfold GX.cells zgM at lS;dsimp only at lS;have aL:=zHi eN;clear hr aT;go_upto_region 10 with fail
    go_wp2_with (go_at_call 147
                 go_must(refine(lS.o).mono ?_)
                 rintro e w5 ⟨ga,go,gc,rfl,bh,aq⟩;have aG:=aL.o.trans (aq.mono rp);obtain⟨_,_,xr5⟩:=aw.o w5 aG;obtain⟨t0,t1,t2,t3,t4,t5,t6⟩:=zaG xr5;have tf:=frz xr5;obtain⟨bS,cI⟩:=yH2 bh aG
                 clear bh aq aG)
    rw[HE.o];refine bodyPost_ret (zbD rfl _ rfl rfl (zc5 xr5)) rfl ?_;have df:=zcA (a0:=.slice LA laws.length c0) (a1:=.slice CA s.children.length c1) (a2:=.slice MA s.marriages.length c2) (a3:=.slice DA s.dead.length c3) (a4:=.slice WA wd.length c4) (a5:=.slice RA rd.length c5) (a6:=.slice (some ⟨ga,go,none⟩) s.graves.length gc) (ak.o.trans (cI.o.mono ay)) (show w.heap.size<=w.heap.size+2 by omega);exact⟨_,_,_,_,_,_,_,rfl,rfl,df,fun _=>kg.o {x with g:= {x.g with fin:=af}} _ ga go gc (H.o w (Below.refl _ _)) HK.o df (bS.o.ne7 (zmq bS.o xr5 Mco)) (jJ.keep df)⟩

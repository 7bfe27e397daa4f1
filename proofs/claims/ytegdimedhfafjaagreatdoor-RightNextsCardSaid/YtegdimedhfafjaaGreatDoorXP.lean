import Derived.Test.YtegdimedhfafjaaGreatDoorXN
set_option linter.all false
set_option maxRecDepth 100000
set_option maxHeartbeats 4000000
namespace Go.Proofs.YtegdimedhfafjaaGreatDoor
open Go.RowKit Go.Shelf
attribute [local go_sem] World.cell?_alloc_mark zaf za5 zao za8 zav zaw zax zay zaz za0 za1
attribute [local go_sem] zaq zad
structure OffS (b:Nat) (W W':World):Prop where
 blk:∃cs t fr,W.heap[b]?=some (.cells cs t fr)/\∀(j:Nat) (u:Value),cs[j]?=some u->zcG u=true
 same:∀g,g≠b->W'.heap[g]?=W.heap[g]?
section
variable {b:Nat} {W W':World}
theorem OffS.ne(h:OffS b W W'){g i:Nat}{u:Value}(hc:W.cell? ⟨g,i,none⟩=some u)(hu:zcG u=false):g≠b:=by
 rintro rfl;obtain⟨cs,t,fr,h1,h2⟩:=h.blk;simp only[World.cell?,h1]at hc;have:=h2 i u Mdx;rw[hu]at this;cases this
theorem OffS.cell(h:OffS b W W'){g i:Nat}(hg:g≠b):W'.cell? ⟨g,i,none⟩=W.cell? ⟨g,i,none⟩:=by simp only[World.cell?,h.same g hg]
theorem OffS.lt(h:OffS b W W'){g:Nat}(hg:g≠b)(hl:g<W.heap.size):g<W'.heap.size:=by
 have:=h.same g hg;rw[Array.getElem?_eq_getElem hl]at this;exact(Array.getElem?_eq_some_iff.1 this).1
theorem OffS.sl(h:OffS b W W'){α:Type}{size:Nat}{f:α->List Value}{A:Option Addr}{xs:List α}(h0:∀x,∃u,(f x)[0]?=some u/\zcG u=false)(hS:Sl W size f A xs):Sl W' size f A xs:=fun hl=>by
 obtain⟨g,off,hA,hg,hc⟩:=hS hl;obtain⟨u,hu,hs⟩:=h0 xs[0];have dK:=h.ne (hc 0 _ (List.getElem?_eq_getElem hl) 0 u hu) hs;exact⟨g,off,hA,h.lt dK hg,fun k x hk j v hv=>(h.cell dK).trans (hc k x hk j v hv)⟩
theorem OffS.slw(h:OffS b W W'){α:Type}{size:Nat}{R:World->α->List Value->Prop}{A:Option Addr}{xs:List α}(h0:∀x cs,R W x cs->R W' x cs/\∃u,cs[0]?=some u/\zcG u=false)(hS:SlW W size R A xs):SlW W' size R A xs:=fun hl=>by
 obtain⟨g,off,hA,hg,hc⟩:=hS hl;obtain⟨cs,hr,ah⟩:=hc 0 _ (List.getElem?_eq_getElem hl);obtain⟨_,u,hu,hs⟩:=h0 _ _ hr;have dK:=h.ne (ah 0 u hu) hs;refine⟨g,off,hA,h.lt dK hg,fun k x hk=>?_⟩;obtain⟨cs,hr,ah⟩:=hc k x hk;exact⟨cs,(h0 _ _ hr).1,fun j v hv=>(h.cell dK).trans (ah j v hv)⟩
theorem OffS.st(h:OffS b W W'){laws:List Law}{s:St}{a0 a1 a2 a3 a4 a5 a6:Value}(hS:StAt W laws s a0 a1 a2 a3 a4 a5 a6):StAt W' laws s a0 a1 a2 a3 a4 a5 a6:=by
 obtain⟨wd,rd,LA,CA,MA,DA,WA,RA,GA,c0,c1,c2,c3,c4,c5,c6,e0,e1,e2,e3,e4,e5,e6,hI,hL⟩:=hS;have hd:∀x cs,zdY W x cs->zdY W' x cs/\∃u,cs[0]?=some u/\zcG u=false:=by
  rintro x cs ⟨B,c,h1,rfl,h3⟩;exact⟨⟨B,c,h1,rfl,h.sl (fun p=>⟨_,rfl,rfl⟩) h3⟩,_,rfl,rfl⟩
 have hg:∀x cs,zhY W x cs->zhY W' x cs/\∃u,cs[0]?=some u/\zcG u=false:=by
  rintro x cs ⟨H,hc,D,dc,rfl,h1,h2⟩;exact⟨⟨H,hc,D,dc,rfl,h.sl (fun p=>⟨_,rfl,rfl⟩) h1,h.sl (fun p=>⟨_,rfl,rfl⟩) h2⟩,_,rfl,rfl⟩
 exact⟨wd,rd,LA,CA,MA,DA,WA,RA,GA,c0,c1,c2,c3,c4,c5,c6,e0,e1,e2,e3,e4,e5,e6,
  ⟨h.sl (fun p=>⟨_,rfl,rfl⟩) hI.laws,h.sl (fun p=>⟨_,rfl,rfl⟩) hI.kids,h.sl (fun p=>⟨_,rfl,rfl⟩) hI.marr,h.sl (fun p=>⟨_,rfl,rfl⟩) hI.dead,h.slw hd hI.wills,h.slw hd hI.ren,h.slw hg hI.graves,hI.deadc⟩,hL⟩
theorem zcB{x0 x1 x2 x3 x4 x5 x6 a0 a1 a2 a3 a4 a5 a6:Value}{t:TypeId}{fr:Nat×Nat}(hb:W.heap[b]?=some (.cells #[x0,x1,x2,x3,x4,x5,x6] t fr))(hx:([x0,x1,x2,x3,x4,x5,x6].all zcG)=true):
 OffS b W (((((((W.setCell ⟨b,0,none⟩ a0).setCell ⟨b,1,none⟩ a1).setCell ⟨b,2,none⟩ a2).setCell ⟨b,3,none⟩ a3).setCell ⟨b,4,none⟩ a4).setCell ⟨b,5,none⟩ a5).setCell ⟨b,6,none⟩ a6):=by
 refine⟨⟨_,t,fr,hb,fun j u hu=>?_⟩,fun g hg=>?_⟩
 ·rw[List.all_eq_true]at hx;refine hx u ?_;have:=Array.mem_of_getElem? hu;simpa using this
 ·cases hc:W.heap[g]? with
  |some o=>exact J_ne hg (J_ne hg (J_ne hg (J_ne hg (J_ne hg (J_ne hg (J_ne hg hc))))))
  |none=>
   have hs:W.heap.size<=g:=Mdx;rw[Array.getElem?_eq_none];simp;exact hs
end
theorem StAt.keep{W W':World}{laws:List Law}{s:St}{a0 a1 a2 a3 a4 a5 a6:Value}(h:StAt W laws s a0 a1 a2 a3 a4 a5 a6)(hB:Below W.heap.size W W'):StAt W' laws s a0 a1 a2 a3 a4 a5 a6:=by
 obtain⟨wd,rd,LA,CA,MA,DA,WA,RA,GA,c0,c1,c2,c3,c4,c5,c6,e0,e1,e2,e3,e4,e5,e6,hI,hL⟩:=h;exact⟨wd,rd,LA,CA,MA,DA,WA,RA,GA,c0,c1,c2,c3,c4,c5,c6,e0,e1,e2,e3,e4,e5,e6,hI.keep hB,hL⟩
def zkS(w:World)(laws:List Law)(R:St×Int)(e:Ending)(w':World):Prop:=
 ∃a0 a1 a2 a3 a4 a5 a6 b,e=.returned (.tuple #[.agg #[a0,a1,a2,a3,a4,a5,a6],.bool b])/\([a0,a1,a2,a3,a4,a5,a6].all zcG)=true/\Below w.heap.size w w'/\((b=true/\R.2=0/\StAt w' laws R.1 a0 a1 a2 a3 a4 a5 a6)\/(b=false/\R.2=8))
def zpx(laws:List Law)(s:St)(n:ByteArray)(day:Int):St×Int:=match zb2 s n day (zcE s (zbb laws day) n) 0 s.graves with
 |none=>(s,8)
 |some gs=>({s with graves:=gs,dead:=s.dead++[n]},0)
theorem rTake_of(laws:List Law)(s:St)(wd rd:List Deed)(LA CA MA DA WA RA GA:Option Addr)(c0 c1 c2 c3 c4 c5 c6:Nat)(d:Deed)(B:Option Addr)(c:Nat)(w:World)(h:StIn w laws s wd rd LA CA MA DA WA RA GA c0 c1 c2 c3 c4 c5 c6)(hk:StLink s wd rd)(hf:StFew s wd rd)(hd:OkD d)(hS:Sl w 3 RPart.cells B d.to)(ar:d.to.length<=c)(bf:∀g∈s.graves,GoodG g/\g.holders.length<=50000)(bM:∀g∈s.graves,g.fin<=200000)
 (iw:∀W,Below w.heap.size w W->Calls Tryz.prog 112 #[.agg #[.slice LA laws.length c0,.slice CA s.children.length c1,.slice MA s.marriages.length c2,.slice DA s.dead.length c3,.slice WA wd.length c4,.slice RA rd.length c5,.slice GA s.graves.length c6],.string d.frm,.int .i64 d.day] W (zkS W laws (zpx laws s d.frm d.day))):Calls Tryz.prog 63 #[.agg #[.slice LA laws.length c0,.slice CA s.children.length c1,.slice MA s.marriages.length c2,.slice DA s.dead.length c3,.slice WA wd.length c4,.slice RA rd.length c5,.slice GA s.graves.length c6],d.v B c] w (zeT w laws (zbp laws s d)):=by
 obtain⟨R,hR⟩:∃R,R=zbp laws s d:=⟨_,rfl⟩
 rw[<-hR];unfold zbp at hR;obtain⟨eb,qD,ze,lz⟩:=yH4 bf bM iw ar;obtain⟨dvs,xe,xf,sk⟩:=dv_of h.wills;obtain⟨zg,tt,qx⟩:=yH3 xe xf sk;clear bf bM iw ar xe xf sk;obtain⟨H,HK,HF,HD,HS,HR⟩:=yH6 (fun W (hB:Below w.heap.size w W)=>h.keep hB) hk hf hd (fun W (hB:Below w.heap.size w W)=>hS.keep hB) hR;unfold Deed.v;clear h hk hf hd hS hR;go_enter Tryz.func63,Tryz.ntmps63
 go_upto_region 1 with fail
 generalize ao:World.alloc (World.alloc (World.alloc w _) _) _=W0;obtain⟨ak,aw⟩:=zeN ao;clear ao;have ay:=ak.o.size;obtain⟨⟨xs0,xd0,xr0⟩,⟨s0,s1,s2,s3,s4,s5,s6⟩,⟨d0,d1,d2,d3,d4,d5,d6⟩,⟨r0,r1,r2,r3,r4,r5,r6⟩,rf,ls,ld,lr⟩:=ddF (aw.o W0 (Below.refl _ _));have hr:=HR.o;have hH:=H.o W0 ak.o;have pK:=HS.o W0 ak.o;go_upto_region 1 with fail
 by_cases h0:d.kind=0
 ·have k0:(d.kind==0)=true:=by simp[h0]
  have HT:=zHi (zpw laws s wd rd LA CA MA DA WA RA GA c0 c1 c2 c3 c4 c5 c6 d B c W0 hH HK.o HF.o HD.o pK h0);have cO:R=zcH s d:=by rw[hr];simp[h0]
  rw[<-cO]at HT;unfold Deed.v at HT;clear hr h0 cO
  go_wp2_with (go_at_call 104
               go_must(refine(HT.o).mono ?_)
               rintro e w5 ⟨a0,a1,a2,a3,a4,a5,a6,rfl,aV,aq,aj⟩;obtain⟨⟨_,_,_,rfl⟩,⟨_,_,_,rfl⟩,⟨_,_,_,rfl⟩,⟨_,_,_,rfl⟩,⟨_,_,_,rfl⟩,⟨_,_,_,rfl⟩,⟨_,_,_,rfl⟩⟩:=zc0 aV;obtain⟨bl,aH⟩:=yH2 aq aj;obtain⟨_,_,xr5⟩:=aw.o w5 aq;obtain⟨t0,t1,t2,t3,t4,t5,t6⟩:=zaG xr5;have tf:=frz xr5
               clear aq aj aV)
  exact Mw
 have k0:(d.kind==0)=false:=by simp[h0]
 by_cases h1:d.kind=1
 ·have k1:(d.kind==1)=true:=by simp[h1]
  have HT:=zHi (zkQ laws s wd rd LA CA MA DA WA RA GA c0 c1 c2 c3 c4 c5 c6 d B c W0 hH HK.o HF.o HD.o pK h1 eb.o);have cO:R=zbr s d:=by rw[hr];simp[h1]
  rw[<-cO]at HT;unfold Deed.v at HT;clear hr h1 cO
  go_wp2_with (go_at_call 105
               go_must(refine(HT.o).mono ?_)
               rintro e w5 ⟨a0,a1,a2,a3,a4,a5,a6,rfl,aV,aq,aj⟩;obtain⟨⟨_,_,_,rfl⟩,⟨_,_,_,rfl⟩,⟨_,_,_,rfl⟩,⟨_,_,_,rfl⟩,⟨_,_,_,rfl⟩,⟨_,_,_,rfl⟩,⟨_,_,_,rfl⟩⟩:=zc0 aV;obtain⟨bl,aH⟩:=yH2 aq aj;obtain⟨_,_,xr5⟩:=aw.o w5 aq;obtain⟨t0,t1,t2,t3,t4,t5,t6⟩:=zaG xr5;have tf:=frz xr5
               clear aq aj aV)
  exact Mw
 have k1:(d.kind==1)=false:=by simp[h1]
 by_cases h2:d.kind=2
 ·have k2:(d.kind==2)=true:=by simp[h2]
  have HT:=zHi (zjp laws s wd rd LA CA MA DA WA RA GA c0 c1 c2 c3 c4 c5 c6 d B c W0 hH HK.o HF.o HD.o pK eb.o);have cO:R=zba s d:=by rw[hr];simp[h2]
  rw[<-cO]at HT;unfold Deed.v at HT;clear hr h2 cO
  go_wp2_with (go_at_call 106
               go_must(refine(HT.o).mono ?_)
               rintro e w5 ⟨a0,a1,a2,a3,a4,a5,a6,rfl,aV,aq,aj⟩;obtain⟨⟨_,_,_,rfl⟩,⟨_,_,_,rfl⟩,⟨_,_,_,rfl⟩,⟨_,_,_,rfl⟩,⟨_,_,_,rfl⟩,⟨_,_,_,rfl⟩,⟨_,_,_,rfl⟩⟩:=zc0 aV;obtain⟨bl,aH⟩:=yH2 aq aj;obtain⟨_,_,xr5⟩:=aw.o w5 aq;obtain⟨t0,t1,t2,t3,t4,t5,t6⟩:=zaG xr5;have tf:=frz xr5
               clear aq aj aV)
  exact Mw
 have k2:(d.kind==2)=false:=by simp[h2]
 by_cases h3:d.kind=3
 ·have k3:(d.kind==3)=true:=by simp[h3]
  have HT:=zHi (zpr laws s wd rd LA CA MA DA WA RA GA c0 c1 c2 c3 c4 c5 c6 d B c W0 hH HK.o HF.o HD.o pK qD.o);have cO:R=zcV s d:=by rw[hr];simp[h3]
  rw[<-cO]at HT;unfold Deed.v at HT;clear hr h3 cO
  go_wp2_with (go_at_call 107
               go_must(refine(HT.o).mono ?_)
               rintro e w5 ⟨a0,a1,a2,a3,a4,a5,a6,rfl,aV,aq,aj⟩;obtain⟨⟨_,_,_,rfl⟩,⟨_,_,_,rfl⟩,⟨_,_,_,rfl⟩,⟨_,_,_,rfl⟩,⟨_,_,_,rfl⟩,⟨_,_,_,rfl⟩,⟨_,_,_,rfl⟩⟩:=zc0 aV;obtain⟨bl,aH⟩:=yH2 aq aj;obtain⟨_,_,xr5⟩:=aw.o w5 aq;obtain⟨t0,t1,t2,t3,t4,t5,t6⟩:=zaG xr5;have tf:=frz xr5
               clear aq aj aV)
  exact Mw
 have k3:(d.kind==3)=false:=by simp[h3]
 by_cases h5:d.kind=5
 ·have k5:(d.kind==5)=true:=by simp[h5]
  have HT:=zHi (zkR laws s wd rd LA CA MA DA WA RA GA c0 c1 c2 c3 c4 c5 c6 d B c W0 hH HK.o HF.o HD.o pK h5 lz.o);have cO:R=zbA s d:=by rw[hr];simp[h5]
  rw[<-cO]at HT;unfold Deed.v at HT;clear hr h5 cO
  go_wp2_with (go_at_call 108
               go_must(refine(HT.o).mono ?_)
               rintro e w5 ⟨a0,a1,a2,a3,a4,a5,a6,rfl,aV,aq,aj⟩;obtain⟨⟨_,_,_,rfl⟩,⟨_,_,_,rfl⟩,⟨_,_,_,rfl⟩,⟨_,_,_,rfl⟩,⟨_,_,_,rfl⟩,⟨_,_,_,rfl⟩,⟨_,_,_,rfl⟩⟩:=zc0 aV;obtain⟨bl,aH⟩:=yH2 aq aj;obtain⟨_,_,xr5⟩:=aw.o w5 aq;obtain⟨t0,t1,t2,t3,t4,t5,t6⟩:=zaG xr5;have tf:=frz xr5
               clear aq aj aV)
  exact Mw
 have k5:(d.kind==5)=false:=by simp[h5]
 by_cases h6:d.kind=6
 ·have k6:(d.kind==6)=true:=by simp[h6]
  have HT:=zHi (zpv laws s wd rd LA CA MA DA WA RA GA c0 c1 c2 c3 c4 c5 c6 d B c W0 hH HK.o HF.o HD.o pK h6);have cO:R=zc7 s d:=by rw[hr];simp[h6]
  rw[<-cO]at HT;unfold Deed.v at HT;clear hr h6 cO
  go_wp2_with (go_at_call 109
               go_must(refine(HT.o).mono ?_)
               rintro e w5 ⟨a0,a1,a2,a3,a4,a5,a6,rfl,aV,aq,aj⟩;obtain⟨⟨_,_,_,rfl⟩,⟨_,_,_,rfl⟩,⟨_,_,_,rfl⟩,⟨_,_,_,rfl⟩,⟨_,_,_,rfl⟩,⟨_,_,_,rfl⟩,⟨_,_,_,rfl⟩⟩:=zc0 aV;obtain⟨bl,aH⟩:=yH2 aq aj;obtain⟨_,_,xr5⟩:=aw.o w5 aq;obtain⟨t0,t1,t2,t3,t4,t5,t6⟩:=zaG xr5;have tf:=frz xr5
               clear aq aj aV)
  exact Mw
 have k6:(d.kind==6)=false:=by simp[h6]
 by_cases h7:d.kind=7
 ·have k7:(d.kind==7)=true:=by simp[h7]
  have HT:=zHi (zpt laws s wd rd LA CA MA DA WA RA GA c0 c1 c2 c3 c4 c5 c6 d B c W0 hH HK.o HF.o HD.o pK h7);have cO:R=zdn s d:=by rw[hr];simp[h7]
  rw[<-cO]at HT;unfold Deed.v at HT;clear hr h7 cO
  go_wp2_with (go_at_call 110
               go_must(refine(HT.o).mono ?_)
               rintro e w5 ⟨a0,a1,a2,a3,a4,a5,a6,rfl,aV,aq,aj⟩;obtain⟨⟨_,_,_,rfl⟩,⟨_,_,_,rfl⟩,⟨_,_,_,rfl⟩,⟨_,_,_,rfl⟩,⟨_,_,_,rfl⟩,⟨_,_,_,rfl⟩,⟨_,_,_,rfl⟩⟩:=zc0 aV;obtain⟨bl,aH⟩:=yH2 aq aj;obtain⟨_,_,xr5⟩:=aw.o w5 aq;obtain⟨t0,t1,t2,t3,t4,t5,t6⟩:=zaG xr5;have tf:=frz xr5
               clear aq aj aV)
  exact Mw
 have k7:(d.kind==7)=false:=by simp[h7]
 rw[k0,k1,k2,k3,k5,k6,k7]at hr;simp only[Bool.false_eq_true,if_false]at hr;have ig:=zHi (sDead d.frm W0 hH HF.o);clear pK hH;by_cases h4:d.kind=4
 ·have k4:(d.kind==4)=true:=by simp[h4]
  have IM:=zHi (zea (HD.o.parts (.inr (.inr h4))).2).1;rw[k4,if_pos rfl]at hr;unfold zgS at hr;clear h0 h1 h2 h3 h4 h5 h6 h7;cases bY:zaM s d.frm;rotate_left 1
  ·exact Mck
  rw[bY,if_neg Mcp]at hr;rw[bY]at ig;have HE:=zHi hr;clear hr bY;go_upto_region 19 with(go_at_call 111;go_must(refine(ig.o).mono ?_);rintro e wq ⟨rfl,z,rfl⟩)
  obtain⟨WX,kj⟩:∃WX,WX=W0.ext z:=⟨_,rfl⟩
  have fh:Below W0.heap.size W0 WX:=by rw[kj];exact zap _ _
  rw[<-kj];have bv:=zHi fh;have fu:=fh.size;clear kj fh ig;clear xs0 xd0 xr0 s0 s1 s2 s3 s4 s5 s6 d0 d1 d2 d3 d4 d5 d6 r0 r1 r2 r3 r4 r5 r6 rf ls ld lr;obtain⟨⟨xs0,xd0,xr0⟩,⟨s0,s1,s2,s3,s4,s5,s6⟩,⟨d0,d1,d2,d3,d4,d5,d6⟩,⟨r0,r1,r2,r3,r4,r5,r6⟩,rf,ls,ld,lr⟩:=ddF (aw.o WX (bv.o));have LN:=HF.o.wills;have bp:Hid (wd.length=(dvs).length):=zHi (by rw[<-zg.o,List.length_map]);have tH:Hid ((dvs).length<=1000):=zHi (by rw[<-bp.o];exact HF.o.wills);have ca:=zHi (fun W (hB:Below WX.heap.size WX W)=>qx.o.keep (ak.o.trans ((bv.o.trans (hB.mono fu)).mono ay)));have ax:=zHi (fun(W:World) (h:Below WX.heap.size WX W)=>(show W.cell? ⟨w.heap.size,4,none⟩=some (.slice WA wd.length c4)/\W.cell? ⟨w.heap.size+1,0,none⟩=some (.int .i64 d.kind)/\W.cell? ⟨w.heap.size+1,1,none⟩=some (.int .i64 d.day)/\W.cell? ⟨w.heap.size+1,2,none⟩=some (.string d.place)/\W.cell? ⟨w.heap.size+1,3,none⟩=some (.string d.frm)/\W.cell? ⟨w.heap.size+1,4,none⟩=some (.slice B d.to.length c)/\W.cell? ⟨w.heap.size+1,5,none⟩=some (.int .i64 d.cls)/\W.cell? ⟨w.heap.size+1,6,none⟩=some (.int .i64 d.years) from⟨(zah h ls).trans s4,(zah h ld).trans d0,(zah h ld).trans d1,(zah h ld).trans d2,(zah h ld).trans d3,(zah h ld).trans d4,(zah h ld).trans d5,(zah h ld).trans d6⟩))
  go_cut [5]from 67 to 75 (fun v wc=>v=v/\∃V c',wc.heap[w.heap.size]?=some (.cells #[.slice LA laws.length c0,.slice CA s.children.length c1,.slice MA s.marriages.length c2,.slice DA s.dead.length c3,.slice V (wd.length+1) c',.slice RA rd.length c5,.slice GA s.graves.length c6] 41)/\wc.heap[w.heap.size+2]?=some (.cells #[.slice none 0 0,.slice none 0 0,.slice none 0 0,.slice none 0 0,.slice none 0 0,.slice none 0 0,.slice none 0 0] 41)/\Ro wc 28 DV.cells V (dvs++[(⟨d,B,c⟩:DV)])/\Below w.heap.size w wc)
  case first=>
   refine zaB 6 (fun bb w'=>bb=true\/(w'.cell? ⟨w.heap.size,4,none⟩=some (.slice WA wd.length c4)/\w'.cell? ⟨w.heap.size+1,0,none⟩=some (.int .i64 d.kind)/\w'.cell? ⟨w.heap.size+1,1,none⟩=some (.int .i64 d.day)/\w'.cell? ⟨w.heap.size+1,2,none⟩=some (.string d.place)/\w'.cell? ⟨w.heap.size+1,3,none⟩=some (.string d.frm)/\w'.cell? ⟨w.heap.size+1,4,none⟩=some (.slice B d.to.length c)/\w'.cell? ⟨w.heap.size+1,5,none⟩=some (.int .i64 d.cls)/\w'.cell? ⟨w.heap.size+1,6,none⟩=some (.int .i64 d.years))) Mcn (.inr (ax.o _ (zaH (Below.refl _ _)))) ?hrest
   case hrest=>
    intro hHeld;clear xs0 xd0 xr0 s0 s1 s2 s3 s4 s5 s6 d0 d1 d2 d3 d4 d5 d6 r0 r1 r2 r3 r4 r5 r6 rf ls ld lr;refine TkM 1 ?_;refine TkM 2 ?_;refine TkM 4 ?_;refine TwM 0 5 (fun K hK=>?_) fun K hK=>?_
    ·go_simp
     have e0:Below WX.heap.size WX (WX.drew.alloc (.cells #[] 28)):=zac (zaH (Below.refl _ _)) _;have m0:OwnS (WX.drew.alloc (.cells #[] 28)) WX.heap.size 28 7 DV.cells (.slice (some ⟨WX.heap.size,0,none⟩) 0 0) []:=zdW zbn WX.drew WX.heap.size (Nat.le_refl _);refine NxM hK (fun hHeld=>?_) (.inr (ax.o _ e0));clear hK K;refine TwM 3 5 (fun K hK=>?_) fun K hK=>?_
     ·refine zal (v:=.slice (some ⟨WX.heap.size,0,none⟩) 0 0) (n:=0) (m:=wd.length) rfl _ _ rfl zex zbn zew rfl (xs:=[]) (ys:=dvs) (m0) rfl rfl bp.o (ca.o _ e0) Mcu McF Mcx ?_;intro v4 w4 h1 h2 h3;rw[List.nil_append]at h1;obtain⟨V4,c4',aZ,_,_⟩:=h1.sl zbn;rw[<-bp.o]at aZ;subst aZ;have aD:Below WX.heap.size WX w4:=Below.grown e0 h2 Mdq (fun j hj=>by simp[za7]at hj;omega);refine NxM hK (fun hHeld=>?_) (.inr (ax.o _ aD));clear hK K;refine OnM 5 false fun K hK=>?_
      go_simp
      have e1:Below WX.heap.size WX (w4.alloc (.cells #[.int .i64 d.kind,.int .i64 d.day,.string d.place,.string d.frm,.slice B d.to.length c,.int .i64 d.cls,.int .i64 d.years] 28)):=zac aD _;have n1:(w4.alloc (.cells #[.int .i64 d.kind,.int .i64 d.day,.string d.place,.string d.frm,.slice B d.to.length c,.int .i64 d.cls,.int .i64 d.years] 28)).heap[w4.heap.size]?=some (.cells #[.int .i64 d.kind,.int .i64 d.day,.string d.place,.string d.frm,.slice B d.to.length c,.int .i64 d.cls,.int .i64 d.years] 28):=zas _ _ _ rfl;have o1:OwnS (w4.alloc (.cells #[.int .i64 d.kind,.int .i64 d.day,.string d.place,.string d.frm,.slice B d.to.length c,.int .i64 d.cls,.int .i64 d.years] 28)) WX.heap.size 28 7 DV.cells (.slice V4 wd.length c4') dvs:=h1.keep (n:=w4.heap.size) (zac (Below.refl _ _) _);refine NxM hK (fun hHeld=>?_) (.inr (ax.o _ e1));clear hK K;have o9:=o1;have n9:=n1;have e9:=e1;exact Mp
     ·go_simp
      have e1:Below WX.heap.size WX ((WX.drew.alloc (.cells #[] 28)).alloc (.cells #[.int .i64 d.kind,.int .i64 d.day,.string d.place,.string d.frm,.slice B d.to.length c,.int .i64 d.cls,.int .i64 d.years] 28)):=zac e0 _;have n1:((WX.drew.alloc (.cells #[] 28)).alloc (.cells #[.int .i64 d.kind,.int .i64 d.day,.string d.place,.string d.frm,.slice B d.to.length c,.int .i64 d.cls,.int .i64 d.years] 28)).heap[WX.heap.size+1]?=some (.cells #[.int .i64 d.kind,.int .i64 d.day,.string d.place,.string d.frm,.slice B d.to.length c,.int .i64 d.cls,.int .i64 d.years] 28):=zas _ _ _ Mcp;have m1:OwnS ((WX.drew.alloc (.cells #[] 28)).alloc (.cells #[.int .i64 d.kind,.int .i64 d.day,.string d.place,.string d.frm,.slice B d.to.length c,.int .i64 d.cls,.int .i64 d.years] 28)) WX.heap.size 28 7 DV.cells (.slice (some ⟨WX.heap.size,0,none⟩) 0 0) []:=m0.keep (n:=(WX.drew.alloc (.cells #[] 28)).heap.size) (zac (Below.refl _ _) _);refine NxM hK (fun hHeld=>?_) (.inr (ax.o _ e1));clear hK K;refine OnM 3 false fun K hK=>?_
      refine zal (v:=.slice (some ⟨WX.heap.size,0,none⟩) 0 0) (n:=0) (m:=wd.length) rfl _ _ rfl zex zbn zew rfl (xs:=[]) (ys:=dvs) (m1) rfl rfl bp.o (ca.o _ e1) Mcu McF Mct ?_;intro v4 w4 h1 h2 h3;rw[List.nil_append]at h1;obtain⟨V4,c4',aZ,_,_⟩:=h1.sl zbn;rw[<-bp.o]at aZ;subst aZ;have aD:Below WX.heap.size WX w4:=Below.grown e1 h2 McI (fun j hj=>by simp[za7]at hj;omega);have n2:w4.heap[WX.heap.size+1]?=some (.cells #[.int .i64 d.kind,.int .i64 d.day,.string d.place,.string d.frm,.slice B d.to.length c,.int .i64 d.cls,.int .i64 d.years] 28):=(h2.block _ McD Mdf).trans n1;exact Mb8
    ·go_simp
     have e0:Below WX.heap.size WX (WX.drew.alloc (.cells #[.int .i64 d.kind,.int .i64 d.day,.string d.place,.string d.frm,.slice B d.to.length c,.int .i64 d.cls,.int .i64 d.years] 28)):=zac (zaH (Below.refl _ _)) _;have n0:(WX.drew.alloc (.cells #[.int .i64 d.kind,.int .i64 d.day,.string d.place,.string d.frm,.slice B d.to.length c,.int .i64 d.cls,.int .i64 d.years] 28)).heap[WX.heap.size]?=some (.cells #[.int .i64 d.kind,.int .i64 d.day,.string d.place,.string d.frm,.slice B d.to.length c,.int .i64 d.cls,.int .i64 d.years] 28):=zas _ _ _ rfl;refine NxM hK (fun hHeld=>?_) (.inr (ax.o _ e0));clear hK K;refine OnM 0 false fun K hK=>?_
     go_simp
     have e1:Below WX.heap.size WX ((WX.drew.alloc (.cells #[.int .i64 d.kind,.int .i64 d.day,.string d.place,.string d.frm,.slice B d.to.length c,.int .i64 d.cls,.int .i64 d.years] 28)).alloc (.cells #[] 28)):=zac e0 _;have n1:((WX.drew.alloc (.cells #[.int .i64 d.kind,.int .i64 d.day,.string d.place,.string d.frm,.slice B d.to.length c,.int .i64 d.cls,.int .i64 d.years] 28)).alloc (.cells #[] 28)).heap[WX.heap.size]?=some (.cells #[.int .i64 d.kind,.int .i64 d.day,.string d.place,.string d.frm,.slice B d.to.length c,.int .i64 d.cls,.int .i64 d.years] 28):=zak n0;have m1:OwnS ((WX.drew.alloc (.cells #[.int .i64 d.kind,.int .i64 d.day,.string d.place,.string d.frm,.slice B d.to.length c,.int .i64 d.cls,.int .i64 d.years] 28)).alloc (.cells #[] 28)) WX.heap.size 28 7 DV.cells (.slice (some ⟨WX.heap.size+1,0,none⟩) 0 0) []:=by
      exact Mat
     refine NxM hK (fun hHeld=>?_) (.inr (ax.o _ e1));clear hK K;refine OnM 3 false fun K hK=>?_
     refine zal (v:=.slice (some ⟨WX.heap.size+1,0,none⟩) 0 0) (n:=0) (m:=wd.length) rfl _ _ rfl zex zbn zew rfl (xs:=[]) (ys:=dvs) (m1) rfl rfl bp.o (ca.o _ e1) Mcu McF Mct ?_;intro v4 w4 h1 h2 h3;rw[List.nil_append]at h1;obtain⟨V4,c4',aZ,_,_⟩:=h1.sl zbn;rw[<-bp.o]at aZ;subst aZ;have aD:Below WX.heap.size WX w4:=Below.grown e1 h2 McI (fun j hj=>by simp[za7]at hj;omega);have n2:w4.heap[WX.heap.size]?=some (.cells #[.int .i64 d.kind,.int .i64 d.day,.string d.place,.string d.frm,.slice B d.to.length c,.int .i64 d.cls,.int .i64 d.years] 28):=(h2.block _ McD Mdf).trans n1;exact Mb8
  case rest=>
   obtain⟨_,V,c',eG,cn,dX,om⟩:=hcut;clear xs0 xd0 xr0 s0 s1 s2 s3 s4 s5 s6 d0 d1 d2 d3 d4 d5 d6 r0 r1 r2 r3 r4 r5 r6 rf ls ld lr;obtain⟨s0,s1,s2,s3,s4,s5,s6⟩:=zaG eG;obtain⟨r0,r1,r2,r3,r4,r5,r6⟩:=zaG cn;have rf:=frz cn;have ls:=zab eG;have lr:=zab cn;go_wp2_with fail
   rw[HE.o];have df:=zcA (a0:=.slice LA laws.length c0) (a1:=.slice CA s.children.length c1) (a2:=.slice MA s.marriages.length c2) (a3:=.slice DA s.dead.length c3) (a4:=.slice V (wd.length+1) c') (a5:=.slice RA rd.length c5) (a6:=.slice GA s.graves.length c6) om (show w.heap.size<=w.heap.size+2 by omega);refine bodyPost_ret (zbD rfl _ rfl rfl (zc5 cn)) rfl ?_;have h':=H.o _ df;refine⟨_,_,_,_,_,_,_,rfl,rfl,df,fun _=>⟨wd++[d],rd,LA,CA,MA,DA,V,RA,GA,c0,c1,c2,c3,c',c5,c6,rfl,rfl,rfl,rfl,by rw[List.length_append];rfl,rfl,rfl,⟨h'.laws,h'.kids,h'.marr,h'.dead,?_,h'.ren,h'.graves,h'.deadc⟩,⟨?_,?_,HK.o.ren,HK.o.tos⟩⟩⟩
   ·exact Mad
   ·rw[List.map_append,<-HK.o.wills];rfl
   ·intro x hx;rcases List.mem_append.1 hx with hx|hx
    ·exact HK.o.shares x hx
    ·rw[List.mem_singleton.1 hx];exact fun p hp=>(IM.o p hp).2.2
 ·have k4:(d.kind==4)=false:=by simp[h4]
  rw[k4]at hr;simp only[Bool.false_eq_true,if_false]at hr;unfold zdJ at hr;clear h0 h1 h2 h3 h4 h5 h6 h7;cases bY:zaM s d.frm;rotate_left 1
  ·exact Mck
  rw[bY,if_neg Mcp]at hr;rw[bY]at ig;have cO:R=zpx laws s d.frm d.day:=hr;have uG:=zHi (fun W (hB:Below W0.heap.size W0 W)=>ze.o W (ak.o.trans (hB.mono ay)));rw[<-cO]at uG;clear hr bY cO ze;go_upto_region 21 with(go_at_call 111;go_must(refine(ig.o).mono ?_);rintro e wq ⟨rfl,z,rfl⟩)
  obtain⟨W1,aI⟩:∃W1,W1=W0.ext z:=⟨_,rfl⟩
  have aU:Below W0.heap.size W0 W1:=Mdb;rw[<-aI];have gw:=aU.size;have aB:=zHi aU;clear aI aU ig;clear xs0 xd0 xr0 s0 s1 s2 s3 s4 s5 s6 d0 d1 d2 d3 d4 d5 d6 r0 r1 r2 r3 r4 r5 r6 rf ls ld lr;obtain⟨⟨xs0,xd0,xr0⟩,⟨s0,s1,s2,s3,s4,s5,s6⟩,⟨d0,d1,d2,d3,d4,d5,d6⟩,⟨r0,r1,r2,r3,r4,r5,r6⟩,rf,ls,ld,lr⟩:=ddF (aw.o W1 (aB.o))
  go_upto_region 22 with(go_at_call 112
                         go_must(refine(uG.o _ aB.o).mono ?_)
                         rintro e w5 ⟨a0,a1,a2,a3,a4,a5,a6,bb,rfl,aV,aq,aj⟩;obtain⟨⟨X0,n0,m0,rfl⟩,⟨X1,n1,m1,rfl⟩,⟨X2,n2,m2,rfl⟩,⟨X3,n3,m3,rfl⟩,⟨X4,n4,m4,rfl⟩,⟨X5,n5,m5,rfl⟩,⟨X6,n6,m6,rfl⟩⟩:=zc0 aV;obtain⟨bl,aH⟩:=yH2 (aB.o.trans (aq.mono gw)) aj
                         clear aq aj aV)
  obtain⟨W6,gB⟩:∃W6,W6=w5.alloc (.cells #[.slice X0 n0 m0,.slice X1 n1 m1,.slice X2 n2 m2,.slice X3 n3 m3,.slice X4 n4 m4,.slice X5 n5 m5,.slice X6 n6 m6] 41):=⟨_,rfl⟩
  have gY:W6.heap[w5.heap.size]?=some (.cells #[.slice X0 n0 m0,.slice X1 n1 m1,.slice X2 n2 m2,.slice X3 n3 m3,.slice X4 n4 m4,.slice X5 n5 m5,.slice X6 n6 m6] 41):=by rw[gB];exact zas _ _ _ rfl
  have aG:Below w5.heap.size w5 W6:=by rw[gB];exact zac (Below.refl _ _) _
  obtain⟨cI,ll⟩:=yH2 (bl.o.trans (aG.mono bl.o.size)) aG;obtain⟨YB,CP⟩:∃YB,YB=w5.heap.size:=⟨_,rfl⟩
  rw[<-gB,<-CP];rw[<-CP]at gY;clear gB CP aG;clear xs0 xd0 xr0 s0 s1 s2 s3 s4 s5 s6 d0 d1 d2 d3 d4 d5 d6 r0 r1 r2 r3 r4 r5 r6 rf ls ld lr;obtain⟨⟨xs0,xd0,xr0⟩,⟨s0,s1,s2,s3,s4,s5,s6⟩,⟨d0,d1,d2,d3,d4,d5,d6⟩,⟨r0,r1,r2,r3,r4,r5,r6⟩,rf,ls,ld,lr⟩:=ddF (aw.o W6 (cI.o));obtain⟨y0,y1,y2,y3,y4,y5,y6⟩:=zaG gY;have pe:=zab gY;obtain⟨R1,R2⟩:=R;rcases aH.o with⟨rfl,hz,aj⟩|⟨rfl,hz⟩
  ·simp only at hz;subst hz;have cN:=zHi aj;clear aj;go_wp2_with fail
   refine bodyPost_ret (zbD rfl _ rfl rfl (zc5 xr0)) rfl ?_;exact⟨_,_,_,_,_,_,_,rfl,rfl,zcA (ak.o.trans (cI.o.mono ay)) (show w.heap.size<=w.heap.size+2 by omega),fun _=>(zcB xr0 rfl).st (cN.o.keep ll.o)⟩
  ·simp only at hz;subst hz;go_wp2_with fail
   refine bodyPost_ret (zbD rfl _ rfl rfl (zc5 xr0)) rfl ?_;exact⟨_,_,_,_,_,_,_,rfl,rfl,zcA (ak.o.trans (cI.o.mono ay)) (show w.heap.size<=w.heap.size+2 by omega),fun e=>by cases e⟩
noncomputable def nxP (laws:List Law) (s:St) (ds:List Deed) (d:Deed):St×Int:=
 if decide (60<=ds.length)then(s,8)else if(ds.getLast?.map fun e=>decide (d.day<e.day)).getD false then(s,9)else zbp laws s d
theorem rNext_of(laws:List Law)(s:St)(wd rd:List Deed)(LA CA MA DA WA RA GA:Option Addr)(c0 c1 c2 c3 c4 c5 c6:Nat)(d:Deed)(B:Option Addr)(c:Nat)(w:World)(h:StIn w laws s wd rd LA CA MA DA WA RA GA c0 c1 c2 c3 c4 c5 c6)(hk:StLink s wd rd)(hf:StFew s wd rd)(hd:OkD d)(hS:Sl w 3 RPart.cells B d.to)(ds:List Deed)(DB:Option Addr)(dc:Nat)(gy:SlW w 7 zdY DB ds)(ar:d.to.length<=c)(bf:∀g∈s.graves,GoodG g/\g.holders.length<=50000)(bM:∀g∈s.graves,g.fin<=200000)
 (iw:∀W,Below w.heap.size w W->Calls Tryz.prog 112 #[.agg #[.slice LA laws.length c0,.slice CA s.children.length c1,.slice MA s.marriages.length c2,.slice DA s.dead.length c3,.slice WA wd.length c4,.slice RA rd.length c5,.slice GA s.graves.length c6],.string d.frm,.int .i64 d.day] W (zkS W laws (zpx laws s d.frm d.day))):Calls Tryz.prog 28 #[.agg #[.slice LA laws.length c0,.slice CA s.children.length c1,.slice MA s.marriages.length c2,.slice DA s.dead.length c3,.slice WA wd.length c4,.slice RA rd.length c5,.slice GA s.graves.length c6],.slice DB ds.length dc,d.v B c] w (zeT w laws (nxP laws s ds d)):=by
 obtain⟨R,hR⟩:∃R,R=nxP laws s ds d:=⟨_,rfl⟩
 rw[<-hR];unfold nxP at hR;obtain⟨eb,qD,ze,lz,cJ⟩:=yH5 bf bM iw ar gy;clear bf bM iw ar gy;obtain⟨H,HK,HF,HD,HS,HR⟩:=yH6 (fun W (hB:Below w.heap.size w W)=>h.keep hB) hk hf hd (fun W (hB:Below w.heap.size w W)=>hS.keep hB) hR;unfold Deed.v;clear h hk hf hd hS hR;go_enter Tryz.func28,Tryz.ntmps28
 go_upto_region 1 with fail
 generalize ao:World.alloc (World.alloc (World.alloc w _) _) _=W0;obtain⟨ak,aw⟩:=zeN ao;clear ao;have ay:=ak.o.size;obtain⟨⟨xs0,xd0,xr0⟩,⟨s0,s1,s2,s3,s4,s5,s6⟩,⟨d0,d1,d2,d3,d4,d5,d6⟩,⟨r0,r1,r2,r3,r4,r5,r6⟩,rf,ls,ld,lr⟩:=ddF (aw.o W0 (Below.refl _ _));have hr:=HR.o
 have dU:=zHi (fun W (hB:Below W0.heap.size W0 W)=>rTake_of laws s wd rd LA CA MA DA WA RA GA c0 c1 c2 c3 c4 c5 c6 d B c W (H.o W (ak.o.trans (hB.mono ay))) HK.o HF.o HD.o (HS.o W (ak.o.trans (hB.mono ay))) lz.o eb.o qD.o
  fun W' f9=>ze.o W' ((ak.o.trans (hB.mono ay)).trans (f9.mono (by have:=ak.o.size;have:=hB.size;omega))))
 unfold Deed.v at dU;by_cases oh:60<=ds.length
 ·have HE:Hid (R=(s,8)):=by show _=_;rw[hr,if_pos (by simpa using oh)]
  have hk:(60:Int)<=(ds.length:Int):=Mcm;clear hr;go_upto_region 2 with fail
  have be:=Below.refl W0.heap.size W0;exact Mg
 have hk:¬(60:Int)<=(ds.length:Int):=Mcm;rw[if_neg (by simpa using oh)]at hr;go_upto_region 3 with fail
 by_cases h0:0<ds.length
 ·have aa:ds.length-1<ds.length:=Mcm;obtain⟨gb,go,cs,lX,dK,dj,ah⟩:=(cJ.o.keep zb5 ak.o).at aa;have cx:ds.getLast?=some ds[ds.length-1]:=by rw[List.getLast?_eq_getElem?,List.getElem?_eq_getElem aa]
  rw[cx]at hr;generalize ds[ds.length-1]=e at*;obtain⟨EB,ec,u4,rfl,hP⟩:=dj;have i1:W0.cell? ⟨gb,go+(ds.length-1)*7+1,none⟩=some (.int .i64 e.day):=ah 1 _ rfl;have um:R=if decide (d.day<e.day)=true then(s,9)else zbp laws s d:=hr;have bD:=zHi um;subst lX;generalize hn:ds.length=n at*;have hz:(0:Int)<(n:Int):=Mcm;have jI:wrap64 ((n:Int)-1)=(n:Int)-1:=wrap_m Mcm;have yJ:(0:Int)<=(n:Int)-1:=Mcm;have LH:(n:Int)-1<(n:Int):=Mcm;have Hk:((n:Int)-1).toNat=n-1:=Mcm;clear hr um cx ah hP u4 hn oh;by_cases jS:d.day<e.day
  ·have HE:Hid (R=(s,9)):=by show _=_;rw[bD.o,if_pos (by simpa using jS)]
   (refine zaj Mcn Mcn ?_
    repeat(first|go_big_quiet_skip|(go_big_quiet_want;go_big_quiet_op;first|go_big_quiet_on|(apply Exists.intro;refine⟨fun _=>?_,?_⟩;(fail);go_big_quiet_on)))
    refine wpQuiet_nil ?_
    rintro _ ⟨zq,rfl⟩)
   clear xs0 xd0 xr0 s0 s1 s2 s3 s4 s5 s6 d0 d1 d2 d3 d4 d5 d6 r0 r1 r2 r3 r4 r5 r6 rf ls ld lr;obtain⟨⟨xs0,xd0,xr0⟩,⟨s0,s1,s2,s3,s4,s5,s6⟩,⟨d0,d1,d2,d3,d4,d5,d6⟩,⟨r0,r1,r2,r3,r4,r5,r6⟩,rf,ls,ld,lr⟩:=ddF (aw.o (W0.ext zq) (zap _ _));clear i1;have be:=zap W0 zq;exact Mg
  ·have cO:R=zbp laws s d:=by rw[bD.o,if_neg (by simpa using jS)]
   rw[<-cO]at dU;clear cO
   (refine zaj Mcn Mcn ?_
    repeat(first|go_big_quiet_skip|(go_big_quiet_want;go_big_quiet_op;first|go_big_quiet_on|(apply Exists.intro;refine⟨fun _=>?_,?_⟩;(fail);go_big_quiet_on)))
    refine wpQuiet_nil ?_
    rintro _ ⟨zq,rfl⟩)
   clear xs0 xd0 xr0 s0 s1 s2 s3 s4 s5 s6 d0 d1 d2 d3 d4 d5 d6 r0 r1 r2 r3 r4 r5 r6 rf ls ld lr;obtain⟨⟨xs0,xd0,xr0⟩,⟨s0,s1,s2,s3,s4,s5,s6⟩,⟨d0,d1,d2,d3,d4,d5,d6⟩,⟨r0,r1,r2,r3,r4,r5,r6⟩,rf,ls,ld,lr⟩:=ddF (aw.o (W0.ext zq) (zap _ _));clear i1;exact MbY
 ·have mJ:ds=[]:=List.eq_nil_of_length_eq_zero Mcm;have cO:R=zbp laws s d:=by rw[hr,mJ];rfl
  rw[<-cO]at dU;generalize hn:ds.length=n at*;have hz:decide ((0:Int)<(n:Int))=false:=Mcr;have jc:decide (0<n)=false:=Mcr;have hz3:¬0<n:=Mcm;clear hr cO mJ hn oh h0
  (refine zaj Mcn Mcn ?_
   repeat(first|go_big_quiet_skip|(go_big_quiet_want;go_big_quiet_op;first|go_big_quiet_on|(apply Exists.intro;refine⟨fun _=>?_,?_⟩;(fail);go_big_quiet_on)))
   refine wpQuiet_nil ?_
   rintro _ ⟨zq,rfl⟩)
  clear xs0 xd0 xr0 s0 s1 s2 s3 s4 s5 s6 d0 d1 d2 d3 d4 d5 d6 r0 r1 r2 r3 r4 r5 r6 rf ls ld lr;obtain⟨⟨xs0,xd0,xr0⟩,⟨s0,s1,s2,s3,s4,s5,s6⟩,⟨d0,d1,d2,d3,d4,d5,d6⟩,⟨r0,r1,r2,r3,r4,r5,r6⟩,rf,ls,ld,lr⟩:=ddF (aw.o (W0.ext zq) (zap _ _));exact MbY

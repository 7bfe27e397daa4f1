import Derived.Test.YtogklihlgindkaaGreatDoorXN
set_option linter.all false
set_option maxRecDepth 100000
set_option maxHeartbeats 4000000
namespace Go.Proofs.YtogklihlgindkaaGreatDoor
open Go.RowKit Go.Shelf
attribute [local go_sem] World.cell?_alloc_mark zaf za3 zam za6 zat zau zav zaw zax zay zaz
attribute [local go_sem] zao zac
structure OffS (b:Nat) (W W':World):Prop where
 blk:∃cs t fr,W.heap[b]?=some (.cells cs t fr)/\∀(j:Nat) (u:Value),cs[j]?=some u->zcQ u=true
 same:∀g,g≠b->W'.heap[g]?=W.heap[g]?
section
variable {b:Nat} {W W':World}
def OffS.ne(h:OffS b W W'){g i:Nat}{u:Value}(hc:W.cell? ⟨g,i,none⟩=some u)(hu:zcQ u=false):g≠b:=by
 rintro rfl;obtain⟨cs,t,fr,h1,h2⟩:=h.blk;simp only[World.cell?,h1]at hc;have:=h2 i u MdY;rw[hu]at this;cases this
def OffS.cell(h:OffS b W W'){g i:Nat}(hg:g≠b):W'.cell? ⟨g,i,none⟩=W.cell? ⟨g,i,none⟩:=by simp only[World.cell?,h.same g hg]
def OffS.lt(h:OffS b W W'){g:Nat}(hg:g≠b)(hl:g<W.heap.size):g<W'.heap.size:=by
 have:=h.same g hg;rw[Array.getElem?_eq_getElem hl]at this;exact(Array.getElem?_eq_some_iff.1 this).1
def OffS.sl(h:OffS b W W'){α:Type}{size:Nat}{f:α->List Value}{A:Option Addr}{xs:List α}(h0:∀x,∃u,(f x)[0]?=some u/\zcQ u=false)(hS:Sl W size f A xs):Sl W' size f A xs:=λhl=>by
 obtain⟨g,off,hA,hg,hc⟩:=hS hl;obtain⟨u,hu,hs⟩:=h0 xs[0];have dB:=h.ne (hc 0 _ (List.getElem?_eq_getElem hl) 0 u hu) hs;exact⟨g,off,hA,h.lt dB hg,λk x hk j v hv=>(h.cell dB).trans (hc k x hk j v hv)⟩
def OffS.slw(h:OffS b W W'){α:Type}{size:Nat}{R:World->α->List Value->Prop}{A:Option Addr}{xs:List α}(h0:∀x cs,R W x cs->R W' x cs/\∃u,cs[0]?=some u/\zcQ u=false)(hS:SlW W size R A xs):SlW W' size R A xs:=λhl=>by
 obtain⟨g,off,hA,hg,hc⟩:=hS hl;obtain⟨cs,hr,ah⟩:=hc 0 _ (List.getElem?_eq_getElem hl);obtain⟨_,u,hu,hs⟩:=h0 _ _ hr;have dB:=h.ne (ah 0 u hu) hs;refine⟨g,off,hA,h.lt dB hg,λk x hk=>?_⟩;obtain⟨cs,hr,ah⟩:=hc k x hk;exact⟨cs,(h0 _ _ hr).1,λj v hv=>(h.cell dB).trans (ah j v hv)⟩
def OffS.st(h:OffS b W W'){laws:List Law}{s:St}{a0 a1 a2 a3 a4 a5 a6:Value}(hS:StAt W laws s a0 a1 a2 a3 a4 a5 a6):StAt W' laws s a0 a1 a2 a3 a4 a5 a6:=by
 obtain⟨wd,rd,LA,CA,MA,DA,WA,RA,GA,c0,c1,c2,c3,c4,c5,c6,e0,e1,e2,e3,e4,e5,e6,hI,hL⟩:=hS;have hd:∀x cs,zfG W x cs->zfG W' x cs/\∃u,cs[0]?=some u/\zcQ u=false:=by
  rintro x cs ⟨B,c,h1,rfl,h3⟩;exact⟨⟨B,c,h1,rfl,h.sl (λp=>⟨_,rfl,rfl⟩) h3⟩,_,rfl,rfl⟩
 have hg:∀x cs,zij W x cs->zij W' x cs/\∃u,cs[0]?=some u/\zcQ u=false:=by
  rintro x cs ⟨H,hc,D,dc,rfl,h1,h2⟩;exact⟨⟨H,hc,D,dc,rfl,h.sl (λp=>⟨_,rfl,rfl⟩) h1,h.sl (λp=>⟨_,rfl,rfl⟩) h2⟩,_,rfl,rfl⟩
 exact⟨wd,rd,LA,CA,MA,DA,WA,RA,GA,c0,c1,c2,c3,c4,c5,c6,e0,e1,e2,e3,e4,e5,e6,
  ⟨h.sl (λp=>⟨_,rfl,rfl⟩) hI.laws,h.sl (λp=>⟨_,rfl,rfl⟩) hI.kids,h.sl (λp=>⟨_,rfl,rfl⟩) hI.marr,h.sl (λp=>⟨_,rfl,rfl⟩) hI.dead,h.slw hd hI.wills,h.slw hd hI.ren,h.slw hg hI.graves,hI.deadc⟩,hL⟩
def zc5{x0 x1 x2 x3 x4 x5 x6 a0 a1 a2 a3 a4 a5 a6:Value}{t:TypeId}{fr:Nat×Nat}(hb:W.heap[b]?=some (.cells #[x0,x1,x2,x3,x4,x5,x6] t fr))(hx:([x0,x1,x2,x3,x4,x5,x6].all zcQ)=true):
 OffS b W (((((((W.setCell ⟨b,0,none⟩ a0).setCell ⟨b,1,none⟩ a1).setCell ⟨b,2,none⟩ a2).setCell ⟨b,3,none⟩ a3).setCell ⟨b,4,none⟩ a4).setCell ⟨b,5,none⟩ a5).setCell ⟨b,6,none⟩ a6):=by
 refine⟨⟨_,t,fr,hb,λj u hu=>?_⟩,λg hg=>?_⟩
 ·rw[List.all_eq_true]at hx;refine hx u ?_;have:=Array.mem_of_getElem? hu;simpa using this
 ·cases hc:W.heap[g]? with
  |some o=>exact J_ne hg (J_ne hg (J_ne hg (J_ne hg (J_ne hg (J_ne hg (J_ne hg hc))))))
  |none=>
   have hs:W.heap.size<=g:=MdY;rw[Array.getElem?_eq_none];simp;exact hs
end
def StAt.keep{W W':World}{laws:List Law}{s:St}{a0 a1 a2 a3 a4 a5 a6:Value}(h:StAt W laws s a0 a1 a2 a3 a4 a5 a6)(hB:Qa W W'):StAt W' laws s a0 a1 a2 a3 a4 a5 a6:=by
 obtain⟨wd,rd,LA,CA,MA,DA,WA,RA,GA,c0,c1,c2,c3,c4,c5,c6,e0,e1,e2,e3,e4,e5,e6,hI,hL⟩:=h;exact⟨wd,rd,LA,CA,MA,DA,WA,RA,GA,c0,c1,c2,c3,c4,c5,c6,e0,e1,e2,e3,e4,e5,e6,hI.keep hB,hL⟩
def zld(w:World)(laws:List Law)(R:St×Int)(e:Ending)(w':World):Prop:=
 ∃a0 a1 a2 a3 a4 a5 a6 b,e=.returned (.tuple #[.agg #[a0,a1,a2,a3,a4,a5,a6],.bool b])/\([a0,a1,a2,a3,a4,a5,a6].all zcQ)=true/\Qa w w'/\((b=true/\R.2=0/\StAt w' laws R.1 a0 a1 a2 a3 a4 a5 a6)\/(b=false/\R.2=8))
def zpP(laws:List Law)(s:St)(n:ByteArray)(day:Int):St×Int:=match zb1 s n day (zcM s (zbc laws day) n) 0 s.graves with
 |none=>(s,8)
 |some gs=>({s with graves:=gs,dead:=s.dead++[n]},0)
def rTake_of(laws:List Law)(s:St)(wd rd:List Deed)(LA CA MA DA WA RA GA:Option Addr)(c0 c1 c2 c3 c4 c5 c6:Nat)(d:Deed)(B:Option Addr)(c:Nat)(w:World)(h:StIn w laws s wd rd LA CA MA DA WA RA GA c0 c1 c2 c3 c4 c5 c6)(hk:StLink s wd rd)(hf:StFew s wd rd)(hd:OkD d)(hS:Sl w 3 RPart.cells B d.to)(aA:d.to.length<=c)(bh:∀g∈s.graves,GoodG g/\g.holders.length<=50000)(bP:∀g∈s.graves,g.fin<=200000)
 (iL:∀W,Qa w W->Calls Tryz.prog 138 #[.agg #[.slice LA laws.length c0,.slice CA s.children.length c1,.slice MA s.marriages.length c2,.slice DA s.dead.length c3,.slice WA wd.length c4,.slice RA rd.length c5,.slice GA s.graves.length c6],.string d.frm,.int .i64 d.day] W (zld W laws (zpP laws s d.frm d.day))):Calls Tryz.prog 96 #[.agg #[.slice LA laws.length c0,.slice CA s.children.length c1,.slice MA s.marriages.length c2,.slice DA s.dead.length c3,.slice WA wd.length c4,.slice RA rd.length c5,.slice GA s.graves.length c6],d.v B c] w (zfM w laws (zbp laws s d)):=by
 obtain⟨R,hR⟩:=Qd (zbp laws s d)
 rw[<-hR];unfold zbp at hR;obtain⟨ez,qY,zQ,mh⟩:=yH4 bh bP iL aA;obtain⟨dvs,xz,xB,sI⟩:=dv_of h.wills;obtain⟨zR,oB,qS⟩:=yH3 xz xB sI;clear bh bP iL aA xz xB sI;obtain⟨H,HK,HF,HD,HS,HR⟩:=yH6 (λW (hB:Qa w W)=>h.keep hB) hk hf hd (λW (hB:Qa w W)=>hS.keep hB) hR;unfold Deed.v;clear h hk hf hd hS hR;go_enter Tryz.func96,Tryz.ntmps96
 go_upto_region 1 with fail
 generalize am:World.alloc (World.alloc (World.alloc w _) _) _=W0;obtain⟨ak,av⟩:=zeN am;clear am;have ay:=ak.o.size;obtain⟨⟨xs0,xd0,xr0⟩,⟨s0,s1,s2,s3,s4,s5,s6⟩,⟨d0,d1,d2,d3,d4,d5,d6⟩,⟨r0,r1,r2,r3,r4,r5,r6⟩,rf,ls,ld,lr⟩:=ddF (av.o W0 Qb);have hr:=HR.o;have hH:=H.o W0 ak.o;have qa:=HS.o W0 ak.o;go_upto_region 1 with fail
 by_cases h0:d.kind=0
 ·have k0:(d.kind==0)=true:=by simp[h0]
  have HT:=zHi (zpO laws s wd rd LA CA MA DA WA RA GA c0 c1 c2 c3 c4 c5 c6 d B c W0 hH HK.o HF.o HD.o qa h0);have cW:R=zcR s d:=by rw[hr];simp[h0]
  rw[<-cW]at HT;unfold Deed.v at HT;clear hr h0 cW
  go_wp2_with (go_at_call 130
               go_must(refine(HT.o).mono ?_)
               rintro e w5 ⟨a0,a1,a2,a3,a4,a5,a6,rfl,aZ,ar,aq⟩;obtain⟨⟨_,_,_,rfl⟩,⟨_,_,_,rfl⟩,⟨_,_,_,rfl⟩,⟨_,_,_,rfl⟩,⟨_,_,_,rfl⟩,⟨_,_,_,rfl⟩,⟨_,_,_,rfl⟩⟩:=zcm aZ;obtain⟨bf,aK⟩:=yH2 ar aq;obtain⟨_,_,xr5⟩:=av.o w5 ar;obtain⟨t0,t1,t2,t3,t4,t5,t6⟩:=zaG xr5;have tf:=frz xr5
               clear ar aq aZ)
  exact Mw
 have k0:(d.kind==0)=false:=by simp[h0]
 by_cases h1:d.kind=1
 ·have k1:(d.kind==1)=true:=by simp[h1]
  have HT:=zHi (zlb laws s wd rd LA CA MA DA WA RA GA c0 c1 c2 c3 c4 c5 c6 d B c W0 hH HK.o HF.o HD.o qa h1 ez.o);have cW:R=zbo s d:=by rw[hr];simp[h1]
  rw[<-cW]at HT;unfold Deed.v at HT;clear hr h1 cW
  go_wp2_with (go_at_call 131
               go_must(refine(HT.o).mono ?_)
               rintro e w5 ⟨a0,a1,a2,a3,a4,a5,a6,rfl,aZ,ar,aq⟩;obtain⟨⟨_,_,_,rfl⟩,⟨_,_,_,rfl⟩,⟨_,_,_,rfl⟩,⟨_,_,_,rfl⟩,⟨_,_,_,rfl⟩,⟨_,_,_,rfl⟩,⟨_,_,_,rfl⟩⟩:=zcm aZ;obtain⟨bf,aK⟩:=yH2 ar aq;obtain⟨_,_,xr5⟩:=av.o w5 ar;obtain⟨t0,t1,t2,t3,t4,t5,t6⟩:=zaG xr5;have tf:=frz xr5
               clear ar aq aZ)
  exact Mw
 have k1:(d.kind==1)=false:=by simp[h1]
 by_cases h2:d.kind=2
 ·have k2:(d.kind==2)=true:=by simp[h2]
  have HT:=zHi (zj8 laws s wd rd LA CA MA DA WA RA GA c0 c1 c2 c3 c4 c5 c6 d B c W0 hH HK.o HF.o HD.o qa ez.o);have cW:R=zbb s d:=by rw[hr];simp[h2]
  rw[<-cW]at HT;unfold Deed.v at HT;clear hr h2 cW
  go_wp2_with (go_at_call 132
               go_must(refine(HT.o).mono ?_)
               rintro e w5 ⟨a0,a1,a2,a3,a4,a5,a6,rfl,aZ,ar,aq⟩;obtain⟨⟨_,_,_,rfl⟩,⟨_,_,_,rfl⟩,⟨_,_,_,rfl⟩,⟨_,_,_,rfl⟩,⟨_,_,_,rfl⟩,⟨_,_,_,rfl⟩,⟨_,_,_,rfl⟩⟩:=zcm aZ;obtain⟨bf,aK⟩:=yH2 ar aq;obtain⟨_,_,xr5⟩:=av.o w5 ar;obtain⟨t0,t1,t2,t3,t4,t5,t6⟩:=zaG xr5;have tf:=frz xr5
               clear ar aq aZ)
  exact Mw
 have k2:(d.kind==2)=false:=by simp[h2]
 by_cases h3:d.kind=3
 ·have k3:(d.kind==3)=true:=by simp[h3]
  have HT:=zHi (zpJ laws s wd rd LA CA MA DA WA RA GA c0 c1 c2 c3 c4 c5 c6 d B c W0 hH HK.o HF.o HD.o qa qY.o);have cW:R=zdc s d:=by rw[hr];simp[h3]
  rw[<-cW]at HT;unfold Deed.v at HT;clear hr h3 cW
  go_wp2_with (go_at_call 133
               go_must(refine(HT.o).mono ?_)
               rintro e w5 ⟨a0,a1,a2,a3,a4,a5,a6,rfl,aZ,ar,aq⟩;obtain⟨⟨_,_,_,rfl⟩,⟨_,_,_,rfl⟩,⟨_,_,_,rfl⟩,⟨_,_,_,rfl⟩,⟨_,_,_,rfl⟩,⟨_,_,_,rfl⟩,⟨_,_,_,rfl⟩⟩:=zcm aZ;obtain⟨bf,aK⟩:=yH2 ar aq;obtain⟨_,_,xr5⟩:=av.o w5 ar;obtain⟨t0,t1,t2,t3,t4,t5,t6⟩:=zaG xr5;have tf:=frz xr5
               clear ar aq aZ)
  exact Mw
 have k3:(d.kind==3)=false:=by simp[h3]
 by_cases h5:d.kind=5
 ·have k5:(d.kind==5)=true:=by simp[h5]
  have HT:=zHi (zlc laws s wd rd LA CA MA DA WA RA GA c0 c1 c2 c3 c4 c5 c6 d B c W0 hH HK.o HF.o HD.o qa h5 mh.o);have cW:R=zb9 s d:=by rw[hr];simp[h5]
  rw[<-cW]at HT;unfold Deed.v at HT;clear hr h5 cW
  go_wp2_with (go_at_call 134
               go_must(refine(HT.o).mono ?_)
               rintro e w5 ⟨a0,a1,a2,a3,a4,a5,a6,rfl,aZ,ar,aq⟩;obtain⟨⟨_,_,_,rfl⟩,⟨_,_,_,rfl⟩,⟨_,_,_,rfl⟩,⟨_,_,_,rfl⟩,⟨_,_,_,rfl⟩,⟨_,_,_,rfl⟩,⟨_,_,_,rfl⟩⟩:=zcm aZ;obtain⟨bf,aK⟩:=yH2 ar aq;obtain⟨_,_,xr5⟩:=av.o w5 ar;obtain⟨t0,t1,t2,t3,t4,t5,t6⟩:=zaG xr5;have tf:=frz xr5
               clear ar aq aZ)
  exact Mw
 have k5:(d.kind==5)=false:=by simp[h5]
 by_cases h6:d.kind=6
 ·have k6:(d.kind==6)=true:=by simp[h6]
  have HT:=zHi (zpN laws s wd rd LA CA MA DA WA RA GA c0 c1 c2 c3 c4 c5 c6 d B c W0 hH HK.o HF.o HD.o qa h6);have cW:R=zcG s d:=by rw[hr];simp[h6]
  rw[<-cW]at HT;unfold Deed.v at HT;clear hr h6 cW
  go_wp2_with (go_at_call 135
               go_must(refine(HT.o).mono ?_)
               rintro e w5 ⟨a0,a1,a2,a3,a4,a5,a6,rfl,aZ,ar,aq⟩;obtain⟨⟨_,_,_,rfl⟩,⟨_,_,_,rfl⟩,⟨_,_,_,rfl⟩,⟨_,_,_,rfl⟩,⟨_,_,_,rfl⟩,⟨_,_,_,rfl⟩,⟨_,_,_,rfl⟩⟩:=zcm aZ;obtain⟨bf,aK⟩:=yH2 ar aq;obtain⟨_,_,xr5⟩:=av.o w5 ar;obtain⟨t0,t1,t2,t3,t4,t5,t6⟩:=zaG xr5;have tf:=frz xr5
               clear ar aq aZ)
  exact Mw
 have k6:(d.kind==6)=false:=by simp[h6]
 by_cases h7:d.kind=7
 ·have k7:(d.kind==7)=true:=by simp[h7]
  have HT:=zHi (zpL laws s wd rd LA CA MA DA WA RA GA c0 c1 c2 c3 c4 c5 c6 d B c W0 hH HK.o HF.o HD.o qa h7);have cW:R=zdt s d:=by rw[hr];simp[h7]
  rw[<-cW]at HT;unfold Deed.v at HT;clear hr h7 cW
  go_wp2_with (go_at_call 136
               go_must(refine(HT.o).mono ?_)
               rintro e w5 ⟨a0,a1,a2,a3,a4,a5,a6,rfl,aZ,ar,aq⟩;obtain⟨⟨_,_,_,rfl⟩,⟨_,_,_,rfl⟩,⟨_,_,_,rfl⟩,⟨_,_,_,rfl⟩,⟨_,_,_,rfl⟩,⟨_,_,_,rfl⟩,⟨_,_,_,rfl⟩⟩:=zcm aZ;obtain⟨bf,aK⟩:=yH2 ar aq;obtain⟨_,_,xr5⟩:=av.o w5 ar;obtain⟨t0,t1,t2,t3,t4,t5,t6⟩:=zaG xr5;have tf:=frz xr5
               clear ar aq aZ)
  exact Mw
 have k7:(d.kind==7)=false:=by simp[h7]
 rw[k0,k1,k2,k3,k5,k6,k7]at hr;simp only[Bool.false_eq_true,if_false]at hr;have fR:=zHi (sDead d.frm W0 hH HF.o);clear qa hH;by_cases h4:d.kind=4
 ·have k4:(d.kind==4)=true:=by simp[h4]
  have Jr:=zHi (zea (HD.o.parts (.inr (.inr h4))).2).1;rw[k4,if_pos rfl]at hr;unfold zgU at hr;clear h0 h1 h2 h3 h4 h5 h6 h7;cases cg:zaN s d.frm;rotate_left 1
  ·exact McQ
  rw[cg,if_neg McV]at hr;rw[cg]at fR;have HE:=zHi hr;clear hr cg;go_upto_region 19 with(go_at_call 137;go_must(refine(fR.o).mono ?_);rintro e wq ⟨rfl,z,rfl⟩)
  obtain⟨WX,kJ⟩:=Qd (W0.ext z)
  have iq:Qa W0 WX:=by rw[kJ];exact zan _ _
  rw[<-kJ];have bD:=zHi iq;have eH:=iq.size;clear kJ iq fR;clear xs0 xd0 xr0 s0 s1 s2 s3 s4 s5 s6 d0 d1 d2 d3 d4 d5 d6 r0 r1 r2 r3 r4 r5 r6 rf ls ld lr;obtain⟨⟨xs0,xd0,xr0⟩,⟨s0,s1,s2,s3,s4,s5,s6⟩,⟨d0,d1,d2,d3,d4,d5,d6⟩,⟨r0,r1,r2,r3,r4,r5,r6⟩,rf,ls,ld,lr⟩:=ddF (av.o WX (bD.o));have Nj:=HF.o.wills;have bw:Hid (wd.length=(dvs).length):=zHi (by rw[<-zR.o,List.length_map]);have ub:Hid ((dvs).length<=1000):=zHi (by rw[<-bw.o];exact HF.o.wills);have bU:=zHi (λW (hB:Qa WX W)=>qS.o.keep (ak.o.trans ((bD.o.trans (hB.mono eH)).mono ay)));have aJ:=zHi (λ(W:World) (h:Qa WX W)=>(show W.cell? ⟨w.heap.size,4,none⟩=some (.slice WA wd.length c4)/\W.cell? ⟨w.heap.size+1,0,none⟩=some (.int .i64 d.kind)/\W.cell? ⟨w.heap.size+1,1,none⟩=some (.int .i64 d.day)/\W.cell? ⟨w.heap.size+1,2,none⟩=some (.string d.place)/\W.cell? ⟨w.heap.size+1,3,none⟩=some (.string d.frm)/\W.cell? ⟨w.heap.size+1,4,none⟩=some (.slice B d.to.length c)/\W.cell? ⟨w.heap.size+1,5,none⟩=some (.int .i64 d.cls)/\W.cell? ⟨w.heap.size+1,6,none⟩=some (.int .i64 d.years) from⟨(zai h ls).trans s4,(zai h ld).trans d0,(zai h ld).trans d1,(zai h ld).trans d2,(zai h ld).trans d3,(zai h ld).trans d4,(zai h ld).trans d5,(zai h ld).trans d6⟩))
  go_cut [5]from 67 to 75 (λv wc=>v=v/\∃V c',wc.heap[w.heap.size]?=some (.cells #[.slice LA laws.length c0,.slice CA s.children.length c1,.slice MA s.marriages.length c2,.slice DA s.dead.length c3,.slice V (wd.length+1) c',.slice RA rd.length c5,.slice GA s.graves.length c6] 86)/\wc.heap[w.heap.size+2]?=some (.cells #[.slice none 0 0,.slice none 0 0,.slice none 0 0,.slice none 0 0,.slice none 0 0,.slice none 0 0,.slice none 0 0] 86)/\Ro wc 60 DV.cells V (dvs++[(⟨d,B,c⟩:DV)])/\Qa w wc)
  case first=>
   refine za9 6 (λbb w'=>bb=true\/(w'.cell? ⟨w.heap.size,4,none⟩=some (.slice WA wd.length c4)/\w'.cell? ⟨w.heap.size+1,0,none⟩=some (.int .i64 d.kind)/\w'.cell? ⟨w.heap.size+1,1,none⟩=some (.int .i64 d.day)/\w'.cell? ⟨w.heap.size+1,2,none⟩=some (.string d.place)/\w'.cell? ⟨w.heap.size+1,3,none⟩=some (.string d.frm)/\w'.cell? ⟨w.heap.size+1,4,none⟩=some (.slice B d.to.length c)/\w'.cell? ⟨w.heap.size+1,5,none⟩=some (.int .i64 d.cls)/\w'.cell? ⟨w.heap.size+1,6,none⟩=some (.int .i64 d.years))) McT (.inr (aJ.o _ (zaF Qb))) ?hrest
   case hrest=>
    intro hHeld;clear xs0 xd0 xr0 s0 s1 s2 s3 s4 s5 s6 d0 d1 d2 d3 d4 d5 d6 r0 r1 r2 r3 r4 r5 r6 rf ls ld lr;refine TkM 1 ?_;refine TkM 2 ?_;refine TkM 4 ?_;refine TwM 0 5 (λK hK=>?_) λK hK=>?_
    ·go_simp
     have e0:Qa WX (WX.drew.alloc (.cells #[] 60)):=zad (zaF Qb) _;have m0:OwnS (WX.drew.alloc (.cells #[] 60)) WX.heap.size 60 7 DV.cells (.slice (some ⟨WX.heap.size,0,none⟩) 0 0) []:=zdX zch WX.drew WX.heap.size Qc;refine NxM hK (λhHeld=>?_) (.inr (aJ.o _ e0));clear hK K;refine TwM 3 5 (λK hK=>?_) λK hK=>?_
     ·refine zap (v:=.slice (some ⟨WX.heap.size,0,none⟩) 0 0) (n:=0) (m:=wd.length) rfl _ _ rfl zg6 zch zg5 rfl (xs:=[]) (ys:=dvs) (m0) rfl rfl bw.o (bU.o _ e0) Mc0 Mdc Mc4 ?_;intro v4 w4 h1 h2 h3;rw[List.nil_append]at h1;obtain⟨V4,c4',be,_,_⟩:=h1.sl zch;rw[<-bw.o]at be;subst be;have aB:Qa WX w4:=Below.grown e0 h2 MdP (λj hj=>by simp[za4]at hj;omega);refine NxM hK (λhHeld=>?_) (.inr (aJ.o _ aB));clear hK K;refine OnM 5 false λK hK=>?_
      go_simp
      have e1:Qa WX (w4.alloc (.cells #[.int .i64 d.kind,.int .i64 d.day,.string d.place,.string d.frm,.slice B d.to.length c,.int .i64 d.cls,.int .i64 d.years] 60)):=zad aB _;have n1:(w4.alloc (.cells #[.int .i64 d.kind,.int .i64 d.day,.string d.place,.string d.frm,.slice B d.to.length c,.int .i64 d.cls,.int .i64 d.years] 60)).heap[w4.heap.size]?=some (.cells #[.int .i64 d.kind,.int .i64 d.day,.string d.place,.string d.frm,.slice B d.to.length c,.int .i64 d.cls,.int .i64 d.years] 60):=zas _ _ _ rfl;have o1:OwnS (w4.alloc (.cells #[.int .i64 d.kind,.int .i64 d.day,.string d.place,.string d.frm,.slice B d.to.length c,.int .i64 d.cls,.int .i64 d.years] 60)) WX.heap.size 60 7 DV.cells (.slice V4 wd.length c4') dvs:=h1.keep (n:=w4.heap.size) (zad Qb _);refine NxM hK (λhHeld=>?_) (.inr (aJ.o _ e1));clear hK K;have o9:=o1;have n9:=n1;have e9:=e1;exact Mp
     ·go_simp
      have e1:Qa WX ((WX.drew.alloc (.cells #[] 60)).alloc (.cells #[.int .i64 d.kind,.int .i64 d.day,.string d.place,.string d.frm,.slice B d.to.length c,.int .i64 d.cls,.int .i64 d.years] 60)):=zad e0 _;have n1:((WX.drew.alloc (.cells #[] 60)).alloc (.cells #[.int .i64 d.kind,.int .i64 d.day,.string d.place,.string d.frm,.slice B d.to.length c,.int .i64 d.cls,.int .i64 d.years] 60)).heap[WX.heap.size+1]?=some (.cells #[.int .i64 d.kind,.int .i64 d.day,.string d.place,.string d.frm,.slice B d.to.length c,.int .i64 d.cls,.int .i64 d.years] 60):=zas _ _ _ McV;have m1:OwnS ((WX.drew.alloc (.cells #[] 60)).alloc (.cells #[.int .i64 d.kind,.int .i64 d.day,.string d.place,.string d.frm,.slice B d.to.length c,.int .i64 d.cls,.int .i64 d.years] 60)) WX.heap.size 60 7 DV.cells (.slice (some ⟨WX.heap.size,0,none⟩) 0 0) []:=m0.keep (n:=(WX.drew.alloc (.cells #[] 60)).heap.size) (zad Qb _);refine NxM hK (λhHeld=>?_) (.inr (aJ.o _ e1));clear hK K;refine OnM 3 false λK hK=>?_
      refine zap (v:=.slice (some ⟨WX.heap.size,0,none⟩) 0 0) (n:=0) (m:=wd.length) rfl _ _ rfl zg6 zch zg5 rfl (xs:=[]) (ys:=dvs) (m1) rfl rfl bw.o (bU.o _ e1) Mc0 Mdc McZ ?_;intro v4 w4 h1 h2 h3;rw[List.nil_append]at h1;obtain⟨V4,c4',be,_,_⟩:=h1.sl zch;rw[<-bw.o]at be;subst be;have aB:Qa WX w4:=Below.grown e1 h2 Mde (λj hj=>by simp[za4]at hj;omega);have n2:w4.heap[WX.heap.size+1]?=some (.cells #[.int .i64 d.kind,.int .i64 d.day,.string d.place,.string d.frm,.slice B d.to.length c,.int .i64 d.cls,.int .i64 d.years] 60):=(h2.block _ Mda MdI).trans n1;exact McB
    ·go_simp
     have e0:Qa WX (WX.drew.alloc (.cells #[.int .i64 d.kind,.int .i64 d.day,.string d.place,.string d.frm,.slice B d.to.length c,.int .i64 d.cls,.int .i64 d.years] 60)):=zad (zaF Qb) _;have n0:(WX.drew.alloc (.cells #[.int .i64 d.kind,.int .i64 d.day,.string d.place,.string d.frm,.slice B d.to.length c,.int .i64 d.cls,.int .i64 d.years] 60)).heap[WX.heap.size]?=some (.cells #[.int .i64 d.kind,.int .i64 d.day,.string d.place,.string d.frm,.slice B d.to.length c,.int .i64 d.cls,.int .i64 d.years] 60):=zas _ _ _ rfl;refine NxM hK (λhHeld=>?_) (.inr (aJ.o _ e0));clear hK K;refine OnM 0 false λK hK=>?_
     go_simp
     have e1:Qa WX ((WX.drew.alloc (.cells #[.int .i64 d.kind,.int .i64 d.day,.string d.place,.string d.frm,.slice B d.to.length c,.int .i64 d.cls,.int .i64 d.years] 60)).alloc (.cells #[] 60)):=zad e0 _;have n1:((WX.drew.alloc (.cells #[.int .i64 d.kind,.int .i64 d.day,.string d.place,.string d.frm,.slice B d.to.length c,.int .i64 d.cls,.int .i64 d.years] 60)).alloc (.cells #[] 60)).heap[WX.heap.size]?=some (.cells #[.int .i64 d.kind,.int .i64 d.day,.string d.place,.string d.frm,.slice B d.to.length c,.int .i64 d.cls,.int .i64 d.years] 60):=zal n0;have m1:OwnS ((WX.drew.alloc (.cells #[.int .i64 d.kind,.int .i64 d.day,.string d.place,.string d.frm,.slice B d.to.length c,.int .i64 d.cls,.int .i64 d.years] 60)).alloc (.cells #[] 60)) WX.heap.size 60 7 DV.cells (.slice (some ⟨WX.heap.size+1,0,none⟩) 0 0) []:=by
      exact MaB
     refine NxM hK (λhHeld=>?_) (.inr (aJ.o _ e1));clear hK K;refine OnM 3 false λK hK=>?_
     refine zap (v:=.slice (some ⟨WX.heap.size+1,0,none⟩) 0 0) (n:=0) (m:=wd.length) rfl _ _ rfl zg6 zch zg5 rfl (xs:=[]) (ys:=dvs) (m1) rfl rfl bw.o (bU.o _ e1) Mc0 Mdc McZ ?_;intro v4 w4 h1 h2 h3;rw[List.nil_append]at h1;obtain⟨V4,c4',be,_,_⟩:=h1.sl zch;rw[<-bw.o]at be;subst be;have aB:Qa WX w4:=Below.grown e1 h2 Mde (λj hj=>by simp[za4]at hj;omega);have n2:w4.heap[WX.heap.size]?=some (.cells #[.int .i64 d.kind,.int .i64 d.day,.string d.place,.string d.frm,.slice B d.to.length c,.int .i64 d.cls,.int .i64 d.years] 60):=(h2.block _ Mda MdI).trans n1;exact McB
  case rest=>
   obtain⟨_,V,c',dQ,cx,ej,oQ⟩:=hcut;clear xs0 xd0 xr0 s0 s1 s2 s3 s4 s5 s6 d0 d1 d2 d3 d4 d5 d6 r0 r1 r2 r3 r4 r5 r6 rf ls ld lr;obtain⟨s0,s1,s2,s3,s4,s5,s6⟩:=zaG dQ;obtain⟨r0,r1,r2,r3,r4,r5,r6⟩:=zaG cx;have rf:=frz cx;have ls:=zab dQ;have lr:=zab cx;go_wp2_with fail
   rw[HE.o];have cC:=zcC (a0:=.slice LA laws.length c0) (a1:=.slice CA s.children.length c1) (a2:=.slice MA s.marriages.length c2) (a3:=.slice DA s.dead.length c3) (a4:=.slice V (wd.length+1) c') (a5:=.slice RA rd.length c5) (a6:=.slice GA s.graves.length c6) oQ (show w.heap.size<=w.heap.size+2 by omega);refine bodyPost_ret (zbB rfl _ rfl rfl (zc0 cx)) rfl ?_;have h':=H.o _ cC;refine⟨_,_,_,_,_,_,_,rfl,rfl,cC,λ_=>⟨wd++[d],rd,LA,CA,MA,DA,V,RA,GA,c0,c1,c2,c3,c',c5,c6,rfl,rfl,rfl,rfl,by rw[List.length_append];rfl,rfl,rfl,⟨h'.laws,h'.kids,h'.marr,h'.dead,?_,h'.ren,h'.graves,h'.deadc⟩,⟨?_,?_,HK.o.ren,HK.o.tos⟩⟩⟩
   ·exact Man
   ·rw[List.map_append,<-HK.o.wills];rfl
   ·intro x hx;rcases List.mem_append.1 hx with hx|hx
    ·exact HK.o.shares x hx
    ·rw[List.mem_singleton.1 hx];exact λp hp=>(Jr.o p hp).2.2
 ·have k4:(d.kind==4)=false:=by simp[h4]
  rw[k4]at hr;simp only[Bool.false_eq_true,if_false]at hr;unfold zdM at hr;clear h0 h1 h2 h3 h4 h5 h6 h7;cases cg:zaN s d.frm;rotate_left 1
  ·exact McQ
  rw[cg,if_neg McV]at hr;rw[cg]at fR;have cW:R=zpP laws s d.frm d.day:=hr;have ve:=zHi (λW (hB:Qa W0 W)=>zQ.o W (ak.o.trans (hB.mono ay)));rw[<-cW]at ve;clear hr cg cW zQ;go_upto_region 21 with(go_at_call 137;go_must(refine(fR.o).mono ?_);rintro e wq ⟨rfl,z,rfl⟩)
  obtain⟨W1,aX⟩:=Qd (W0.ext z)
  have aW:Qa W0 W1:=MdM;rw[<-aX];have iE:=aW.size;have aL:=zHi aW;clear aX aW fR;clear xs0 xd0 xr0 s0 s1 s2 s3 s4 s5 s6 d0 d1 d2 d3 d4 d5 d6 r0 r1 r2 r3 r4 r5 r6 rf ls ld lr;obtain⟨⟨xs0,xd0,xr0⟩,⟨s0,s1,s2,s3,s4,s5,s6⟩,⟨d0,d1,d2,d3,d4,d5,d6⟩,⟨r0,r1,r2,r3,r4,r5,r6⟩,rf,ls,ld,lr⟩:=ddF (av.o W1 (aL.o))
  go_upto_region 22 with(go_at_call 138
                         go_must(refine(ve.o _ aL.o).mono ?_)
                         rintro e w5 ⟨a0,a1,a2,a3,a4,a5,a6,bb,rfl,aZ,ar,aq⟩;obtain⟨⟨X0,n0,m0,rfl⟩,⟨X1,n1,m1,rfl⟩,⟨X2,n2,m2,rfl⟩,⟨X3,n3,m3,rfl⟩,⟨X4,n4,m4,rfl⟩,⟨X5,n5,m5,rfl⟩,⟨X6,n6,m6,rfl⟩⟩:=zcm aZ;obtain⟨bf,aK⟩:=yH2 (aL.o.trans (ar.mono iE)) aq
                         clear ar aq aZ)
  obtain⟨W6,fU⟩:=Qd (w5.alloc (.cells #[.slice X0 n0 m0,.slice X1 n1 m1,.slice X2 n2 m2,.slice X3 n3 m3,.slice X4 n4 m4,.slice X5 n5 m5,.slice X6 n6 m6] 86))
  have gY:W6.heap[w5.heap.size]?=some (.cells #[.slice X0 n0 m0,.slice X1 n1 m1,.slice X2 n2 m2,.slice X3 n3 m3,.slice X4 n4 m4,.slice X5 n5 m5,.slice X6 n6 m6] 86):=by rw[fU];exact zas _ _ _ rfl
  have aS:Qa w5 W6:=by rw[fU];exact zad Qb _
  obtain⟨bs,m9⟩:=yH2 (bf.o.trans (aS.mono bf.o.size)) aS;obtain⟨YB,Do⟩:=Qd w5.heap.size
  rw[<-fU,<-Do];rw[<-Do]at gY;clear fU Do aS;clear xs0 xd0 xr0 s0 s1 s2 s3 s4 s5 s6 d0 d1 d2 d3 d4 d5 d6 r0 r1 r2 r3 r4 r5 r6 rf ls ld lr;obtain⟨⟨xs0,xd0,xr0⟩,⟨s0,s1,s2,s3,s4,s5,s6⟩,⟨d0,d1,d2,d3,d4,d5,d6⟩,⟨r0,r1,r2,r3,r4,r5,r6⟩,rf,ls,ld,lr⟩:=ddF (av.o W6 (bs.o));obtain⟨y0,y1,y2,y3,y4,y5,y6⟩:=zaG gY;have kp:=zab gY;obtain⟨R1,R2⟩:=R;rcases aK.o with⟨rfl,hz,aq⟩|⟨rfl,hz⟩
  ·simp only at hz;subst hz;have f9:=zHi aq;clear aq;go_wp2_with fail
   refine bodyPost_ret (zbB rfl _ rfl rfl (zc0 xr0)) rfl ?_;exact⟨_,_,_,_,_,_,_,rfl,rfl,zcC (ak.o.trans (bs.o.mono ay)) (show w.heap.size<=w.heap.size+2 by omega),λ_=>(zc5 xr0 rfl).st (f9.o.keep m9.o)⟩
  ·simp only at hz;subst hz;go_wp2_with fail
   refine bodyPost_ret (zbB rfl _ rfl rfl (zc0 xr0)) rfl ?_;exact⟨_,_,_,_,_,_,_,rfl,rfl,zcC (ak.o.trans (bs.o.mono ay)) (show w.heap.size<=w.heap.size+2 by omega),λe=>by cases e⟩
noncomputable def nxP (laws:List Law) (s:St) (ds:List Deed) (d:Deed):St×Int:=
 if decide (60<=ds.length)then(s,8)else if(ds.getLast?.map λe=>decide (d.day<e.day)).getD false then(s,9)else zbp laws s d
def rNext_of(laws:List Law)(s:St)(wd rd:List Deed)(LA CA MA DA WA RA GA:Option Addr)(c0 c1 c2 c3 c4 c5 c6:Nat)(d:Deed)(B:Option Addr)(c:Nat)(w:World)(h:StIn w laws s wd rd LA CA MA DA WA RA GA c0 c1 c2 c3 c4 c5 c6)(hk:StLink s wd rd)(hf:StFew s wd rd)(hd:OkD d)(hS:Sl w 3 RPart.cells B d.to)(ds:List Deed)(DB:Option Addr)(dc:Nat)(gV:SlW w 7 zfG DB ds)(aA:d.to.length<=c)(bh:∀g∈s.graves,GoodG g/\g.holders.length<=50000)(bP:∀g∈s.graves,g.fin<=200000)
 (iL:∀W,Qa w W->Calls Tryz.prog 138 #[.agg #[.slice LA laws.length c0,.slice CA s.children.length c1,.slice MA s.marriages.length c2,.slice DA s.dead.length c3,.slice WA wd.length c4,.slice RA rd.length c5,.slice GA s.graves.length c6],.string d.frm,.int .i64 d.day] W (zld W laws (zpP laws s d.frm d.day))):Calls Tryz.prog 55 #[.agg #[.slice LA laws.length c0,.slice CA s.children.length c1,.slice MA s.marriages.length c2,.slice DA s.dead.length c3,.slice WA wd.length c4,.slice RA rd.length c5,.slice GA s.graves.length c6],.slice DB ds.length dc,d.v B c] w (zfM w laws (nxP laws s ds d)):=by
 obtain⟨R,hR⟩:=Qd (nxP laws s ds d)
 rw[<-hR];unfold nxP at hR;obtain⟨ez,qY,zQ,mh,eW⟩:=yH5 bh bP iL aA gV;clear bh bP iL aA gV;obtain⟨H,HK,HF,HD,HS,HR⟩:=yH6 (λW (hB:Qa w W)=>h.keep hB) hk hf hd (λW (hB:Qa w W)=>hS.keep hB) hR;unfold Deed.v;clear h hk hf hd hS hR;go_enter Tryz.func55,Tryz.ntmps55
 go_upto_region 1 with fail
 generalize am:World.alloc (World.alloc (World.alloc w _) _) _=W0;obtain⟨ak,av⟩:=zeN am;clear am;have ay:=ak.o.size;obtain⟨⟨xs0,xd0,xr0⟩,⟨s0,s1,s2,s3,s4,s5,s6⟩,⟨d0,d1,d2,d3,d4,d5,d6⟩,⟨r0,r1,r2,r3,r4,r5,r6⟩,rf,ls,ld,lr⟩:=ddF (av.o W0 Qb);have hr:=HR.o
 have jx:=zHi (λW (hB:Qa W0 W)=>rTake_of laws s wd rd LA CA MA DA WA RA GA c0 c1 c2 c3 c4 c5 c6 d B c W (H.o W (ak.o.trans (hB.mono ay))) HK.o HF.o HD.o (HS.o W (ak.o.trans (hB.mono ay))) mh.o ez.o qY.o
  λW' fJ=>zQ.o W' ((ak.o.trans (hB.mono ay)).trans (fJ.mono (by have:=ak.o.size;have:=hB.size;omega))))
 unfold Deed.v at jx;by_cases h60:60<=ds.length
 ·have HE:Hid (R=(s,8)):=by show _=_;rw[hr,if_pos (by simpa using h60)]
  have hk:(60:Int)<=(ds.length:Int):=McS;clear hr;go_upto_region 2 with fail
  have bl:=Below.refl W0.heap.size W0;exact Mg
 have hk:¬(60:Int)<=(ds.length:Int):=McS;rw[if_neg (by simpa using h60)]at hr;go_upto_region 3 with fail
 by_cases h0:0<ds.length
 ·have ae:ds.length-1<ds.length:=McS;obtain⟨gb,go,cs,jA,dB,dD,ah⟩:=(eW.o.keep zbS ak.o).at ae;have bQ:ds.getLast?=some ds[ds.length-1]:=by rw[List.getLast?_eq_getElem?,List.getElem?_eq_getElem ae]
  rw[bQ]at hr;generalize ds[ds.length-1]=e at*;obtain⟨EB,ec,uA,rfl,hP⟩:=dD;have i1:W0.cell? ⟨gb,go+(ds.length-1)*7+1,none⟩=some (.int .i64 e.day):=ah 1 _ rfl;have uJ:R=if decide (d.day<e.day)=true then(s,9)else zbp laws s d:=hr;have bK:=zHi uJ;subst jA;generalize hn:ds.length=n at*;have hz:(0:Int)<(n:Int):=McS;have jU:wrap64 ((n:Int)-1)=(n:Int)-1:=wrap_m McS;have zA:(0:Int)<=(n:Int)-1:=McS;have ET:(n:Int)-1<(n:Int):=McS;have Io:((n:Int)-1).toNat=n-1:=McS;clear hr uJ bQ ah hP uA hn h60;by_cases ki:d.day<e.day
  ·have HE:Hid (R=(s,9)):=by show _=_;rw[bK.o,if_pos (by simpa using ki)]
   (refine zag McT McT ?_
    repeat(first|go_big_quiet_skip|(go_big_quiet_want;go_big_quiet_op;first|go_big_quiet_on|(apply Exists.intro;refine⟨λ_=>?_,?_⟩;(fail);go_big_quiet_on)))
    refine wpQuiet_nil ?_
    rintro _ ⟨zq,rfl⟩)
   clear xs0 xd0 xr0 s0 s1 s2 s3 s4 s5 s6 d0 d1 d2 d3 d4 d5 d6 r0 r1 r2 r3 r4 r5 r6 rf ls ld lr;obtain⟨⟨xs0,xd0,xr0⟩,⟨s0,s1,s2,s3,s4,s5,s6⟩,⟨d0,d1,d2,d3,d4,d5,d6⟩,⟨r0,r1,r2,r3,r4,r5,r6⟩,rf,ls,ld,lr⟩:=ddF (av.o (W0.ext zq) (zan _ _));clear i1;have bl:=zan W0 zq;exact Mg
  ·have cW:R=zbp laws s d:=by rw[bK.o,if_neg (by simpa using ki)]
   rw[<-cW]at jx;clear cW
   (refine zag McT McT ?_
    repeat(first|go_big_quiet_skip|(go_big_quiet_want;go_big_quiet_op;first|go_big_quiet_on|(apply Exists.intro;refine⟨λ_=>?_,?_⟩;(fail);go_big_quiet_on)))
    refine wpQuiet_nil ?_
    rintro _ ⟨zq,rfl⟩)
   clear xs0 xd0 xr0 s0 s1 s2 s3 s4 s5 s6 d0 d1 d2 d3 d4 d5 d6 r0 r1 r2 r3 r4 r5 r6 rf ls ld lr;obtain⟨⟨xs0,xd0,xr0⟩,⟨s0,s1,s2,s3,s4,s5,s6⟩,⟨d0,d1,d2,d3,d4,d5,d6⟩,⟨r0,r1,r2,r3,r4,r5,r6⟩,rf,ls,ld,lr⟩:=ddF (av.o (W0.ext zq) (zan _ _));clear i1;exact Mck
 ·have nz:ds=[]:=List.eq_nil_of_length_eq_zero McS;have cW:R=zbp laws s d:=by rw[hr,nz];rfl
  rw[<-cW]at jx;generalize hn:ds.length=n at*;have hz:decide ((0:Int)<(n:Int))=false:=McX;have jp:decide (0<n)=false:=McX;have Bf:¬0<n:=McS;clear hr cW nz hn h60 h0
  (refine zag McT McT ?_
   repeat(first|go_big_quiet_skip|(go_big_quiet_want;go_big_quiet_op;first|go_big_quiet_on|(apply Exists.intro;refine⟨λ_=>?_,?_⟩;(fail);go_big_quiet_on)))
   refine wpQuiet_nil ?_
   rintro _ ⟨zq,rfl⟩)
  clear xs0 xd0 xr0 s0 s1 s2 s3 s4 s5 s6 d0 d1 d2 d3 d4 d5 d6 r0 r1 r2 r3 r4 r5 r6 rf ls ld lr;obtain⟨⟨xs0,xd0,xr0⟩,⟨s0,s1,s2,s3,s4,s5,s6⟩,⟨d0,d1,d2,d3,d4,d5,d6⟩,⟨r0,r1,r2,r3,r4,r5,r6⟩,rf,ls,ld,lr⟩:=ddF (av.o (W0.ext zq) (zan _ _));exact Mck

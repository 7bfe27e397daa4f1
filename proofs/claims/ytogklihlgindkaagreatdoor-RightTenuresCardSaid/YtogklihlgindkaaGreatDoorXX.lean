import Derived.Test.YtogklihlgindkaaGreatDoorXT
set_option linter.all false
set_option maxRecDepth 100000
set_option maxHeartbeats 4000000
namespace Go.Proofs.YtogklihlgindkaaGreatDoor
open Go.RowKit Go.Shelf
attribute [local go_sem] World.cell?_alloc_mark zaf za3 zam za6 zat zau zav zaw zax zay zaz
attribute [local go_sem] zao zac
def zpW(laws:List Law)(ds:List Deed)(names:List ByteArray)(day:Int)(LA:Option Addr)(n nc:Nat)(DA:Option Addr)(m mc:Nat)(NA:Option Addr)(l c:Nat)(w:World)(hR:RightsIn w laws ds LA n nc DA m mc)(hO:∀d∈ds,zdQ d)(bA:ds.length<=500)(hl:l=names.length)(kP:names.length<=1000)(hN:∀s∈names,s.size<=100000)(hS:Sl w 1 sC NA names):
 Calls Tryz.prog 8 #[.agg #[.slice LA n nc,.slice DA m mc],.slice NA l c,.int .i64 day] w (Ret w (.int .i64 (zce laws ds names day))):=by
 subst hl;obtain⟨eB,HS,HN⟩:=yH3 (λW (hB:Qa w W)=>zjp laws ds 200000 LA n nc DA m mc W (hR.keep hB) hO bA) (λW (hB:Qa w W)=>(hS.keep hB:Sl W 1 sC NA names)) hN;obtain⟨R,ur⟩:=Qd (zce laws ds names day)
 rw[<-ur];unfold zce at ur;rw[zee]at ur;unfold zjo at eB;generalize zaI laws ds 200000=Q at*;obtain⟨st,rk,re⟩:=Q;simp only at ur eB;have ry:=zHi ur;clear ur hR hO hS hN;go_enter Tryz.func8,Tryz.ntmps8
 go_upto_region 1 with fail
 obtain⟨W0,am⟩:=Qd (w.alloc (.cells #[.slice LA n nc,.slice DA m mc] 25))
 obtain⟨b0,aO⟩:=boxed am.symm;rw[<-am];have ak:=zHi aO;obtain⟨x0,x1⟩:=zbx b0;have lx:=zab b0;have ay:=aO.size;clear am aO b0
 go_upto_region 2 with(go_at_call 26
                       go_must(refine(eB.o _ ak.o).mono ?_)
                       rintro e w2 ⟨a0,a1,a2,a3,a4,a5,a6,rfl,aZ,bM,_⟩;obtain⟨⟨A0,m0,q0,rfl⟩,⟨A1,m1,q1,rfl⟩,⟨A2,m2,q2,rfl⟩,⟨A3,m3,q3,rfl⟩,⟨A4,m4,q4,rfl⟩,⟨A5,m5,q5,rfl⟩,⟨A6,m6,q6,rfl⟩⟩:=zcm aZ;have aN:=zHi (ak.o.trans (bM.mono ay))
                       clear bM aZ)
 obtain⟨W3,bv⟩:=Qd (w2.alloc (.cells #[.slice A0 m0 q0,.slice A1 m1 q1,.slice A2 m2 q2,.slice A3 m3 q3,.slice A4 m4 q4,.slice A5 m5 q5,.slice A6 m6 q6] 86))
 have ax:Qa w W3:=by rw[bv];exact zad aN.o _ (by have:=aN.o.size;omega)
 rw[<-bv];have aG:=zHi ax;clear bv ax x0 x1 lx;by_cases hre:re=0;rotate_left 1
 ·have lH:(re != 0)=true:=by simpa using hre
  have HE:Hid (R=re):=by show _=_;rw[ry.o,if_pos lH]
  clear hre;go_wp2_with fail
  go_ret
  exact Ret.of (zb7 HE.o.symm) aG.o
 subst hre;have lC:Hid (R=if(names.drop 0).any (λs=>!zaU s)then 4 else if !zba day then 2 else 0):=by show _=_;rw[ry.o,if_neg McV];rfl
 clear ry;go_upto_region 5 with fail
 go_loopw [10] (λi wr=>∃k:Nat,k<=names.length/\i=.int .i64 k/\W3=wr/\Hid (R=if(names.drop k).any (λs=>!zaU s)then 4 else if !zba day then 2 else 0)) (λi _=>names.length-(intOf i).toNat)
 case atStart=>exact⟨0,Nat.zero_le _,rfl,rfl,lC⟩
 case round=>
  obtain⟨k,hk,rfl,rfl,HX⟩:=hrel;by_cases ae:k<names.length
  ·obtain⟨b,off,hA,hb,ah⟩:=(HS.o W3 aG.o).at ae;have hx:=HX.o;rw[List.drop_eq_getElem_cons ae,List.any_cons]at hx;have hsz:=HN.o _ (List.getElem_mem ae);obtain⟨aw,aj⟩:=yH2 hx ae;generalize names[k]=x at*;have i0:W3.cell? ⟨b,off+k,none⟩=some (.string x):=Mdk;have au:(k:Int)<(names.length:Int):=McS;have aR:(0:Int)<=(k:Int):=McS;subst hA;clear ah hx ae;cases hp3:zaU x
   ·have lS:zcE x=false:=MeN;have HE:Hid (R=4):=by show _=_;rw[aw.o];simp[hp3]
    go_wp2_with (go_at_call 27;go_must(refine(zcO _ _ Mds).mono ?_);rintro e wq ⟨rfl,rfl⟩;rw[lS])
    go_ret
    exact Ret.of (zb7 HE.o.symm) aG.o
   ·have lS:zcE x=true:=MeN;have HE:Hid (R=if(names.drop (k+1)).any (λs=>!zaU s)then 4 else if !zba day then 2 else 0):=by show _=_;rw[aw.o,hp3];rfl
    go_wp2_with (go_at_call 27;go_must(refine(zcO _ _ Mds).mono ?_);rintro e wq ⟨rfl,rfl⟩;rw[lS])
    go_round
    case rel=>exact⟨k+1,aj.o,by go_num,by first|exact True.intro|rfl,HE⟩
    case measure=>have:=aj.o;simp only[intOf];omega
  ·have au:¬(k:Int)<(names.length:Int):=McS;have hx:=HX.o;rw[List.drop_of_length_le McS]at hx;cases hd:zba day
   ·have HE:Hid (R=2):=by show _=_;rw[hx,hd];rfl
    exact Ma4
   ·have HE:Hid (R=0):=by show _=_;rw[hx,hd];rfl
    exact Ma4
def Told.stFew{k:Nat}{s:St}{wd rd:List Deed}(h:Told k s)(hk:k<=1000)(hL:StLink s wd rd):StFew s wd rd:=zoC h.few h.wills hk hL
def zj9(xs:List RPart)(P Q:Option Addr)(pc qc:Nat)(w:World)(hp:Sl w 3 RPart.cells P xs)(hq:Sl w 3 RPart.cells Q xs)(hl:xs.length<=100000):
 Calls Tryz.prog 10 #[.slice P xs.length pc,.slice Q xs.length qc] w (Ret w (.bool true)):=by
 exact Mx
def sameP_any(xs:Parts)(P Q:Option Addr)(pc qc:Nat)(w:World)(hp:Sl w 3 zaa P xs)(hq:Sl w 3 zaa Q xs)(hl:xs.length<=100000):Calls Tryz.prog 10 #[.slice P xs.length pc,.slice Q xs.length qc] w (Ret w (.bool true)):=by
 have h:=zj9 (xs.map toR) P Q pc qc w (sl_map hp toR λ_=>rfl) (sl_map hq toR λ_=>rfl) (by rw[List.length_map];exact hl);rw[List.length_map]at h;exact h
def zhv(w:World)(xs:Parts)(e:Ending)(w':World):Prop:= ∃A c,e=.returned (.slice A xs.length c)/\Sl w' 3 zaa A xs/\Qa w w'
def sHolders(laws:List Law)(s:St)(k:Nat)(place:ByteArray)(day:Int)(w:World){a0 a1 a2 a3 a4 a5 a6:Value}(h:StAt w laws s a0 a1 a2 a3 a4 a5 a6)(hT:Told k s)(hk:k<=1000):
 Calls Tryz.prog 29 #[.agg #[a0,a1,a2,a3,a4,a5,a6],.string place,.int .i64 day] w (zhv w (zbH s place day)):=by
 obtain⟨wd,rd,LA,CA,MA,DA,WA,RA,GA,c0,c1,c2,c3,c4,c5,c6,rfl,rfl,rfl,rfl,rfl,rfl,rfl,hI,hL⟩:=h;have hf:=hT.stFew hk hL;have HG:=zHi (λW (hB:Qa w W)=>zki place day W (hI.keep hB) hf);obtain⟨gxs,hm,bE,br⟩:=znK hI.graves;obtain⟨HM,dt,bU⟩:=yH3 hm (λW (hB:Qa w W) x hx=>(bE x hx).keep hB) (λW (hB:Qa w W)=>(br.keep hB:Sl W 5 GX.cells GA gxs));unfold zhv;obtain⟨R,hR⟩:=Qd (zbH s place day)
 rw[<-hR];unfold zbH at hR;have HR:=zHi hR;clear hI hL hT hf hm bE br hR;go_enter Tryz.func29,Tryz.ntmps29
 go_upto_region 1 with fail
 obtain⟨W0,am⟩:=Qd (w.alloc (.cells #[.slice LA laws.length c0,.slice CA s.children.length c1,.slice MA s.marriages.length c2,.slice DA s.dead.length c3,.slice WA wd.length c4,.slice RA rd.length c5,.slice GA s.graves.length c6] 86))
 obtain⟨b0,aO⟩:=boxed am.symm;rw[<-am];obtain⟨ak,B0⟩:=yH2 aO b0;have ay:=aO.size;obtain⟨s0,s1,s2,s3,s4,s5,s6⟩:=zaG b0;have ls:=zab b0;clear am aO b0;cases aH:zaL s place day with
 |none=>
  rw[zgN aH]at HG;have HE:Hid (R=[]):=by show _=_;rw[HR.o,aH]
  clear HR aH;go_wp2_with (go_at_call 59;go_must(refine(HG.o _ ak.o).mono ?_);rintro e wq ⟨rfl,z,rfl⟩)
  go_ret
  rw[HE.o];exact⟨none,0,rfl,Sl.nil,ak.o.trans ((zan W0 z).mono ay)⟩
 |some i=>
  rw[zdW aH]at HG;obtain⟨g,bX,cj,qh⟩:=zh7 aH;obtain⟨hi,ko⟩:=gx_at HM.o bX;have hE:R=g.holders:=by rw[HR.o,aH];show(s.graves.getD i zfO).holders=_;rw[cj]
  have HE:=zHi hE;have eR:(i:Int)<(s.graves.length:Int):=by rw[<-HM.o,List.length_map];omega
  have eE:(0:Int)<=(i:Int):=McS;have aQ:¬(i:Int)<0:=McS;have iz:=dt.o _ ak.o _ (List.getElem_mem hi);obtain⟨gb,gof,jA,dB,ah⟩:=(bU.o _ ak.o).at hi;generalize gxs[i]=x at*;subst ko;subst jA;have i3:W0.cell? ⟨gb,gof+i*5+3,none⟩=some (.slice x.H x.g.holders.length x.hc):=ah 3 _ rfl;have HX:=zHi iz.1;clear ah iz HR aH bX cj qh hE;go_wp2_with (go_at_call 59;go_must(refine(HG.o _ ak.o).mono ?_);rintro e wq ⟨rfl,z,rfl⟩)
  go_ret
  rw[HE.o];exact⟨x.H,x.hc,rfl,HX.o.keep (zan W0 z),ak.o.trans ((zan W0 z).mono ay)⟩
section
variable {laws:List Law} {s:St} {k:Nat} {w:World} {a0 a1 a2 a3 a4 a5 a6:Value}
end
def zle{laws:List Law}{ds:List Deed}{names:List ByteArray}{day:Int}(h:zce laws ds names day=0):(zaI laws ds day).2.2=0/\Told ds.length (zaI laws ds day).1:=by
 have h1:=(znG h).1;rw[zee,zpV laws ds 200000 day]at h1;exact⟨h1,znO h1⟩

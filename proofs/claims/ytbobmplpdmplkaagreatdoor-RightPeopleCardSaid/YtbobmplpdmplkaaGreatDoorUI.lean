import Derived.Test.YtbobmplpdmplkaaGreatDoorWX
set_option linter.all false
set_option maxRecDepth 100000
set_option maxHeartbeats 4000000
namespace Go.Proofs.YtbobmplpdmplkaaGreatDoor
open Go.RowKit Go.Shelf
attribute [local go_sem] World.cell?_alloc_mark zaf za4 zam za7 zaw zax zay zaz za0 za1 za2
attribute [local go_sem] zan zac
theorem zjr(ls:List Law)(A:Option Addr)(n c:Nat)(w:World)(hn:n=ls.length)(hS:Sl w 4 Law.cells A ls):Calls Tryz.prog 67 #[.slice A n c] w (Ret w (.int .i64 (zaD ls))):=by
 subst hn;go_enter Tryz.func67,Tryz.ntmps67
 by_cases EE:10<ls.length
 ·exact MaW
 have hx:decide ((10:Int)<(ls.length:Int))=false:=McD;go_wp2_with fail
 have hT:zaD ls=zeP (ls.drop 0) (befP ls 0):=by rw[zaD,if_neg McD];rfl
 go_loopw [3] (fun i wr=>∃k:Nat,k<=ls.length/\i=.int .i64 k/\zaD ls=zeP (ls.drop k) (befP ls k)/\∃z,wr=w.ext z) (fun i _=>ls.length-(intOf i).toNat)
 case atStart=>exact⟨0,Nat.zero_le _,rfl,hT,zaY (Below.refl _ _)⟩
 case round=>
  obtain⟨k,hk,rfl,hf,z,rfl⟩:=hrel;clear hT hx;by_cases ae:k<ls.length
  ·rw[List.drop_eq_getElem_cons ae,zeP]at hf;obtain⟨b,off,rfl,hb,hc⟩:=hS.at ae;have h0:w.cell? ⟨b,off+k*4,none⟩=some (.int .i64 ls[k].frm):=hc 0 _ rfl;have h1:w.cell? ⟨b,off+k*4+1,none⟩=some (.bool ls[k].stems):=hc 1 _ rfl;have h2:w.cell? ⟨b,off+k*4+2,none⟩=some (.int .i64 ls[k].num):=hc 2 _ rfl;have h3:w.cell? ⟨b,off+k*4+3,none⟩=some (.int .i64 ls[k].den):=hc 3 _ rfl;have HF:=zHi hf;have js:(k:Int)<(ls.length:Int):=Mcy;have ix:0<k->w.cell? ⟨b,off+(k-1)*4,none⟩=some (.int .i64 (ls[k-1]' Mcy).frm):=fun aQ=>by
    exact MbE
   have HP:=zHi ix;have HB:befP ls (k+1)=some ls[k].frm:=zh6 ls ae;have HB:=zHi HB;clear hc hf hS ix
   go_upto_region 10 with(first
    |(go_at_call 38;refine(zcN _ _).mono ?_;intro e wq hq;rcases Ret0.bools hq with⟨rfl,⟨hb,rfl⟩|⟨hb,rfl⟩⟩<;>clear hq)
    |(go_at_call 106;refine(zhw _ _ _).mono ?_;intro e wq hq;rcases Ret.bools hq with⟨zq,rfl,⟨hb,rfl⟩|⟨hb,rfl⟩⟩<;>clear hq))
   all_goals first
    |(go_ret
      exact Ret.of (zb5 Md3) Bw)
    |skip
   rcases Nat.eq_zero_or_pos k with aQ|aQ
   ·have hd:decide ((k:Int)>0)=false:=McD;have gU:befP ls k=none:=by rw[befP,if_pos aQ]
    go_quiet (fail)
    go_wp2_with fail
    go_round
    case rel=>subst aQ;exact⟨1,by omega,rfl,by rw[HF.o,HB.o];simp[zhj, *],zaY Bw⟩
    case measure=>simp[intOf];omega
   ·have hd:decide ((k:Int)>0)=true:=McD;have uf:IntKind.i64.wrap ((k:Int)-1)=(k:Int)-1:=IntWalk.i64_in _ Mcy;have gX:0<=(k:Int)-1:=Mcy;have fI:((k:Int)-1).toNat=k-1:=Mcy;have br:(k:Int)-1<(ls.length:Int):=Mcy;have hp:=HP.o aQ;have aG:befP ls k=some (ls[k-1]' Mcy).frm:=by have:=zh6 ls (k:=k-1) Mcy;rwa [Nat.sub_add_cancel aQ]at this
    go_quiet (fail)
    go_wp2_with fail
    all_goals first
     |(go_ret
       exact Ret.of (zb5 Md3) Bw)
     |(go_round
       case rel=>exact⟨k+1,by omega,by go_num,by rw[HF.o,HB.o];simp[zhj, *],zaY Bw⟩
       case measure=>simp[intOf];omega)
  ·exact Mat
theorem zpi(ls:List Law)(A:Option Addr)(c:Nat)(day:Int)(w:World)(hl:ls.length<=10)(hS:Sl w 4 Law.cells A ls):Calls Tryz.prog 188 #[.slice A ls.length c,.int .i64 day] w (Ret w (zba ls day).v):=by
 go_enter Tryz.func188,Tryz.ntmps188
 go_upto_region 3 with(go_at_call 41;go_must(refine(ziC _).mono ?_);rintro e wq ⟨rfl,z,rfl⟩)
 obtain⟨L,hL⟩:∃L,L=w.heap.size+1+z.os.size:=⟨_,rfl⟩
 have zv:w.heap.size<L:=Mcy;rw[<-hL];have HL:=zHi hL;clear hL;go_loopw [6] (fun i wr=>∃k:Nat,k<=ls.length/\i=.int .i64 k/\∃x:Law,x=zba (ls.take k) day/\Below w.heap.size w wr/\L+1<=wr.heap.size/\wr.heap[w.heap.size]?=some (.cells #[.int .i64 0,.bool false,.int .i64 0,.int .i64 0] 109)/\wr.heap[L]?=some (.cells #[.int .i64 x.frm,.bool x.stems,.int .i64 x.num,.int .i64 x.den] 109)) (fun i _=>ls.length-(intOf i).toNat)
 case atStart=>
  refine⟨0,Nat.zero_le _,rfl,zmp,rfl,?_,?_,?_,?_⟩
  ·exact Bw
  ·rw[HL.o];simp[zaf]
  ·exact zal (zbD (zar _ _ _ rfl))
  ·exact zar _ _ _ (by rw[HL.o];simp[zaf])
 case round=>
  obtain⟨k,hk,rfl,x,hx,hB,hsz,g0,g1⟩:=hrel;have c0:wr.cell? ⟨L,0,none⟩=some (.int .i64 x.frm):=McE;have c1:wr.cell? ⟨L,1,none⟩=some (.bool x.stems):=McE;have c2:wr.cell? ⟨L,2,none⟩=some (.int .i64 x.num):=McE;have c3:wr.cell? ⟨L,3,none⟩=some (.int .i64 x.den):=McE;have d0:wr.cell? ⟨w.heap.size,0,none⟩=some (.int .i64 0):=McC;have d1:wr.cell? ⟨w.heap.size,1,none⟩=some (.bool false):=McC;have d2:wr.cell? ⟨w.heap.size,2,none⟩=some (.int .i64 0):=McC;have d3:wr.cell? ⟨w.heap.size,3,none⟩=some (.int .i64 0):=McC;have f0:wr.frozen? ⟨w.heap.size,0,none⟩=false:=McL;have f1:wr.frozen? ⟨L,0,none⟩=false:=McM;have e1:wr.frozen? ⟨L,1,none⟩=false:=McM;have e2:wr.frozen? ⟨L,2,none⟩=false:=McM;have e3:wr.frozen? ⟨L,3,none⟩=false:=McM;have m1:wr.frozen? ⟨w.heap.size,1,none⟩=false:=McL;have m2:wr.frozen? ⟨w.heap.size,2,none⟩=false:=McL;have m3:wr.frozen? ⟨w.heap.size,3,none⟩=false:=McL;have dN:L<wr.heap.size:=Mcy;have aw:w.heap.size<wr.heap.size:=Mcy;have bn:L≠wr.heap.size:=Mcy;by_cases ae:k<ls.length
  ·obtain⟨b,off,rfl,hb,hc⟩:=(hS.keep hB).at ae;have h0:wr.cell? ⟨b,off+k*4,none⟩=some (.int .i64 ls[k].frm):=hc 0 _ rfl;have h1:wr.cell? ⟨b,off+k*4+1,none⟩=some (.bool ls[k].stems):=hc 1 _ rfl;have h2:wr.cell? ⟨b,off+k*4+2,none⟩=some (.int .i64 ls[k].num):=hc 2 _ rfl;have h3:wr.cell? ⟨b,off+k*4+3,none⟩=some (.int .i64 ls[k].den):=hc 3 _ rfl;clear hc hS;go_wp2_with fail
   ·refine⟨⟨k+1,by omega,by go_num,ls[k],by rw[zft ls day ae,if_pos (by simp;assumption)],?_,?_,?_,?_⟩,by simp[intOf];omega⟩
    ·exact zaP (zaP (zaP (zaP hB McO _) McO _) McO _) McO _
    ·first|omega|(simp;omega)
    ·exact((zaP (zaP (zaP (zaP (Below.refl L wr) McO _) McO _) McO _) McO _).block w.heap.size Mcy).trans g0
    ·exact zn6 g1
   ·exact⟨⟨k+1,by omega,by go_num,zba (ls.take k) day,by rw[zft ls day ae,if_neg (by simp;assumption)],hB,hsz,g0,by simpa[hx]using g1⟩,by simp[intOf];omega⟩
  ·go_wp2_with fail
   have pN:ls.take k=ls:=List.take_of_length_le Mcy;have g4:=zn6 (a:=.int .i64 (zba ls day).frm) (b:=.bool (zba ls day).stems) (c:=.int .i64 (zba ls day).num) (d:=.int .i64 (zba ls day).den) g0;rw[pN];refine bodyPost_ret (v:=(zba ls day).v) ?_ rfl ?_
   ·refine zic rfl _ _ w.heap.size _ rfl ?_ ?_ ?_ ?_<;>simp[World.cell?,g4]
   ·exact Ret.of rfl (zaP (zaP (zaP (zaP hB McO _) McO _) McO _) McO _)
theorem zpj{L:List ByteArray}(h:L.Pairwise fun a b=>zbh b a=false)(hn:L.Nodup):AscT L:=
 (h.and hn).imp fun {a b} ⟨h1,h2⟩=>by
   rcases zda a b with h|h|h
   ·exact h
   ·exact absurd h h2
   ·rw[h1]at h;cases h
theorem AscT.nodup{L:List ByteArray}(h:AscT L):L.Nodup:=h.imp fun {a b} h1=>zc5 h1
theorem asc_same{L M:List ByteArray}(h:AscT L)(k:AscT M)(hm:∀y,y∈L↔y∈M):L=M:=
 List.Perm.eq_of_pairwise (le:=fun a b=>zbh a b=true) (fun a b _ _ h1 h2=>by rw[zgM h1]at h2;cases h2) h k ((List.perm_ext_iff_of_nodup h.nodup k.nodup).2 hm)
def DescApi(w:World)(s:St)(nm:ByteArray)(E:Int)(e:Ending)(w':World):Prop:=
 Below w.heap.size w w'/\((E≠0/\e=.returned (.tuple #[.slice none 0 0,.int .i64 E]))\/
  (E=0/\∃A c ys,e=.returned (.tuple #[.slice A ys.length c,.int .i64 0])/\Sl w' 1 sC A ys/\AscT ys/\(∀y,y∈ys↔Desc s nm y)/\ys.length<=s.children.length))
theorem desc5_any(laws:List Law)(ds:List Deed)(name:ByteArray)(day:Int)(LA:Option Addr)(n nc:Nat)(DA:Option Addr)(m mc:Nat)(w:World)(hR:RightsIn w laws ds LA n nc DA m mc)(hF:FormsIn w)(hL:LensIn w)(hO:∀d∈ds,zdt d)(hp:name.size<=100000):
 Calls Tryz.prog 18 #[.agg #[.slice LA n nc,.slice DA m mc],.string name,.int .i64 day] w (DescApi w (zaL laws ds day).1 name (zc1 laws ds [name] day)):=by
 have dQ:=zHi (fun W (hB:Below w.heap.size w W) NA (hS:Sl W 1 sC NA [name])=>zlS laws ds day [name] LA n nc DA m mc NA 1 1 W (hR.keep hB) (hF.keep hB) (hL.keep hB) hO rfl McB MeB hS);clear hR hF hL hO hp;unfold ziM at dQ;generalize zc1 laws ds [name] day=E at*;generalize(zaL laws ds day).1=s at*;go_enter Tryz.func18,Tryz.ntmps18
 by_cases h0:E=0;rotate_left 1
 ·have ER:(E != 0)=true:=MdC;have HE:=zHi h0;clear h0
  go_wp2_with (go_at_call 30
               go_must(refine(dQ.o _ Bw _ (zcl (zar _ _ _ McB))).mono ?_)
               rintro e wq ⟨h1,⟨_,rfl⟩|⟨hz,_⟩⟩;rotate_left 1
               ·exact absurd hz HE.o
               have aS:Below w.heap.size w wq:=Below.trans (zad (zad (Below.refl _ _) _) _ McB) (h1.mono McD);have aA:=zHi aS
               clear h1 aS)
  go_ret2
  exact⟨aA.o,.inl ⟨HE.o,rfl⟩⟩
 go_upto_region 4 with(go_at_call 30
                       go_must(refine(dQ.o _ Bw _ (zcl (zar _ _ _ McB))).mono ?_)
                       rintro e wq ⟨h1,⟨ai,_⟩|⟨_,base,b,la,co,rfl,h2,h3,⟨last,h4⟩,h5⟩⟩
                       ·exact absurd h0 ai
                       obtain⟨H1,H3,H4,H5⟩:=yH4 h1 h3 h4 h5
                       clear h1 h2 h3 h4 h5)
 clear dQ;obtain⟨k,eW,bR⟩:=H5.o;have aA:Hid (Below w.heap.size w wq):=zHi (Below.trans (zad (zad (Below.refl _ _) _) _ McB) (H1.o.mono McD));have H0:=zHi h0;clear h0 H1 H5;have wI:=bR.kids;have gF:=zHi (fun W (hW:Below wq.heap.size wq W)=>znL base b s name W (H3.o.peo.keep hW) Mcy);have bm:=aA.o.size;clear bR
 go_upto_block 0 with(go_at_call 44
                      go_must(refine(gF.o _ Bw).mono ?_)
                      rintro e w2 ⟨out,rfl,cF,FJ,bs⟩;obtain⟨sI,m8⟩:=zfs (P:=Tryz.prog) cF (t:=84) Tryz.underlying84;generalize cF.choose_spec.choose=cc at*;generalize cF.choose=ce at*;obtain⟨kH,aJ,pk⟩:=yH3 FJ bs m8
                      clear FJ bs m8 cF)
 have oA:=aJ.o.size;have aD:=zHi (aA.o.trans (aJ.o.mono bm));have KQ:=zkj kH.o.nd kH.o.desc;obtain⟨mm,bO⟩:∃mm,mm=outM out:=⟨_,rfl⟩
 rw[<-bO]at pk;have ft:mm.length=out.length:=by rw[bO];simp[outM]
 have pg:=zHi bO;generalize hI:w2.heap.size=I at*;generalize nL:wq.heap.size=mb at*;obtain⟨nZ,yS⟩:=yH2 nL hI;clear sI bO hI nL;go_wp2_with fail
 go_loopg [10] (mm.length+1) (fun gg v wr=>∃done left,Hid ((done++left).Perm mm)/\RangeAt wr mb I ekS evB mm left/\OwnS wr w.heap.size 9 1 sC v (done.map (·.1))/\Below w.heap.size w wr/\left.length<gg/\I<wr.heap.size)
 case atStart=>exact⟨[],mm,List.Perm.refl _,pk.o,OwnS.nil,zad aD.o _,by omega,by have:=yS.o;simp;omega⟩
 case round=>
  obtain⟨done,left,HP,iO,aa,hB,bf,Jd⟩:=hrel;obtain⟨cl,aW⟩:∃cl,cl=done.map (·.1):=⟨_,rfl⟩
  have dg:cl.length+left.length=mm.length:=by rw[aW,List.length_map,<-HP.o.length_eq,List.length_append]
  rw[<-aW]at aa;have ct:=zHi aW;clear aW;obtain⟨VC,vcc,rfl,_,Dw⟩:=aa.sl za9;rcases zgb (P:=Tryz.prog) iO 0 with⟨h0,hrun⟩|⟨i,p,w',hi,hrun,hra',hgr',hsz,hent⟩
  ·have rg:=HP.o;rw[h0,List.append_nil]at rg;have mw:cl.Perm out:=by
    rw[ct.o];have:=rg.map (·.1);rw[pg.o]at this;rw[show(outM out).map (·.1)=out by simp[outM,Function.comp_def]]at this;exact this
   have dL:cl.length<=1000000000:=Mcy;obtain⟨At,HO,HB,dP⟩:=yH4 mw aa hB dL;clear rg mw aa hB iO h0 dL dg;go_wp2_with (go_at_call 35;go_must(refine(sortT_any (.slice VC cl.length vcc) cl w.heap.size _ HO.o dP.o).mono ?_);rintro e wz ⟨rfl,L,s1,s2,s3,s4⟩)
   go_ret2
   have BZ:L.Perm out:=s1.trans At.o;obtain⟨A',c',hv,hS,_⟩:=s3.sl za9;refine⟨zhx (Nat.le_refl _) (fun g hg=>(HO.o.ge g hg).1) s4 HB.o,.inr ⟨H0.o,A',c',L,by rw[hv];rfl,hS,zpj s2 (BZ.nodup_iff.2 kH.o.nd),fun y=>BZ.mem_iff.trans (zla kH.o y),?_⟩⟩;rw[BZ.length_eq];exact zkj kH.o.nd kH.o.desc
  ·obtain⟨pn,pv⟩:=p;have eR:=zl0 HP.o hi;have iU:=zHi eR;have hel:(left.eraseIdx i).length+1=left.length:=by
    exact MaJ
   have bI:1<=left.length:=Mcy;clear eR hi;have pX:(Instr.next (.pointer (some ⟨I,0,none⟩)) false 0).run Tryz.prog wr=.ok (.tuple #[.bool true,.string pn,.bool pv]) w':=hrun;have pH:(Instr.entry (.pointer (some ⟨I,0,none⟩))).run Tryz.prog w'=.ok (.tuple #[.string pn,.bool pv]) w':=hent;have Jh:w.heap.size<=I:=by have:=yS.o;have:=aD.o.size;omega
   have dD:Below w.heap.size w w':=zaQ hB hgr' Jh
   have bT:=aa.grown hgr' (by
    cases hb:za5 (.slice VC cl.length vcc)with
    |none=>exact .inl rfl
    |some j=>
     right
     intro e;obtain⟨cur,mx⟩:=ziI aa hb
     exact(zdP iO mx).2 MdJ)
   have mj:∀j,za5 (.slice VC cl.length vcc)=some j->w.heap.size<=j/\j≠mb/\j≠I:=fun j hj=>by
    exact Mbx
   obtain⟨kF,oe,HO,b8⟩:=yH4 mj hra' bT dD;have BV:I<w'.heap.size:=Mcy;have iR:w.heap.size<=w'.heap.size:=dD.size;clear iO hra' aa bT hB dD hrun hent hgr' hsz mj;go_wp2_with (at_builtin;go_loud(refine zat (v:=.slice VC cl.length vcc) (n:=cl.length) (m:=1) rfl _ _ rfl zbB za9 zbA rfl (HO.o.keep (n:=w'.heap.size) Bw) rfl rfl rfl (zcl (x:=pn) (zar _ _ _ McB)) McS Mcy McD ?_);intro v3 w3 h1 h2 h3)
   have FV:Below w.heap.size w ((w'.alloc (.cells #[.string pn] 9))):=zad b8.o _;have R1:=(oe.o.below (n:=w'.heap.size) Bw).grown h2 (fun e=>(kF.o mb e.symm).2.1 rfl) (fun e=>(kF.o I e.symm).2.2 rfl);have B1:=zhx (Nat.le_refl _) (fun g hg=>(kF.o g hg).1) h2 FV;have S1:=h2.size;simp only[World.size_alloc]at S1;go_roundg (gk-1)
   case measure=>omega
   case rel=>exact⟨done++[(pn,pv)],left.eraseIdx i,iU.o,R1,by rw[List.map_append,<-ct.o];exact h1,B1,by omega,by omega⟩

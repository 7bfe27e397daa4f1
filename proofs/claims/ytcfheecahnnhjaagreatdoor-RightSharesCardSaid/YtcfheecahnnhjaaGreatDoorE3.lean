import Derived.Test.YtcfheecahnnhjaaGreatDoorO8
set_option linter.all false
set_option maxRecDepth 100000
set_option maxHeartbeats 4000000
namespace Go.Proofs.YtcfheecahnnhjaaGreatDoor
open Go.RowKit
attribute [local go_sem] World.cell?_alloc_mark zag za4 zar zaB zaw zax zay zaz za0 za1 za2
section
open Go.Shelf
section
variable {base k:Nat} {W W':World} {B:List Nat} {es:Array MapEntry} {ec:Nat}
theorem TombAt.keptM{T:Nat}{g:Grave}(h:TombAt W base B T g)(hg:W.grownBy W' (some k))(hx:W.heap[k]?=some (.map es ec)):TombAt W' base B T g:=by
 obtain⟨H,hc,D,dc,fr',t1,t2,t3,t4,t5,t6,t7⟩:=h;exact⟨H,hc,D,dc,fr',(hg.block T (zab t1) (fun e=>by simp only[Option.some.injEq]at e;subst e;unfold zbw at t1;rw[t1]at hx;simp at hx)).trans t1,t2,t3,t4,t5.keptM hg hx,t6.keptM hg hx,t7⟩
theorem TombsAt.keptM{ps:List Nat}{tv:Value}{gs:List Grave}(h:TombsAt base W B tv ps gs)(hg:W.grownBy W' (some k))(hx:W.heap[k]?=some (.map es ec)):TombsAt base W' B tv ps gs:=
 ⟨h.own.keptM hg hx,h.len,h.nd,fun i T g e1 e2=>(h.all i T g e1 e2).keptM hg hx⟩
theorem WldC.keptM{b d c p wl r:Nat}{mv tv:Value}{la co:Int}(h:WldC W b d c p wl r mv tv la co)(hg:W.grownBy W' (some k))(hx:W.heap[k]?=some (.map es ec)):WldC W' b d c p wl r mv tv la co:=
 (hg.block b (zab h) (fun e=>by simp only[Option.some.injEq]at e;subst e;unfold WldC at h;rw[h]at hx;simp at hx)).trans h
theorem RowIs.keptM{m:List (ByteArray×Value)}{n:ByteArray}{xs:List ByteArray}(h:RowIs W base m n xs)(hg:W.grownBy W' (some k))(hx:W.heap[k]?=some (.map es ec)):RowIs W' base m n xs:=by
 rcases h with h|⟨v,h1,h2⟩
 ·exact .inl h
 ·exact .inr ⟨v,h1,h2.keptM hg hx⟩
theorem WillIs.keptM{m:List (ByteArray×Value)}{n:ByteArray}{xs:Parts}(h:WillIs W m n xs)(hg:W.grownBy W' (some k))(hx:W.heap[k]?=some (.map es ec)):WillIs W' m n xs:=by
 rcases h with h|⟨A,c,h1,h2⟩
 ·exact .inl h
 ·exact .inr ⟨A,c,h1,h2.keptM hg hx⟩
theorem RowIs.kept{m:List (ByteArray×Value)}{n:ByteArray}{xs:List ByteArray}{cs:Array Value}{t:TypeId}{fr:Nat×Nat}(h:RowIs W base m n xs)(hg:W.grownBy W' (some k))(hx:W.heap[k]?=some (.cells cs t fr))(ht:t≠9):RowIs W' base m n xs:=by
 rcases h with h|⟨v,h1,h2⟩
 ·exact .inl h
 ·exact .inr ⟨v,h1,h2.kept hg hx ht⟩
theorem WillIs.kept{m:List (ByteArray×Value)}{n:ByteArray}{xs:Parts}{cs:Array Value}{t:TypeId}{fr:Nat×Nat}(h:WillIs W m n xs)(hg:W.grownBy W' (some k))(hx:W.heap[k]?=some (.cells cs t fr))(ht:t≠64):WillIs W' m n xs:=by
 rcases h with h|⟨A,c,h1,h2⟩
 ·exact .inl h
 ·exact .inr ⟨A,c,h1,h2.kept hg hx ht⟩
theorem zbo{b:Nat}{K V:Type}{ek:K->Value}{ev:V->Value}{m:List (K×V)}(h:MapS W b ek ev m):∃es c,W.heap[b]?=some (.map es c):=by
 obtain⟨es,c,h1,_⟩:=h;exact⟨es,c,h1⟩
variable {d c p wl r:Nat} {mv tv:Value} {s:St}
theorem ppl_will(h:PplAt base W B d c p wl r mv s)(hg:W.grownBy W' (some wl)){ws:List (ByteArray×Parts)}{m':List (ByteArray×Value)}(h1:MapS W' wl ekS (fun v:Value=>v) m')(h2:∀n,WillIs W' m' n (zbx {s with wills:=ws} n)):PplAt base W' B d c p wl r mv {s with wills:=ws}:=by
 obtain⟨mc,mp,k1,k2,k3,k4,k5,k6⟩:=h.rows;obtain⟨m,k7,k8⟩:=h.wills;obtain⟨es,ec,hx⟩:=zbo k7;have cZ:=h.nd;simp only[List.nodup_cons,List.mem_cons,List.not_mem_nil,or_false,not_or]at cZ;obtain⟨⟨n1,n2,n3,n4⟩,⟨n5,n6,n7⟩,⟨n8,n9⟩,n10,_⟩:=cZ;refine⟨h.nd,h.ge,h.dead.grown hg (by simpa using n3),⟨mc,mp,k1.grown hg (by simpa using n6),k2.grown hg (by simpa using n8),fun n=>(k3 n).keptM hg hx,fun n=>(k4 n).keptM hg hx,k5,k6⟩,h.marr.keptM hg hx,⟨m',h1,h2⟩,h.ren.grown hg (by simpa using fun e=>n10 e.symm)⟩
theorem ppl_ren(h:PplAt base W B d c p wl r mv s)(hg:W.grownBy W' (some r)){rs:List (ByteArray×ByteArray)}(h1:MapS W' r ekP evB (rs.map fun x=>(x,true))):PplAt base W' B d c p wl r mv {s with renounce:=rs}:=by
 obtain⟨mc,mp,k1,k2,k3,k4,k5,k6⟩:=h.rows;obtain⟨m,k7,k8⟩:=h.wills;obtain⟨es,ec,hx⟩:=zbo h.ren;have cZ:=h.nd;simp only[List.nodup_cons,List.mem_cons,List.not_mem_nil,or_false,not_or]at cZ;obtain⟨⟨n1,n2,n3,n4⟩,⟨n5,n6,n7⟩,⟨n8,n9⟩,n10,_⟩:=cZ;refine⟨h.nd,h.ge,h.dead.grown hg (by simpa using n4),⟨mc,mp,k1.grown hg (by simpa using n7),k2.grown hg (by simpa using n9),fun n=>(k3 n).keptM hg hx,fun n=>(k4 n).keptM hg hx,k5,k6⟩,h.marr.keptM hg hx,⟨m,k7.grown hg (by simpa using n10),fun n=>(k8 n).keptM hg hx⟩,h1⟩
theorem ppl_dead(h:PplAt base W B d c p wl r mv s)(hg:W.grownBy W' (some d)){ds:List ByteArray}{gs:List Grave}(h1:MapS W' d ekS evB (ds.map fun n=>(n,true))):PplAt base W' B d c p wl r mv {s with dead:=ds,graves:=gs}:=by
 obtain⟨mc,mp,k1,k2,k3,k4,k5,k6⟩:=h.rows;obtain⟨m,k7,k8⟩:=h.wills;obtain⟨es,ec,hx⟩:=zbo h.dead;have cZ:=h.nd;simp only[List.nodup_cons,List.mem_cons,List.not_mem_nil,or_false,not_or]at cZ;obtain⟨⟨n1,n2,n3,n4⟩,⟨n5,n6,n7⟩,⟨n8,n9⟩,n10,_⟩:=cZ;refine⟨h.nd,h.ge,h1,⟨mc,mp,k1.grown hg (by simpa using fun e=>n1 e.symm),k2.grown hg (by simpa using fun e=>n2 e.symm),fun n=>(k3 n).keptM hg hx,fun n=>(k4 n).keptM hg hx,k5,k6⟩,h.marr.keptM hg hx,⟨m,k7.grown hg (by simpa using fun e=>n3 e.symm),fun n=>(k8 n).keptM hg hx⟩,h.ren.grown hg (by simpa using fun e=>n4 e.symm)⟩
end
theorem zkA{K V:Type}{eq:K->K->Bool}{k:K}{v:V}:∀ {m:List (K×V)},mget eq k m=none->mput eq k v m=m++[(k,v)]
 | [],_=>rfl
 |x::m,h=>by
  rw[mget]at h;rw[mput];cases hk:eq k x.1
  ·rw[hk]at h;simp only[Bool.false_eq_true,if_false]at h;rw[if_neg Mcx,zkA h];rfl
  ·rw[hk]at h;simp at h
theorem ziL{K:Type}{eq:K->K->Bool}{k:K}:∀ {l:List K},(mget eq k (l.map fun x=>(x,true))).getD false=false->mget eq k (l.map fun x=>(x,true))=none
 | [],_=>rfl
 |x::l,h=>by
  rw[List.map_cons,mget]at h⊢;cases hk:eq k x
  ·rw[hk]at h;simp only[Bool.false_eq_true,if_false]at h;rw[if_neg Mcx];exact ziL h
  ·rw[hk]at h;simp at h
theorem rat_cells{l:List RPart}(h:∀p∈l,za8 16 p.num p.den=true){W:World}{A:Option Addr}(hS:Sl W 3 RPart.cells A l):Sl W 3 zaa A (zan l):=fun hl=>by
 unfold zan at hl;rw[List.length_map]at hl;obtain⟨b,off,hA,hb,hc⟩:=hS hl;refine⟨b,off,hA,hb,fun k x hk j u hu=>?_⟩;unfold zan at hk;rw[List.getElem?_map]at hk;cases hp:l[k]? with
 |none=>rw[hp]at hk;cases hk
 |some y=>
  rw[hp]at hk;simp only[Option.map_some,Option.some.injEq]at hk;subst hk;have hy:=zi4 (h y (List.mem_of_getElem? hp));refine hc k y hp j u ?_;unfold zaa at hu;rw[hy.1,hy.2]at hu;exact hu
theorem zmT{base b k:Nat}{W W':World}{B ps:List Nat}{d c p wl r:Nat}{mv tv:Value}{s':St}{gs:List Grave}{la co:Int}{es:Array MapEntry}{ec:Nat}(hb:base<=b)(hC:WldC W b d c p wl r mv tv la co)(hT:TombsAt base W B tv ps gs)(hg:W.grownBy W' (some k))(hx:W.heap[k]?=some (.map es ec))
 (dB:s'.graves=gs)(hP:PplAt base W' B d c p wl r mv s'):WldAt base W' b s' la co:=
 ⟨B,d,c,p,wl,r,mv,tv,ps,hb,hC.keptM hg hx,hP,by rw[dB];exact hT.keptM hg hx⟩
theorem wldC_set3{W:World}{b d c p wl r:Nat}{mv tv:Value}{la co:Int}(h:WldC W b d c p wl r mv tv la co)(v':Value):WldC (W.setCell ⟨b,3,none⟩ v') b d c p wl r v' tv la co:=by
 unfold WldC at*;have:=Joins.block_setCell (i:=3) h v';simpa using this
theorem wld_marry{base b:Nat}{W w1:World}{B ps:List Nat}{d c p wl r:Nat}{mv tv v':Value}{s:St}{ms:List (ByteArray×ByteArray)}{la co:Int}(hb:base<=b)(hC:WldC W b d c p wl r mv tv la co)(hP:PplAt base W B d c p wl r mv s)(hT:TombsAt base W B tv ps s.graves)
 (h1:OwnS w1 base 131 2 zaV v' ms)(h2:W.grownBy w1 (za5 mv)):WldAt base (w1.setCell ⟨b,3,none⟩ v') b {s with marriages:=ms} la co/\WldC w1 b d c p wl r mv tv la co:=by
 have dK:=zab hC;have aa:=hP.marr;have bh:∀k,za5 mv=some k->∃cs fr,W.heap[k]?=some (.cells cs 131 fr):=fun k hk=>by
  exact Ma6
 have ji:za5 mv≠some b:=fun e=>by
  obtain⟨cs,fr,hx⟩:=bh b e;exact MbX
 have cO:WldC w1 b d c p wl r mv tv la co:=(h2.block b dK (fun e=>ji e.symm)).trans hC;obtain⟨mc,mp,k1,k2,k3,k4,k5,k6⟩:=hP.rows;obtain⟨m,k7,k8⟩:=hP.wills;have aL:=zav w1 b 3 v';refine⟨⟨B,d,c,p,wl,r,v',tv,ps,hb,wldC_set3 cO v',?_,?_⟩,cO⟩
 ·cases hk:za5 mv with
  |none=>
   rw[hk]at h2;have gW:Below W.heap.size W w1:=⟨h2.os,h2.tape,h2.output,h2.size,fun i hi=>h2.block i hi Mcx⟩
   exact⟨hP.nd,hP.ge,(hP.dead.below gW).keptC aL cO,⟨mc,mp,(k1.below gW).keptC aL cO,(k2.below gW).keptC aL cO,fun n=>((k3 n).keep gW).kept aL cO Mcw,fun n=>((k4 n).keep gW).kept aL cO Mcw,k5,k6⟩,h1.kept aL cO Mcw,⟨m,(k7.below gW).keptC aL cO,fun n=>((k8 n).keep gW).kept aL cO Mcw⟩,(hP.ren.below gW).keptC aL cO⟩
  |some k=>
   obtain⟨cs,fr,hx⟩:=bh k hk;rw[hk]at h2;exact⟨hP.nd,hP.ge,(hP.dead.keptC h2 hx).keptC aL cO,⟨mc,mp,(k1.keptC h2 hx).keptC aL cO,(k2.keptC h2 hx).keptC aL cO,fun n=>((k3 n).kept h2 hx Mcw).kept aL cO Mcw,fun n=>((k4 n).kept h2 hx Mcw).kept aL cO Mcw,k5,k6⟩,h1.kept aL cO Mcw,⟨m,(k7.keptC h2 hx).keptC aL cO,fun n=>((k8 n).kept h2 hx Mcw).kept aL cO Mcw⟩,(hP.ren.keptC h2 hx).keptC aL cO⟩
 ·cases hk:za5 mv with
  |none=>
   rw[hk]at h2;have gW:Below W.heap.size W w1:=⟨h2.os,h2.tape,h2.output,h2.size,fun i hi=>h2.block i hi Mcx⟩
   exact(hT.keep gW).kept aL cO Mcw Mcw Mcw Mcw
  |some k=>
   obtain⟨cs,fr,hx⟩:=bh k hk;rw[hk]at h2;exact(hT.kept h2 hx Mcw Mcw Mcw Mcw).kept aL cO Mcw Mcw Mcw Mcw
end
section
open Go.Shelf
attribute [local go_sem] zas zad
theorem will_any(base b:Nat)(s:St)(la co:Int)(d:Deed)(B:Option Addr)(c:Nat)(w:World)(hW:WldAt base w b s la co)(hd:OkD d)(hk:d.kind=4)(hS:Sl w 3 RPart.cells B d.to):
 Calls Tryz.prog 114 #[.pointer (some ⟨b,0,none⟩),d.v B c] w (zbK base b (zgP s d) la co w):=by
 obtain⟨bQ,_,_,_⟩:=zef (hd.parts (.inr (.inr hk))).2;have bx:=hd.len;have FM:=rat_cells (fun p hp=>(bQ p hp).2.2) hS;clear hd bQ;have ak:=hW;obtain⟨Bk,dd,cc,pp,wl,rr,mv,tv,ps,ba,hC,hP,hT⟩:=hW;have dK:=zab hC;obtain⟨kd,dy,pl,fr,ts,cl,yr⟩:=d;simp only at*;subst hk;have iZ:Hid (zgP s ⟨4,dy,pl,fr,ts,cl,yr⟩=if zaN s fr then(s,28)else({s with wills:=s.wills++[(fr,zan ts)]},0)):=rfl;generalize zgP s ⟨4,dy,pl,fr,ts,cl,yr⟩=X at*;have ag:(zan ts).length=ts.length:=by unfold zan;rw[List.length_map]
 obtain⟨IW,HC,HP,HT,HW⟩:=yH5 FM hC hP hT ak;unfold WldC at hC;obtain⟨c0,-,-,-,c4⟩:=cF5 hC;have dR:∀W:World,Below w.heap.size w W->(Instr.lookup 77 (.map (some dd)) (.string fr) false).run Tryz.prog W=.ok (.bool (zaN s fr)) W:=fun W hB=>zd0 (HP.o.keep hB) _
 have fO:=zHi dR;generalize zaN s fr=dx at*;have dM:=zHi ag;clear dR hC hP hT ak FM hS ag;unfold Deed.v;simp only;have cX:=fO.o (w.alloc (.cells #[.int .i64 4,.int .i64 dy,.string pl,.string fr,.slice B ts.length c,.int .i64 cl,.int .i64 yr] 69)) Bw;go_enter Tryz.func114,Tryz.ntmps114
 cases dx
 ·go_upto_region 5 with fail
  refine wp_region_held_drew (S:=(fun w'=>w'.cell? ⟨b,4,none⟩=some (.map (some wl))/\w'.cell? ⟨w.heap.size,4,none⟩=some (.slice B ts.length c))) Mcv ?hS ?hrest
  case hS=>((try dsimp only);refine⟨?_,?_⟩<;>(simp[go_sem,c4,dK];done))
  case hrest=>
   intro hHeld;refine TkH 0 ?_;refine TkH 1 ?_;refine TkH 2 ?_;refine TkH 3 ?_;refine TkH 4 ?_;refine TkH 5 ?_;refine TkH 6 ?_;refine OnH 7 fun K hK=>?_
   go_simp
   refine(zeG (zan ts) B ts.length c _ dM.o.symm (by rw[dM.o];omega) (IW.o.keep (n:=w.heap.size) Bw)).mono ?_;rintro e w5 ⟨v,rfl,n1,n2⟩;have fk:Below w.heap.size w w5:=(Bw:Below w.heap.size w _).trans (n2.mono Mcx);have p4:w5.cell? ⟨b,4,none⟩=some (.map (some wl)):=(zah fk dK).trans c4;have q4:w5.cell? ⟨w.heap.size,4,none⟩=some (.slice B ts.length c):=(zah n2 Mcx).trans Mc0;have jL:=n2.size;simp only[World.size_drew,World.size_alloc]at jL;obtain⟨VA,vc,rfl,jx,dZ⟩:=n1.ro;obtain⟨m,k7,k8⟩:=(HP.o.keep fk).wills;obtain⟨es,ec,hx⟩:=zbo k7;have eV:=HP.o.ge;have cG:=k7.at.lt;have LG:wl<w.heap.size:=by
    obtain⟨m0,k70,_⟩:=HP.o.wills;exact k70.at.lt
   have bl:b≠wl:=fun e=>by
    subst e;have h1:=HC.o.keep fk;unfold WldC at h1;rw[h1]at hx;simp at hx
   obtain⟨qQ,K7,K8,HX,bo⟩:=yH5 dZ k7 k8 hx fk;clear n1 n2 dZ k7 k8 hx fk;refine hK.out _ _ ?_ (fun hHeld=>?_);focus((try dsimp only);refine⟨?_,?_⟩<;>assumption)
   clear hK K;try simp only[Act.put,List.setIfInBounds_toArray,List.set_cons_zero,List.set_cons_succ]
   refine OnH 8 fun K hK=>?_
   obtain⟨w6,hrun,iN,bF,iD⟩:=zcc mapSP K7.o fr (.slice VA (zan ts).length vc);refine zdh rfl _ _ _ rfl _ _ _ rfl rfl rfl w6 hrun ?_;have p6:w6.cell? ⟨b,4,none⟩=some (.map (some wl)):=(zbd bF Mcu bl).trans p4;have q6:w6.cell? ⟨w.heap.size,4,none⟩=some (.slice B ts.length c):=(zbd bF Mcu Mcu).trans q4;obtain⟨vA,jD⟩:=yH2 iN bF;clear iN bF hrun;refine hK.out _ _ ?_ (fun hHeld=>?_);focus((try dsimp only);refine⟨?_,?_⟩<;>assumption)
   clear hK K;try simp only[Act.put,List.setIfInBounds_toArray,List.set_cons_zero,List.set_cons_succ]
   refine wpAnyH_done Mcv ?_ _;go_wp2_with fail
   go_ret
   have hX:=iZ.o;simp only[Bool.false_eq_true,if_false]at hX;rw[hX];refine⟨rfl,zmT ba (HC.o.keep bo.o) (HT.o.keep bo.o) jD.o HX.o rfl (ppl_will (HP.o.keep bo.o) jD.o vA.o fun n=>?_),zaU (bo.o.mono Mcu) jD.o eV.2.2.2.1 Mcu,(KeepD.below bo.o).trans (KeepD.map jD.o HX.o)⟩;rw[zfN];unfold WillIs;rw[ze0];have Lk:zae n fr=zae fr n:=by rw[Bool.eq_iff_iff,zap,zap];exact⟨Eq.symm,Eq.symm⟩
   rw[Lk];cases hn:zae fr n
   ·exact(K8.o n).keptM jD.o HX.o
   ·exact .inr ⟨VA,vc,rfl,qQ.o.keptM jD.o HX.o⟩
 ·exact Mah
theorem zlP(base b:Nat)(s:St)(la co:Int)(d:Deed)(B:Option Addr)(c:Nat)(w:World)(hW:WldAt base w b s la co)(hd:OkD d)(hk:d.kind=5)(ax:d.to.length<=c)(hS:Sl w 3 RPart.cells B d.to):
 Calls Tryz.prog 114 #[.pointer (some ⟨b,0,none⟩),d.v B c] w (zbK base b (zbD s d) la co w):=by
 obtain⟨aP,_⟩:=hd.one (.inl hk);obtain⟨q,hq⟩:∃q,d.to=[q]:=List.length_eq_one_iff.1 aP;have fM:zbi d=q.name:=by unfold zbi;rw[hq];rfl
 obtain⟨b',off,rfl,cK,aM⟩:=hS.at (show 0<d.to.length by rw[hq];exact Nat.zero_lt_one);have i0:w.cell? ⟨b',off,none⟩=some (.string q.name):=by
  exact Mbc
 have pK:1<=c:=by rw[hq]at ax;exact ax
 clear hd aP aM hS ax;have ak:=hW;obtain⟨Bk,dd,cc,pp,wl,rr,mv,tv,ps,ba,hC,hP,hT⟩:=hW;have dK:=zab hC;obtain⟨kd,dy,pl,fr,ts,cl,yr⟩:=d;simp only at*;subst hq hk;have iZ:Hid (zbD s ⟨5,dy,pl,fr,[q],cl,yr⟩=if zaN s fr||zaN s q.name then(s,28)else if s.renounce.any (fun r=>zae r.1 fr&&zae r.2 q.name)then(s,5)else({s with renounce:=s.renounce++[(fr,q.name)]},0)):=by
  show _=_;unfold zbD;rw[fM]
 generalize zbD s ⟨5,dy,pl,fr,[q],cl,yr⟩=X at*;obtain⟨HC,HP,HT,HW⟩:=yH4 hC hP hT ak;unfold WldC at hC;obtain⟨c0,-,-,-,-,c5⟩:=cF6 hC;have dR:∀W:World,Below w.heap.size w W->∀n,(Instr.lookup 77 (.map (some dd)) (.string n) false).run Tryz.prog W=.ok (.bool (zaN s n)) W:=fun W hB n=>zd0 (HP.o.keep hB) _
 have cL:∀W:World,Below w.heap.size w W->(Instr.lookup 80 (.map (some rr)) (.agg #[.string fr,.string q.name]) false).run Tryz.prog W=.ok (.bool (s.renounce.any fun r=>zae r.1 fr&&zae r.2 q.name)) W:=fun W hB=>znL (HP.o.keep hB) _ _
 have us:=ziL (eq:=eqP) (k:=(fr,q.name)) (l:=s.renounce);rw[zmA]at us;obtain⟨fO,gw,IE⟩:=yH3 dR cL us;clear dR cL us hC hP hT ak fM;unfold Deed.v;simp only;obtain⟨W1,aV⟩:∃W1,W1=w.alloc (.cells #[.int .i64 5,.int .i64 dy,.string pl,.string fr,.slice (some ⟨b',off,none⟩) 1 c,.int .i64 cl,.int .i64 yr] 69):=⟨_,rfl⟩
 have cA:Below w.heap.size w W1:=by rw[aV];exact Bw
 have k1:=fO.o W1 cA fr;have k2:=fO.o W1 cA q.name;have k3:=gw.o W1 cA;have yI:=(HP.o.keep cA).ren;have aC:=zHi cA;rw[aV]at k1 k2 k3;obtain⟨vL,tO⟩:=yH2 yI aV;clear yI cA aV;generalize zaN s fr=d1 at*;generalize zaN s q.name=d2 at*;generalize(s.renounce.any fun r=>zae r.1 fr&&zae r.2 q.name)=rx at*;have aq:(0:Int)<(1:Int):=Mcw;go_enter Tryz.func114,Tryz.ntmps114
 cases d1
 ·cases d2
  ·cases rx
   ·obtain⟨es,ec,hx⟩:=zbo vL.o;have HX:=zHi hx;clear hx;go_wp2_with (at_mapUpdate;obtain⟨w6,hrun,iN,bF,iD⟩:=zcc mapPB vL.o (fr,q.name) true;rw[tO.o]at hrun;go_loud(refine zc7 rfl _ _ _ rfl _ _ _ rfl rfl rfl w6 hrun ?_))
    go_ret
    have hX:=iZ.o;simp only[Bool.or_self,Bool.false_eq_true,if_false]at hX;rw[hX];have eV:=HP.o.ge;have sL:MapS w6 rr ekP evB ((s.renounce++[(fr,q.name)]).map fun x=>(x,true)):=by
     rw[zkA (IE.o (by first|rfl|trivial))]at iN;simpa using iN
    have aI:=HW.o.lt;exact⟨rfl,zmT ba (HC.o.keep aC.o) (HT.o.keep aC.o) bF HX.o rfl (ppl_ren (HP.o.keep aC.o) bF sL),zaU (aC.o.mono Mcu) bF eV.2.2.2.2 Mcu,(KeepD.below aC.o).trans (KeepD.map bF HX.o)⟩
   ·exact Mah
  ·exact Mah
 ·exact Mah
theorem zmU{w:World}{b:Nat}{p:ByteArray×ByteArray}{t:TypeId}{fr:Nat×Nat}(h:w.heap[b]?=some (.cells #[.string p.1,.string p.2] t fr)):Sl w 2 zaV (some ⟨b,0,none⟩) [p]:=fun _=>⟨b,0,rfl,zab h,fun k y hy j u hu=>by
 have hk:k=0:=McH;subst hk;simp only[List.getElem?_cons_zero,Option.some.injEq]at hy;subst hy;match j,hu with
 |0,hu=>simp[zaV]at hu;simp[World.cell?,h,<-hu]
 |1,hu=>simp[zaV]at hu;simp[World.cell?,h,<-hu]
 |j+2,hu=>simp[zaV]at hu⟩
theorem marry_any(base b:Nat)(s:St)(la co:Int)(d:Deed)(B:Option Addr)(c:Nat)(w:World)(hW:WldAt base w b s la co)(hd:OkD d)(hk:d.kind=7)(ax:d.to.length<=c)(hS:Sl w 3 RPart.cells B d.to)(fJ:s.marriages.length<=1000):
 Calls Tryz.prog 114 #[.pointer (some ⟨b,0,none⟩),d.v B c] w (zbK base b (zdv s d) la co w):=by
 obtain⟨aP,_⟩:=hd.one (.inr (.inr hk));obtain⟨q,hq⟩:∃q,d.to=[q]:=List.length_eq_one_iff.1 aP;have fM:zbi d=q.name:=by unfold zbi;rw[hq];rfl
 obtain⟨b',off,rfl,cK,aM⟩:=hS.at (show 0<d.to.length by rw[hq];exact Nat.zero_lt_one);have i0:w.cell? ⟨b',off,none⟩=some (.string q.name):=by
  exact Mbc
 have pK:1<=c:=by rw[hq]at ax;exact ax
 clear hd aP aM hS ax;have ak:=hW;obtain⟨Bk,dd,cc,pp,wl,rr,mv,tv,ps,ba,hC,hP,hT⟩:=hW;have dK:=zab hC;obtain⟨kd,dy,pl,fr,ts,cl,yr⟩:=d;simp only at*;subst hq hk;have iZ:Hid (zdv s ⟨7,dy,pl,fr,[q],cl,yr⟩=if zaN s fr||zaN s q.name then(s,28)else if !noB (zaK s fr)||!noB (zaK s q.name)then(s,13)else({s with marriages:=s.marriages++[(fr,q.name)]},0)):=by
  show _=_;unfold zdv;rw[fM]
 generalize zdv s ⟨7,dy,pl,fr,[q],cl,yr⟩=X at*;obtain⟨MA,mc,rfl,_,_⟩:=hP.marr.sl zbm;have yb:=hP.marr.ge;obtain⟨HC,HP,HT,HW⟩:=yH4 hC hP hT ak;unfold WldC at hC;obtain⟨c0,-,-,c3⟩:=cF4 hC;have f3:w.frozen? ⟨b,3,none⟩=false:=by simp only[World.frozen?,hC];rfl
 have dR:∀W:World,Below w.heap.size w W->∀n,(Instr.lookup 77 (.map (some dd)) (.string n) false).run Tryz.prog W=.ok (.bool (zaN s n)) W:=fun W hB n=>zd0 (HP.o.keep hB) _
 have fX:=dR (w.alloc (.cells #[.int .i64 7,.int .i64 dy,.string pl,.string fr,.slice (some ⟨b',off,none⟩) 1 c,.int .i64 cl,.int .i64 yr] 69)) Bw fr;have pU:=dR (w.alloc (.cells #[.int .i64 7,.int .i64 dy,.string pl,.string fr,.slice (some ⟨b',off,none⟩) 1 c,.int .i64 cl,.int .i64 yr] 69)) Bw q.name;obtain⟨iY,IC⟩:=yH2 (fun W (hB:Below w.heap.size w W) n=>zjH base b s n W (ak.peo.keep hB) Mcu) yb;clear dR hC hP hT ak fM yb;unfold Deed.v;simp only;generalize zaN s fr=d1 at*;generalize zaN s q.name=d2 at*;have aq:(0:Int)<(1:Int):=Mcw;go_enter Tryz.func114,Tryz.ntmps114
 cases d1
 ·cases d2
  ·cases cx:noB (zaK s fr)
   ·have e1:(zaK s fr).toList.isEmpty=false:=cx;rw[cx]at iZ;exact Ma1
   ·cases dY:noB (zaK s q.name)
    ·have e1:(zaK s fr).toList.isEmpty=true:=cx;have e2:(zaK s q.name).toList.isEmpty=false:=dY;rw[cx,dY]at iZ;exact Ma1
    ·have e1:(zaK s fr).toList.isEmpty=true:=cx;have e2:(zaK s q.name).toList.isEmpty=true:=dY;rw[cx,dY]at iZ
     go_wp2_with (first
      |(go_at_call 149;refine(iY.o _ Bw _).mono ?_;rintro e wq ⟨rfl,z,rfl⟩)
      |(at_builtin
        go_loud(refine zat (v:=.slice MA s.marriages.length mc) (n:=s.marriages.length) (m:=1) rfl _ _ rfl zgo zbm zdG rfl (HP.o.marr.keep (n:=w.heap.size) Bw) rfl rfl rfl (zmU (p:=(fr,q.name)) (zaq _ _ _ Mdk)) McP Mcu (by have:=HW.o.lt;simp[zag];omega) ?_)
        intro v3 w3 h1 h2 h3;obtain⟨A6,c6,dG,_,_⟩:=h1.sl zbm;rw[List.length_append]at dG;subst dG;obtain⟨hA,zZ⟩:=wld_marry ba (HC.o.keep (n:=w.heap.size) Bw) (HP.o.keep (n:=w.heap.size) Bw) (HT.o.keep (n:=w.heap.size) Bw) h1 h2;have A8:=zZ;unfold WldC at A8;obtain⟨-,-,-,c33⟩:=cF4 A8;have f33:w3.frozen? ⟨b,3,none⟩=false:=by simp only[World.frozen?,A8];rfl
        have ay:=zab zZ;obtain⟨H2,HA⟩:=yH2 h2 hA;have bV:=((KeepD.below (w:=w) Bw).trans (KeepD.own (HP.o.marr.keep (n:=w.heap.size) Bw) h2 Mcw)).trans (KeepD.cells (zav w3 b 3 (.slice A6 (s.marriages.length+[(fr,q.name)].length) c6)) zZ Mcw);have jT:=zHi bV
        clear h1 h2 h3 hA zZ A8 bV))
     go_ret
     have hX:=iZ.o;simp only[Bool.or_self,Bool.not_true,Bool.false_eq_true,if_false]at hX;rw[hX];have aI:=HW.o.lt;exact⟨rfl,HA.o,zaM (Below.grown (a:=w) (B:=base) Bw H2.o McD (fun j hj=>(IC.o j hj).1)) (by show base<=b;omega) _,jT.o⟩
  ·exact Mah
 ·exact Mah
end
section
open Go.Shelf
theorem zcN{m:List (ByteArray×Value)}{g:Nat}:g∈zaW m↔ ∃e∈m,za5 e.2=some g:=by
 unfold zaW;rw[List.mem_filterMap]
theorem zc3(e:ByteArray×Value)(m:List (ByteArray×Value)):zaW (e::m)=(za5 e.2).toList++zaW m:=by
 unfold zaW;rw[List.filterMap_cons];cases h:za5 e.2<;>simp
theorem zc4(m l:List (ByteArray×Value)):zaW (m++l)=zaW m++zaW l:=by
 unfold zaW;exact List.filterMap_append
theorem zhP{k:ByteArray}{v:Value}:∀ {m:List (ByteArray×Value)},(zaW m).Nodup->(∀g,za5 v=some g->(∃v0,mget eqS k m=some v0/\za5 v0=some g)\/g∉zaW m)->
 (zaW (mput eqS k v m)).Nodup/\∀g∈zaW (mput eqS k v m),g∈zaW m\/za5 v=some g
 | [],_,_=>by
   rw[mput,zc3];have e:zaW []=[]:=rfl;rw[e];cases h:za5 v<;>simp
 |x::m,hn,hv=>by
  rw[zc3,List.nodup_append]at hn;obtain⟨n1,n2,n3⟩:=hn;rw[mput];cases hk:eqS k x.1
  ·rw[if_neg Mcx];have jw:∀g,za5 v=some g->(∃v0,mget eqS k m=some v0/\za5 v0=some g)\/g∉zaW m:=fun g hg=>by
    rcases hv g hg with⟨v0,h1,h2⟩|h
    ·rw[mget,hk]at h1;exact .inl ⟨v0,by simpa using h1,h2⟩
    ·exact .inr fun h'=>h (by rw[zc3];exact List.mem_append_right _ h')
   obtain⟨i1,i2⟩:=zhP n2 jw;rw[zc3,List.nodup_append];refine⟨⟨n1,i1,fun a ha b hb e=>?_⟩,fun g hg=>?_⟩
   ·subst e;rcases i2 _ hb with h|h
    ·exact n3 a ha a h rfl
    ·rcases hv a h with⟨v0,h1,h2⟩|h'
     ·rw[mget,hk]at h1;have pD:mget eqS k m=some v0:=Mc1;exact n3 a ha a (zcN.2 ⟨_,zcM pD,h2⟩) rfl
     ·exact h' (by rw[zc3];exact List.mem_append_left _ ha)
   ·rw[List.mem_append]at hg;rcases hg with hg|hg
    ·exact .inl (by rw[zc3];exact List.mem_append_left _ hg)
    ·rcases i2 g hg with h|h
     ·exact .inl (by rw[zc3];exact List.mem_append_right _ h)
     ·exact .inr h
  ·rw[if_pos rfl,zc3,List.nodup_append];have hx:mget eqS k (x::m)=some x.2:=by rw[mget,hk];rfl
   refine⟨⟨by cases h:za5 v<;>simp,n2,fun a ha b hb e=>?_⟩,fun g hg=>?_⟩
   ·subst e;have jb:za5 v=some a:=by
     cases h:za5 v with
     |none=>simp[h]at ha
     |some y=>simp[h]at ha;rw[ha]
    rcases hv a jb with⟨v0,h1,h2⟩|h'
    ·rw[hx]at h1;simp only[Option.some.injEq]at h1;subst h1;exact n3 a (by rw[h2];simp) a hb rfl
    ·exact h' (by rw[zc3];exact List.mem_append_right _ hb)
   ·rw[List.mem_append]at hg;rcases hg with hg|hg
    ·cases h:za5 v with
     |none=>simp[h]at hg
     |some y=>simp[h]at hg;exact .inr (by rw[hg])
    ·exact .inl (by rw[zc3];exact List.mem_append_right _ hg)
theorem zf9{k n:ByteArray}{v v0:Value}{g:Nat}(ai:zae n k=false):∀ {m:List (ByteArray×Value)},(zaW m).Nodup->mget eqS n m=some v->mget eqS k m=some v0->za5 v=some g->za5 v0≠some g
 | [],_,h,_,_=>by cases h
 |x::m,hn,h1,h2,h3=>fun h4=>by
  rw[zc3,List.nodup_append]at hn;obtain⟨n1,n2,n3⟩:=hn;rw[mget]at h1 h2;cases ha:eqS n x.1
  ·rw[ha]at h1;simp only[Bool.false_eq_true,if_false]at h1;cases hb:eqS k x.1
   ·rw[hb]at h2;simp only[Bool.false_eq_true,if_false]at h2;exact zf9 ai n2 h1 h2 h3 h4
   ·rw[hb]at h2;simp only[if_true,Option.some.injEq]at h2;subst h2;exact n3 g (by rw[h4];simp) g (zcN.2 ⟨_,zcM h1,h3⟩) rfl
  ·rw[ha]at h1;simp only[if_true,Option.some.injEq]at h1;subst h1;cases hb:eqS k x.1
   ·rw[hb]at h2;simp only[Bool.false_eq_true,if_false]at h2;exact n3 g (by rw[h3];simp) g (zcN.2 ⟨_,zcM h2,h4⟩) rfl
   ·have e1:n=x.1:=zap.1 ha;have e2:k=x.1:=zap.1 hb;rw[e1,e2,zbE]at ai;cases ai
theorem kids_push(s:St)(f t n:ByteArray):zai {s with children:=s.children++[(f,t)]} n=zai s n++if zae f n then[t]else[]:=by
 unfold zai;simp only[List.filter_append,List.map_append,List.filter_cons,List.filter_nil];cases zae f n<;>simp
theorem pars_push(s:St)(f t n:ByteArray):zbT {s with children:=s.children++[(f,t)]} n=zbT s n++if zae t n then[f]else[]:=by
 unfold zbT;simp only[List.filter_append,List.map_append,List.filter_cons,List.filter_nil];cases zae t n<;>simp
theorem zkB{W:World}{base:Nat}{m:List (ByteArray×Value)}{n:ByteArray}{xs:List ByteArray}(h:RowIs W base m n xs):∃A c,(mget eqS n m).getD (.slice none 0 0)=.slice A xs.length c/\OwnS W base 9 1 sC (.slice A xs.length c) xs/\(∀g,za5 (.slice A xs.length c)=some g->mget eqS n m=some (.slice A xs.length c)):=by
 rcases h with⟨h1,rfl⟩|⟨v,h1,h2⟩
 ·exact⟨none,0,by rw[h1];rfl,OwnS.nil,fun g hg=>by cases hg⟩
 ·obtain⟨A,c,rfl,_,_⟩:=h2.sl za9;exact⟨A,c,by rw[h1];rfl,h2,fun _ _=>h1⟩
theorem zhQ(a b:ByteArray):zae a b=zae b a:=by rw[Bool.eq_iff_iff,zap,zap];exact⟨Eq.symm,Eq.symm⟩
theorem OwnS.same{α:Type}{W W':World}{base:Nat}{e:TypeId}{size:Nat}{f:α->List Value}{v:Value}{xs:List α}(h:OwnS W base e size f v xs)(hk:∀g cur,za5 v=some g->W.heap[g]?=some (.cells cur e (0,0))->W'.heap[g]?=W.heap[g]?):OwnS W' base e size f v xs:=by
 rcases h with h|⟨g,o,cap,cur,rfl,hb,hh,rest⟩
 ·exact .inl h
 ·exact .inr ⟨g,o,cap,cur,rfl,hb,(hk g cur rfl hh).trans hh,rest⟩
theorem zdX{W:World}{base:Nat}{v:Value}{xs:List ByteArray}(h:OwnS W base 9 1 sC v xs){g:Nat}(hg:za5 v=some g):∃cur,W.heap[g]?=some (.cells cur 9 (0,0)):=by
 rcases h with⟨rfl,_⟩|⟨k,o,c,cur,rfl,_,hk,_⟩
 ·cases hg
 ·simp only[za5,Option.some.injEq]at hg;subst hg;exact⟨cur,hk⟩
theorem wld_child{base b:Nat}{W w9:World}{B ps:List Nat}{d c p wl r:Nat}{mv tv va vb v1 v2:Value}{s:St}{la co:Int}{mc mp:List (ByteArray×Value)}{fr tn:ByteArray}(hb:base<=b)(hC:WldC W b d c p wl r mv tv la co)(hP:PplAt base W B d c p wl r mv s)(hT:TombsAt base W B tv ps s.graves)
 (k1:MapS W c ekS (fun v:Value=>v) mc)(k2:MapS W p ekS (fun v:Value=>v) mp)(k3:∀n,RowIs W base mc n (zai s n))(k4:∀n,RowIs W base mp n (zbT s n))(k5:B=zaW (mc++mp))(k6:B.Nodup/\(mc.map (·.1)).Nodup/\(mp.map (·.1)).Nodup)
 (ha:OwnS W base 9 1 sC va (zai s fr))(jb:∀g,za5 va=some g->mget eqS fr mc=some va)(hv:OwnS W base 9 1 sC vb (zbT s tn))(jw:∀g,za5 vb=some g->mget eqS tn mp=some vb)
 (o1:OwnS w9 base 9 1 sC v1 (zai s fr++[tn]))(o2:OwnS w9 base 9 1 sC v2 (zbT s tn++[fr]))(b1:∀g,za5 v1=some g->za5 va=some g\/W.heap.size<=g)(b2:∀g,za5 v2=some g->za5 vb=some g\/W.heap.size<=g)(b12:∀g,za5 v1=some g->za5 v2≠some g)
 (m1:MapS w9 c ekS (fun v:Value=>v) (mput eqS fr v1 mc))(m2:MapS w9 p ekS (fun v:Value=>v) (mput eqS tn v2 mp))(hF:∀k,k<W.heap.size->k≠c->k≠p->za5 va≠some k->za5 vb≠some k->w9.heap[k]?=W.heap[k]?):WldAt base w9 b {s with children:=s.children++[(fr,tn)]} la co:=by
 have cZ:=hP.nd;simp only[List.nodup_cons,List.mem_cons,List.not_mem_nil,or_false,not_or]at cZ;obtain⟨⟨n1,n2,n3,n4⟩,⟨n5,n6,n7⟩,⟨n8,n9⟩,n10,_⟩:=cZ;obtain⟨ec,cc,hc⟩:=zbo k1;obtain⟨ep,cp,hp⟩:=zbo k2;have bm:∀ {k:Nat} {cur:Array Value} {t:TypeId} {f:Nat×Nat},W.heap[k]?=some (.cells cur t f)->t≠9->w9.heap[k]?=W.heap[k]?:=fun {k cur t f} hk ht=>by
  refine hF k (Array.getElem?_eq_some_iff.1 hk).1 (fun e=>?_) (fun e=>?_) (fun e=>?_) (fun e=>?_)
  ·subst e;rw[hc]at hk;simp at hk
  ·subst e;rw[hp]at hk;simp at hk
  ·obtain⟨cur',h'⟩:=zdX ha e;exact MbL
  ·obtain⟨cur',h'⟩:=zdX hv e;exact MbL
 have sM:∀ {k:Nat} {es:Array MapEntry} {x:Nat},W.heap[k]?=some (.map es x)->k≠c->k≠p->w9.heap[k]?=W.heap[k]?:=fun {k es x} hk h1 h2=>by
  refine hF k (Array.getElem?_eq_some_iff.1 hk).1 h1 h2 (fun e=>?_) (fun e=>?_)
  ·obtain⟨cur',h'⟩:=zdX ha e;rw[h']at hk;simp at hk
  ·obtain⟨cur',h'⟩:=zdX hv e;rw[h']at hk;simp at hk
 have nQ:∀g,za5 va=some g->g∈zaW mc:=fun g hg=>zcN.2 ⟨_,zcM (jb g hg),hg⟩
 have dH:∀g,za5 vb=some g->g∈zaW mp:=fun g hg=>zcN.2 ⟨_,zcM (jw g hg),hg⟩
 obtain⟨k6,kn1,kn2⟩:=k6;rw[k5,zc4,List.nodup_append]at k6;obtain⟨q1,q2,q3⟩:=k6;have mR:∀ {m:List (ByteArray×Value)} {n:ByteArray} {v:Value} {xs:List ByteArray},mget eqS n m=some v->OwnS W base 9 1 sC v xs->(∀g,za5 v=some g->za5 va≠some g/\za5 vb≠some g)->OwnS w9 base 9 1 sC v xs:=fun {m n v xs} hm ho ai=>
  ho.same fun g cur hg hh=>hF g (Array.getElem?_eq_some_iff.1 hh).1 (fun e=>by subst e;rw[hc]at hh;simp at hh) (fun e=>by subst e;rw[hp]at hh;simp at hh) (ai g hg).1 (ai g hg).2
 have oH:∀g,W.heap.size<=g->g∉zaW mc/\g∉zaW mp:=fun g hg=>by
  have key:∀ {m:List (ByteArray×Value)} {f:ByteArray->List ByteArray},(m.map (·.1)).Nodup->(∀n,RowIs W base m n (f n))->g∉zaW m:=fun {m f} hk hr h=>by
   obtain⟨e,he,eV⟩:=zcN.1 h;have h1:=zg0 hk (show(e.1,e.2)∈m from he);rcases hr e.1 with⟨h2,_⟩|⟨v,h2,h3⟩
   ·rw[h2]at h1;cases h1
   ·exact Mbs
  exact⟨key kn1 k3,key kn2 k4⟩
 have R1:=zhP (k:=fr) (v:=v1) q1 (fun g hg=>by
  rcases b1 g hg with h|h
  ·exact .inl ⟨va,jb g h,h⟩
  ·exact .inr (oH g h).1)
 have R2:=zhP (k:=tn) (v:=v2) q2 (fun g hg=>by
  rcases b2 g hg with h|h
  ·exact .inl ⟨vb,jw g h,h⟩
  ·exact .inr (oH g h).2)
 have eC:∀g∈zaW (mput eqS fr v1 mc++mput eqS tn v2 mp),g∈B\/W.heap.size<=g:=fun g hg=>by
  rw[zc4,List.mem_append]at hg;rw[k5,zc4];rcases hg with hg|hg
  ·rcases R1.2 g hg with h|h
   ·exact .inl (List.mem_append_left _ h)
   ·rcases b1 g h with h|h
    ·exact .inl (List.mem_append_left _ (nQ g h))
    ·exact .inr h
  ·rcases R2.2 g hg with h|h
   ·exact .inl (List.mem_append_right _ h)
   ·rcases b2 g h with h|h
    ·exact .inl (List.mem_append_right _ (dH g h))
    ·exact .inr h
 obtain⟨m,k7,k8⟩:=hP.wills;refine⟨_,d,c,p,wl,r,mv,tv,ps,hb,?_,⟨hP.nd,hP.ge,?_,⟨_,_,m1,m2,fun n=>?_,fun n=>?_,rfl,?_⟩,?_,⟨m,?_,fun n=>?_⟩,?_⟩,⟨?_,hT.len,hT.nd,fun i T g e1 e2=>?_⟩⟩
 ·exact(bm hC Mcw).trans hC
 ·obtain⟨es,x,hx⟩:=zbo hP.dead;exact hP.dead.keep (sM hx n1 n2)
 ·rw[kids_push];unfold RowIs;rw[ze0];cases hn:zae n fr
  ·rw[zhQ fr n,hn];simp only[Bool.false_eq_true,if_false,List.append_nil];rcases k3 n with h|⟨v,h1,h2⟩
   ·exact .inl h
   ·refine .inr ⟨v,h1,mR h1 h2 fun g hg=>⟨fun e=>?_,fun e=>?_⟩⟩
    ·exact zf9 hn q1 h1 (jb g e) hg e
    ·exact q3 g (zcN.2 ⟨_,zcM h1,hg⟩) g (dH g e) rfl
  ·rw[zhQ fr n,hn];have e:n=fr:=zap.1 hn;subst e;exact .inr ⟨v1,rfl,o1⟩
 ·rw[pars_push];unfold RowIs;rw[ze0];cases hn:zae n tn
  ·rw[zhQ tn n,hn];simp only[Bool.false_eq_true,if_false,List.append_nil];rcases k4 n with h|⟨v,h1,h2⟩
   ·exact .inl h
   ·refine .inr ⟨v,h1,mR h1 h2 fun g hg=>⟨fun e=>?_,fun e=>?_⟩⟩
    ·exact q3 g (nQ g e) g (zcN.2 ⟨_,zcM h1,hg⟩) rfl
    ·exact zf9 hn q2 h1 (jw g e) hg e
  ·rw[zhQ tn n,hn];have e:n=tn:=zap.1 hn;subst e;exact .inr ⟨v2,rfl,o2⟩
 ·refine⟨?_,(zfm _ _ _ kn1).1,(zfm _ _ _ kn2).1⟩;rw[zc4,List.nodup_append];refine⟨R1.1,R2.1,fun g hg g' fD e=>?_⟩;subst e;rcases R1.2 g hg with h|h
  ·rcases R2.2 g fD with h'|h'
   ·exact q3 g h g h' rfl
   ·rcases b2 g h' with h'|h'
    ·exact q3 g h g (dH g h') rfl
    ·exact(oH g h').1 h
  ·rcases R2.2 g fD with h'|h'
   ·rcases b1 g h with h|h
    ·exact q3 g (nQ g h) g h' rfl
    ·exact(oH g h).2 h'
   ·exact b12 g h h'
 ·exact hP.marr.same fun g cur _ hh=>bm hh Mcw
 ·obtain⟨es,x,hx⟩:=zbo k7;exact k7.keep (sM hx (fun e=>n6 e.symm) (fun e=>n8 e.symm))
 ·rcases k8 n with h|⟨A,x,h1,h2⟩
  ·exact .inl h
  ·exact .inr ⟨A,x,h1,h2.same fun g cur f hh _=>bm hh Mcw⟩
 ·obtain⟨es,x,hx⟩:=zbo hP.ren;exact hP.ren.keep (sM hx (fun e=>n7 e.symm) (fun e=>n9 e.symm))
 ·exact hT.own.same fun g cur _ hh=>bm hh Mcw
 ·obtain⟨H,hh,D,dc,f',t1,t2,t3,t4,t5,t6,t7⟩:=hT.all i T g e1 e2;refine⟨H,hh,D,dc,f',(bm t1 Mcw).trans t1,t2,t3,t4,t5.same fun g' cur f hx _=>bm hx Mcw,?_,fun hl a uf aJ=>?_⟩
  ·intro hl;obtain⟨g',off,cur,f,hA,hx,hy⟩:=t6 hl;have Gz:=t7 hl ⟨g',off,none⟩ hA;refine⟨g',off,cur,f,hA,?_,hy⟩;rw[<-hx];refine hF g' (Array.getElem?_eq_some_iff.1 hx).1 (fun e=>by subst e;rw[hc]at hx;simp at hx) (fun e=>by subst e;rw[hp]at hx;simp at hx) (fun e=>Gz ?_) (fun e=>Gz ?_)
   ·rw[k5,zc4];exact List.mem_append_left _ (nQ g' e)
   ·rw[k5,zc4];exact List.mem_append_right _ (dH g' e)
  ·obtain⟨g',off,cur,f,hA,hx,hy⟩:=t6 hl;rw[hA]at uf;simp only[Option.some.injEq]at uf;rcases eC _ aJ with h|h
   ·exact t7 hl a (by rw[hA,uf]) h
   ·have:=(Array.getElem?_eq_some_iff.1 hx).1;rw[<-uf]at h;simp at h;omega
end
theorem ziM{α:Type}[DecidableEq α]:∀ {l m:List α},l.Nodup->(∀x∈l,x∈m)->l.length<=m.length
 | [],_,_,_=>Nat.zero_le _
 |x::l,m,hn,hm=>by
  rw[List.nodup_cons]at hn;have hx:=hm x Mcx;have:=ziM (l:=l) (m:=m.erase x) hn.2 (fun y hy=>(List.mem_erase_of_ne (fun e=>hn.1 (by rw[<-e];exact hy))).2 (hm y (by simp[hy])));rw[List.length_erase_of_mem hx]at this;have:=List.length_pos_of_mem hx;simp;omega
def zco(out:Parts)(L:List ByteArray):Prop:= ∀p∈out,p.1∈L
theorem zeK{out:Parts}{fl:Bool}{n:ByteArray}{f:Rat}{L:List ByteArray}(h:zco out L)(hn:n∈L):zco (zcW n f (out,fl)).1 L:=fun p hp=>by
 rcases zkr hp with e|h'
 ·rw[e];exact hn
 ·exact h p h'
mutual
def zcA(L:List ByteArray):List Tree->Prop
 | []=>True
 |t::l=>zfo L t/\zcA L l
def zfo(L:List ByteArray):Tree->Prop
 | .leaf n=>n∈L
 | .node l=>zcA L l
end
mutual
theorem zeL{part:Rat}{L:List ByteArray}:∀ {l:List Tree} {out:Parts} {fl:Bool},zcA L l->zco out L->zco (zbQ part l (out,fl)).1 L
 | [],out,fl,_,h=>by rw[zbQ];exact h
 |t::l,out,fl,hl,h=>by
  rw[zcA]at hl;rw[zbQ];exact zeL (l:=l) (fl:=(zdW part t (out,fl)).2) hl.2 (zoP hl.1 h)
theorem zoP{part:Rat}{L:List ByteArray}:∀ {t:Tree} {out:Parts} {fl:Bool},zfo L t->zco out L->zco (zdW part t (out,fl)).1 L
 | .leaf n,out,fl,hl,h=>by
   rw[zfo]at hl;rw[zdW];exact zeK h hl
 | .node l,out,fl,hl,h=>by
   rw[zfo]at hl;rw[zdW];exact zeL (l:=l) hl h
end
theorem zlQ{L:List ByteArray}:∀ {l:List Tree},(∀t∈l,zfo L t)->zcA L l
 | [],_=>by rw[zcA];trivial
 |t::l,h=>by
  rw[zcA];exact⟨h t Mcx,zlQ fun t' ht=>h t' (by simp[ht])⟩
theorem zfp{s:St}{stems:Bool}{frm:ByteArray}{L:List ByteArray}(hL:∀c∈s.children,c.2∈L):∀(f:Nat) (n:ByteArray),zcA L (zb7 s stems frm f n)
 |0,_=>by rw[show zb7 s stems frm 0 _=[]from rfl,zcA];trivial
 |f+1,n=>by
  refine zlQ fun t ht=>?_
  rw[zf6]at ht;obtain⟨c,hc,h1⟩:=List.mem_filterMap.1 ht;unfold zcY at h1;split at h1
  ·simp only[Option.some.injEq]at h1;rw[<-h1,zfo];exact hL (n,c) (zdx.1 hc)
  ·split at h1
   ·simp only[Option.some.injEq]at h1;rw[<-h1,zfo];exact zfp hL f c
   ·cases h1
theorem zhf{s:St}{frm:ByteArray}{L:List ByteArray}:∀ {l out:Parts} {fl:Bool} {rest:Rat},(∀p∈l,p.1∈L)->zco out L->zco (zdm s frm l (out,fl) rest).1.1 L
 | [],_,_,_,_,h=>h
 |p::l,out,fl,rest,hl,h=>by
  rw[zdm];split
  ·exact zhf (l:=l) (fun q hq=>hl q MdH) (zeK (fl:=fl) h (hl p Mcx))
  ·exact zhf (l:=l) (fun q hq=>hl q MdH) h
theorem ziN{s:St}{law:Law}{n:ByteArray}(hG:GoodParts (zcn s law n).1):(zcn s law n).1.length<=(zbx s n).length+s.children.length+1:=by
 let L:=((zbx s n).map (·.1))++(s.children.map (·.2))++[zcq s n]
 have hL:zco (zcn s law n).1 L:=by
  have h1:∀p∈zbx s n,p.1∈L:=fun p hp=>List.mem_append_left _ (List.mem_append_left _ (List.mem_map.2 ⟨p,hp,rfl⟩))
  have h2:∀c∈s.children,c.2∈L:=fun c hc=>List.mem_append_left _ (List.mem_append_right _ (List.mem_map.2 ⟨c,hc,rfl⟩))
  have h3:zcq s n∈L:=List.mem_append_right _ Mcx;have h4:=zhf (s:=s) (frm:=n) (fl:=false) (rest:=1) h1 (show zco [] L from fun p hp=>by cases hp);have h5:=zfp (stems:=law.stems) (frm:=n) h2 (zaX s) n;unfold zcn;generalize zdm s n (zbx s n) ([],false) 1=y at*;obtain⟨⟨o,f⟩,r⟩:=y;simp only;split
  ·exact zeK h4 h3
  ·split
   ·unfold zc0;exact zeL h5 h4
   ·unfold zc0;exact zeL (fl:=_) h5 (zeK (fl:=f) h4 h3)
 have hn:((zcn s law n).1.map (·.1)).Nodup:=by
  rw[List.nodup_iff_pairwise_ne,List.pairwise_map];exact hG.asc.imp fun h=>zc8 h
 have:=ziM (m:=L) hn (fun x hx=>by
  obtain⟨p,hp,rfl⟩:=List.mem_map.1 hx
  exact hL p hp)
 simp only[L,List.length_append,List.length_map,List.length_singleton]at this;exact this
abbrev Spot:=ByteArray×Int
def eqSp(a b:Spot):Bool:=zae a.1 b.1&&a.2==b.2
theorem zfA{a b:Spot}:eqSp a b=true↔a=b:=by
 obtain⟨a1,a2⟩:=a;obtain⟨b1,b2⟩:=b;simp[eqSp,zap]
theorem eqSp_refl(a:Spot):eqSp a a=true:=zfA.2 rfl
theorem eqSp_sym(a b:Spot):eqSp a b=eqSp b a:=by rw[Bool.eq_iff_iff,zfA,zfA];exact⟨Eq.symm,Eq.symm⟩
theorem ziO{V:Type}{k n:Spot}{v:V}:∀ {m:List (Spot×V)},mget eqSp n (mput eqSp k v m)=if eqSp n k then some v else mget eqSp n m
 | []=>rfl
 |x::m=>by
  rw[mput];cases hk:eqSp k x.1
  ·simp only[Bool.false_eq_true,if_false];rw[mget,mget,ziO (m:=m)];cases hn:eqSp n x.1
   ·simp
   ·have e:=zfA.1 hn;subst e;rw[eqSp_sym,hk];simp
  ·simp only[if_true];have e:=zfA.1 hk;rw[mget,mget,<-e];cases hn:eqSp n k<;>simp
theorem zc5(n lo hi:Int)(w:World):
 Calls Tryz.prog 61 #[.int .i64 n,.int .i64 lo,.int .i64 hi] w (Ret0 w (.bool (inR n lo hi))):=by
 go_enter Tryz.func61,Tryz.ntmps61
 go_wp2
 all_goals go_ret
 all_goals(refine⟨?_,rfl⟩;simp[inR, *])
 omega
theorem zjO(n:Int)(w:World):Calls Tryz.prog 59 #[.int .u8 n] w (Ret0 w (.bool (zdd n))):=by
 go_enter Tryz.func59,Tryz.ntmps59
 go_wp2
 all_goals go_ret
 all_goals refine⟨?_,rfl⟩
 all_goals refine zn6 ?_
 all_goals go_tidy
 all_goals simp[zdd]
 all_goals omega
theorem zlR(n:Int)(w:World):Calls Tryz.prog 60 #[.int .u8 n] w (Ret0 w (.bool (zla n))):=by
 go_enter Tryz.func60,Tryz.ntmps60
 go_wp2
 all_goals go_ret
 all_goals refine⟨?_,rfl⟩
 all_goals refine zn6 ?_
 all_goals go_tidy
 all_goals simp[zla]
 all_goals omega
open Go.Shelf
attribute [local go_sem] zas zad
theorem dv_of{W:World}{A:Option Addr}{ds:List Deed}(h:SlW W 7 zfE A ds):∃xs:List DV,xs.map (·.d)=ds/\(∀x∈xs,x.d.to.length<=x.c/\Sl W 3 RPart.cells x.B x.d.to)/\Sl W 7 DV.cells A xs:=by
 by_cases h0:ds=[]
 ·subst h0;exact⟨[],rfl,by simp,fun h=>absurd h Mcx⟩
 ·have hl:0<ds.length:=by cases ds with
   |nil=>exact absurd rfl h0
   |cons _ _=>simp
  obtain⟨b,off,hA,hb,hc⟩:=h hl;have hx:∀(k:Nat) (hk:k<ds.length),∃y:DV,y.d=ds[k]/\y.d.to.length<=y.c/\Sl W 3 RPart.cells y.B y.d.to/\∀j u,y.cells[j]?=some u->W.cell? ⟨b,off+k*7+j,none⟩=some u:=fun k hk=>by
   obtain⟨cs,⟨B,c,h1,h2,h3⟩,h4⟩:=hc k _ (List.getElem?_eq_getElem hk);refine⟨⟨ds[k],B,c⟩,rfl,h1,h3,fun j u hu=>h4 j u ?_⟩;rw[h2];exact hu
  have aU:∀n,n<=ds.length->∃xs:List DV,xs.map (·.d)=ds.take n/\(∀x∈xs,x.d.to.length<=x.c/\Sl W 3 RPart.cells x.B x.d.to)/\∀k x,xs[k]?=some x->∀j u,x.cells[j]?=some u->W.cell? ⟨b,off+k*7+j,none⟩=some u:=by
   intro n;induction n with
   |zero=>intro _;exact⟨[],by simp,by simp,by simp⟩
   |succ n ih=>
    intro hn;obtain⟨xs,h1,h2,h3⟩:=ih Mcu;obtain⟨y,e1,e2,e3,e4⟩:=hx n Mcu;have ag:xs.length=n:=by
     have:=congrArg List.length h1;simp at this;omega
    refine⟨xs++[y],?_,?_,?_⟩
    ·rw[List.map_append,h1,List.take_add_one,List.getElem?_eq_getElem (show n<ds.length by omega)];simp[e1]
    ·intro x uC;rcases List.mem_append.1 uC with uC|uC
     ·exact h2 x uC
     ·rw[List.mem_singleton]at uC;subst uC;exact⟨e2,e3⟩
    ·intro k x hk;by_cases jq:k<n
     ·rw[List.getElem?_append_left Mcu]at hk;exact h3 k x hk
     ·have fX:k=n:=by
       exact MbT
      subst fX;rw[List.getElem?_append_right Mcu,ag]at hk;simp at hk;subst hk;exact e4
  obtain⟨xs,h1,h2,h3⟩:=aU ds.length (Nat.le_refl _);rw[List.take_length]at h1;exact⟨xs,h1,h2,fun _=>⟨b,off,hA,hb,h3⟩⟩

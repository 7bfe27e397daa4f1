import Derived.Test.YtegdimedhfafjaaGreatDoorJB
set_option linter.all false
set_option maxRecDepth 100000
set_option maxHeartbeats 4000000
namespace Go.Proofs.YtegdimedhfafjaaGreatDoor
open Go.RowKit
attribute [local go_sem] World.cell?_alloc_mark zaf za5 zao za8 zav zaw zax zay zaz za0 za1
attribute [local go_sem] zaq zad
structure Found (s:St) (nm:ByteArray) (out xs:List ByteArray):Prop where
 nd:out.Nodup
 desc:∀n∈out,Desc s nm n
 from':∀x∈xs,x=nm\/x∈out
 seen:∀x,(x=nm\/x∈out)->x∈xs\/∀c∈zai s x,c∈out
structure Look (s:St) (nm x:ByteArray) (j:Nat) (out xs:List ByteArray):Prop where
 nd:out.Nodup
 desc:∀n∈out,Desc s nm n
 from':∀x∈xs,x=nm\/x∈out
 seen:∀y,(y=nm\/y∈out)->y∈xs\/y=x\/∀c∈zai s y,c∈out
 mine:x=nm\/x∈out
 done:∀c∈(zai s x).take j,c∈out
theorem zmI(s:St)(nm:ByteArray):Found s nm [] [nm]:=⟨List.nodup_nil,by simp,by simp,fun x hx=> .inl (by simpa using hx)⟩
theorem found_pop{s:St}{nm x:ByteArray}{out xs:List ByteArray}(h:Found s nm out (x::xs)):Look s nm x 0 out xs:=
 ⟨h.nd,h.desc,fun y hy=>h.from' y (by simp[hy]),fun y hy=>by
   rcases h.seen y hy with h1|h1
   ·rcases List.mem_cons.1 h1 with rfl|h1
    ·exact .inr (.inl rfl)
    ·exact .inl h1
   ·exact .inr (.inr h1),h.from' x Mcp,by simp⟩
theorem look_end{s:St}{nm x:ByteArray}{out xs:List ByteArray}(h:Look s nm x (zai s x).length out xs):Found s nm out xs:=
 ⟨h.nd,h.desc,h.from',fun y hy=>by
   rcases h.seen y hy with h1|rfl|h1
   ·exact .inl h1
   ·exact .inr fun c hc=>h.done c Mdx
   ·exact .inr h1⟩
theorem look_old{s:St}{nm x:ByteArray}{j:Nat}{out xs:List ByteArray}(h:Look s nm x j out xs)(hj:j<(zai s x).length)(hc:(zai s x)[j]∈out):Look s nm x (j+1) out xs:=
 ⟨h.nd,h.desc,h.from',h.seen,h.mine,fun c aJ=>by
   rw[List.take_succ_eq_append_getElem hj]at aJ;rcases List.mem_append.1 aJ with h1|h1
   ·exact h.done c h1
   ·rw[List.mem_singleton.1 h1];exact hc⟩
theorem znR{s:St}{nm x:ByteArray}{j:Nat}{out xs:List ByteArray}(h:Look s nm x j out xs)(hj:j<(zai s x).length)(hc:(zai s x)[j]∉out):Look s nm x (j+1) (out++[(zai s x)[j]]) (xs++[(zai s x)[j]]):=by
 have bJ:(zai s x)[j]∈zai s x:=List.getElem_mem _;refine⟨?_,fun n hn=>?_,fun y hy=>?_,fun y hy=>?_,?_,fun c aJ=>?_⟩
 ·exact List.nodup_append.2 ⟨h.nd,by simp,fun a ha b hb e=>by rw[List.mem_singleton.1 hb]at e;exact hc (e▸ha)⟩
 ·rcases List.mem_append.1 hn with h1|h1
  ·exact h.desc n h1
  ·rw[List.mem_singleton.1 h1];rcases h.mine with rfl|hm
   ·exact zfz bJ
   ·exact zib (h.desc x hm) bJ
 ·rcases List.mem_append.1 hy with h1|h1
  ·rcases h.from' y h1 with h2|h2
   ·exact .inl h2
   ·exact .inr (by simp[h2])
  ·exact .inr (by simp[List.mem_singleton.1 h1])
 ·rcases hy with hy|hy
  ·rcases h.seen y (.inl hy)with h1|h1|h1
   ·exact .inl (by simp[h1])
   ·exact .inr (.inl h1)
   ·exact .inr (.inr fun c hc=>by simp[h1 c hc])
  ·rcases List.mem_append.1 hy with h1|h1
   ·rcases h.seen y (.inr h1)with h2|h2|h2
    ·exact .inl (by simp[h2])
    ·exact .inr (.inl h2)
    ·exact .inr (.inr fun c hc=>by simp[h2 c hc])
   ·exact .inl (by simp[List.mem_singleton.1 h1])
 ·rcases h.mine with h1|h1
  ·exact .inl h1
  ·exact .inr (by simp[h1])
 ·rw[List.take_succ_eq_append_getElem hj]at aJ;rcases List.mem_append.1 aJ with h1|h1
  ·simp[h.done c h1]
  ·simp[List.mem_singleton.1 h1]
theorem found_end{s:St}{nm:ByteArray}{out:List ByteArray}(h:Found s nm out []):∀n,n∈out↔Desc s nm n:=fun n=>by
 refine⟨h.desc n,fun hd=>zia (out:=fun x=>x∈out) ?_ ?_ hd⟩
 ·intro c hc;rcases h.seen nm (.inl rfl)with h1|h1
  ·simp at h1
  ·exact h1 c hc
 ·intro x hx c hc;rcases h.seen x (.inr hx)with h1|h1
  ·simp at h1
  ·exact h1 c hc
theorem zkr{α:Type}[DecidableEq α]:∀ {a b:List α},a.Nodup->(∀x∈a,x∈b)->a.length<=b.length
 | [],_,_,_=>Nat.zero_le _
 |x::a,b,h,hs=>by
  have h':=List.nodup_cons.1 h;have hx:x∈b:=hs x Mcp;have h1:a.length<=(b.erase x).length:=zkr h'.2 fun y hy=>by
   have ai:y≠x:=fun e=>h'.1 (e▸hy)
   exact(List.mem_erase_of_ne ai).2 (hs y (by simp[hy]))
  have h2:=List.length_erase_of_mem hx;have h3:0<b.length:=List.length_pos_of_mem hx;simp only[List.length_cons];omega
theorem out_few{s:St}{nm:ByteArray}{out:List ByteArray}(hn:out.Nodup)(hd:∀n∈out,Desc s nm n):out.length<=s.children.length:=by
 have E8:∀n∈out,n∈s.children.map (·.2):=fun n Le=>by
  have:∃y,(y,n)∈s.children:=by
   cases hd n Le with
   |single h=>exact⟨nm,zdp.1 h⟩
   |tail _ h=>exact⟨_,zdp.1 h⟩
  obtain⟨y,hy⟩:=this;exact List.mem_map.2 ⟨(y,n),hy,rfl⟩
 haveI:DecidableEq ByteArray:=fun a b=>Classical.propDecidable _
 have:=zkr hn E8;simpa using this
section
open Go.Shelf
theorem zks(day mo:Int)(w:World)(hL:LensIn w)(h0:0<=day)(h1:day<=200000)(nJ:0<=mo)(cm:mo<=12000):
 Calls Tryz.prog 122 #[.int .i64 day,.int .i64 mo] w (fun e w'=>∃n er:Int,(er=0->zbU day mo=n/\0<=n)/\(er≠0->zbU day mo= -1)/\Ret w (.tuple #[.int .i64 n,.int .i64 er]) e w'):=by
 have bY:inR day 0 200000=true:=by simp[inR];omega
 have dV:inR mo (-12000) 12000=true:=by simp[inR];omega
 have HL:=zHi (zo8 day mo w hL h0 h1 Mcm cm);go_enter Tryz.func122,Tryz.ntmps122
 go_wp2_with (first
  |(go_at_call 154;refine(zhb _ _).mono ?_;rintro e wq ⟨rfl,rfl⟩;unfold zb0;rw[bY])
  |(go_at_call 155;refine(zeA _ _ _ _).mono ?_;rintro e wq ⟨rfl,rfl⟩;rw[dV])
  |(go_at_call 156;refine(HL.o).mono ?_;rintro e wq ⟨n,ok,h1,h2,rfl,z,rfl⟩;obtain⟨H1,H2⟩:=yH2 h1 h2;clear h1 h2;cases ok))
 all_goals go_ret2
 all_goals first
  |exact⟨0,2,by simp,fun _=>H2.o trivial,Ret.of rfl Bw⟩
  |exact⟨n,0,fun _=>H1.o trivial,by simp,Ret.of rfl Bw⟩
theorem zjA(day ys:Int)(w:World)(hL:LensIn w)(h0:0<=day)(h1:day<=200000)(nJ:0<=ys)(cm:ys<=99):
 Calls Tryz.prog 85 #[.int .i64 day,.int .i64 ys] w (Ret w (.int .i64 (zce day ys))):=by
 have HL:=zHi (zks day (12*ys) w hL h0 h1 Mcm Mcm);go_enter Tryz.func85,Tryz.ntmps85
 go_wp2_with (go_at_call 122;refine(HL.o).mono ?_;rintro e wq ⟨n,er,k1,k2,rfl,z,rfl⟩;obtain⟨H1,H2⟩:=yH2 k1 k2;clear k1 k2;by_cases iT:er=0)
 all_goals go_ret
 all_goals first
  |exact Ret.of (zbC (by unfold zce;exact(H1.o (by first|trivial|exact iT)).1.symm)) Bw
  |exact Ret.of (zbC (by unfold zce;exact(H2.o (by first|trivial|exact iT)).symm)) Bw
end
def zcK(n:ByteArray)(f:Rat)(x:Parts×Bool):Parts×Bool:=
 (setP x.1 n (zbh (zag x.1 n+f)),x.2||bigQ (zag x.1 n+f))
mutual
def zbO(part:Rat):List Tree->Parts×Bool->Parts×Bool
 | [],x=>x
 |t::l,x=>zbO part l (zdR part t x)
def zdR(part:Rat):Tree->Parts×Bool->Parts×Bool
 | .leaf n,x=>zcK n part x
 | .node l,x=>zbO (zbh (part*(1/(l.length:Rat)))) l (x.1,x.2||bigQ (part*(1/(l.length:Rat))))
end
def zcv(l:List Tree)(f:Rat)(x:Parts×Bool):Parts×Bool:=
 zbO (zbh (f*(1/(l.length:Rat)))) l (x.1,x.2||bigQ (f*(1/(l.length:Rat))))
theorem zo9(part:Rat)(l:List Tree)(x:Parts×Bool):zdR part (.node l) x=zcv l part x:=by rw[zdR,zcv]
theorem zgx(part:Rat):∀(a b:List Tree) (x:Parts×Bool),zbO part (a++b) x=zbO part b (zbO part a x)
 | [],_,_=>by rw[List.nil_append,zbO]
 |t::a,b,x=>by rw[List.cons_append,zbO,zbO,zgx part a b]
def zdd(s:St)(frm:ByteArray):Parts->Parts×Bool->Rat->(Parts×Bool)×Rat
 | [],x,rest=>(x,rest)
 |p::l,x,rest=>if zdX s p.1 frm then zdd s frm l (zcK p.1 p.2 x) (rest-p.2)else zdd s frm l x rest
def zcl(s:St)(n:ByteArray):ByteArray:=if zdX s (zaK s n) n then zaK s n else⟨#[]⟩
def zch(s:St)(law:Law)(n:ByteArray):Parts×Bool:=
 let y:=zdd s n (zbw s n) ([],false) 1
 let sp:=zcl s n
 let lines:=zb7 s law.stems n (zaX s) n
 if lines.isEmpty then zcK sp y.2 y.1 else
 if noB sp then zcv lines y.2 y.1 else
 zcv lines (y.2-y.2*Rat.divInt law.num law.den) (zcK sp (y.2*Rat.divInt law.num law.den) y.1)
mutual
theorem zf6{part:Rat}:∀ {l:List Tree} {x:Parts×Bool},x.2=true->(zbO part l x).2=true
 | [],x,h=>by rw[zbO];exact h
 |t::l,x,h=>by rw[zbO];exact zf6 (tree_mark h)
theorem tree_mark{part:Rat}:∀ {t:Tree} {x:Parts×Bool},x.2=true->(zdR part t x).2=true
 | .leaf n,x,h=>by rw[zdR];simp[zcK,h]
 | .node l,x,h=>by rw[zdR];exact zf6 (by simp[h])
end
theorem zgy{out:Parts}(h:GoodParts out){n:ByteArray}{f:Rat}(hf:0<=f)(hb:bigQ (zag out n+f)=false):zcK n f (out,false)=(za4 out n f,false):=by
 unfold zcK;simp only[hb,Bool.or_self];rw[znJ h hf hb]
theorem zkt(a:Rat)(n:Nat):a*(1/(n:Rat))=a/(n:Rat):=by
 rw[Rat.div_def,Rat.div_def,Rat.one_mul]
theorem zeB{a:Rat}(h:0<=a)(n:Nat):0<=a*(1/(n:Rat)):=by
 rw[zkt];exact zc8 h Rat.natCast_nonneg
mutual
theorem zhc{each:Rat}(he:0<=each):∀ {l:List Tree} {out:Parts},GoodParts out->zaF out=false->
 (∀o,zbG each l out=some o->zbO each l (out,false)=(o,false))/\(zbG each l out=none->(zbO each l (out,false)).2=true)
 | [],out,hg,hs=>by
   rw[zbG,zbO];exact Mbw
 |t::l,out,hg,hs=>by
  obtain⟨h1,h2⟩:=tree_same he (t:=t) hg hs;rw[zbG,zbO];cases ht:zek each t out with
  |none=>
   refine⟨fun o h=>by(cases h),fun _=>zf6 (h2 ht)⟩
  |some o1=>
   rw[h1 o1 ht];obtain⟨g1,g2⟩:=zif he hg hs ht;exact zhc he g1 g2
theorem tree_same{each:Rat}(he:0<=each):∀ {t:Tree} {out:Parts},GoodParts out->zaF out=false->
 (∀o,zek each t out=some o->zdR each t (out,false)=(o,false))/\(zek each t out=none->(zdR each t (out,false)).2=true)
 | .leaf n,out,hg,hs=>by
   rw[zek,zdR,zfg hg hs he];cases hb:bigQ (zag out n+each)
   ·rw[if_neg Mcp,zgy hg he hb];exact Mbw
   ·rw[if_pos rfl];refine⟨fun o h=>by(cases h),fun _=>by simp[zcK,hb]⟩
 | .node l,out,hg,hs=>by
   rw[zek,zdR,zkt];cases hb:bigQ (each/(l.length:Rat))
   ·rw[if_neg Mcp,zfc hb];exact zhc (zc8 he Rat.natCast_nonneg) hg hs
   ·exact MbO
end
theorem zoA(out:Parts)(n:ByteArray):za4 out n 0=out:=by cases out<;>simp[za4]
theorem zhd{out:Parts}(h:GoodParts out)(hs:zaF out=false)(n:ByteArray):zcK n 0 (out,false)=(out,false):=by
 rw[zgy h Rat.le_refl (by rw[Rat.add_zero];exact zcF n hs),zoA]
theorem zgz(k:Nat):zbh (0*(1/(k:Rat)))=0/\bigQ (0*(1/(k:Rat)))=false:=by
 rw[Rat.zero_mul];exact⟨zfc Mco,by decide⟩
mutual
theorem zhe:∀ {l:List Tree} {out:Parts},GoodParts out->zaF out=false->zbO 0 l (out,false)=(out,false)
 | [],out,_,_=>by rw[zbO]
 |t::l,out,hg,hs=>by rw[zbO,tree_zero hg hs,zhe hg hs]
theorem tree_zero:∀ {t:Tree} {out:Parts},GoodParts out->zaF out=false->zdR 0 t (out,false)=(out,false)
 | .leaf n,out,hg,hs=>by rw[zdR,zhd hg hs]
 | .node l,out,hg,hs=>by
   rw[zdR,(zgz l.length).1,(zgz l.length).2];exact zhe hg hs
end
theorem zfV{l:List Tree}{out:Parts}(hg:GoodParts out)(hs:zaF out=false):zcv l 0 (out,false)=(out,false):=by
 rw[zcv,(zgz l.length).1,(zgz l.length).2];exact zhe hg hs
theorem zg0{s:St}{frm:ByteArray}:∀ {l out:Parts} {rest:Rat},(∀p∈l,0<p.2)->(∀p∈l,IsN 720720 p.2)->GoodParts out->(∀p∈out,IsN 720720 p.2)->
 zdd s frm l (out,false) rest=(((zco s frm l out rest).1,false),(zco s frm l out rest).2)
 | [],out,rest,_,_,_,_=>rfl
 |p::l,out,rest,hp,hN,hg,hn=>by
  have hl:=fun q (hq:q∈l)=>hp q Mdl
  have we:=fun q (hq:q∈l)=>hN q Mdl
  rw[zdd,zco];split
  ·have h0:0<=p.2:=by have:=hp p Mcp;grind
   have aT:=zc9 (nm:=p.1) (hN p Mcp) hn;have hb:bigQ (zag out p.1+p.2)=false:=by
    rw[<-zfg hg (zc1 Mco Mco hn) h0];exact zc1 Mco Mco aT
   rw[zgy hg h0 hb];exact zg0 hl we (zbx h0 hg) aT
  ·exact zg0 hl we hg hn
theorem isN_law{law:Law}(hl:za9 16 law.num law.den=true):(∃d:Nat,0<d/\d<=16/\IsN d (Rat.divInt law.num law.den))/\0<=Rat.divInt law.num law.den/\Rat.divInt law.num law.den<=1:=by
 refine⟨?_,(zbk hl).2.2⟩;have hd:=hl;exact MO
theorem zeu{n:Nat}(h0:0<n)(h1:n<=1000000000){q:Rat}(h:IsN n q):bigQ q=false:=by
 have:=zkk h0 h;unfold bigQ;simp;omega
theorem zfW{s:St}{law:Law}{n:ByteArray}(hw:WillOk (zbw s n))(hl:za9 16 law.num law.den=true):
 (∀o,zcE s law n=some o->(zch s law n)=(o,false))/\(zcE s law n=none->(zch s law n).2=true):=by
 have ic:=zg0 (s:=s) (frm:=n) (rest:=1) hw.pos hw.isN zd6 Mcp;have hg:=zig (s:=s) (frm:=n) (out:=[]) (rest:=1) hw.pos hw.isN hw.le zd6 Mcp (zgY _);unfold zcE zch zcl;rw[ic];generalize zco s n (zbw s n) [] 1=q at*;obtain⟨out,rest⟩:=q;dsimp only at*;obtain⟨g1,g2,g3,g4,g5⟩:=hg;have gs:zaF out=false:=zc1 Mco Mco g2;obtain⟨⟨ld,ld0,ld1,l1⟩,l2,l3⟩:=isN_law hl;generalize Rat.divInt law.num law.den=la at*;generalize(if zdX s (zaK s n) n=true then zaK s n else⟨#[]⟩)=sp at*;generalize zb7 s law.stems n (zaX s) n=tr at*;by_cases hr:rest=0
 ·subst hr;have hz:(0:Rat)-0=0:=McG;simp only[Rat.zero_mul,hz,beq_self_eq_true,if_true];refine⟨fun o h=>?_,fun h=>by cases h⟩;cases h;split
  ·exact zhd g1 gs sp
  ·split
   ·exact zfV g1 gs
   ·rw[zhd g1 gs,zfV g1 gs]
 ·have qg:(rest==0)=false:=by simpa using hr
  have oX:0<rest:=McG;simp only[qg,Bool.false_eq_true,if_false];cases he:tr.isEmpty
  ·simp only[Bool.false_eq_true,if_false];have xd:∀ {x:Parts} {r:Rat},GoodParts x->zaF x=false->0<=r->
    (∀o,(if bigQ (r/(tr.length:Rat))=true then none else zbG (r/(tr.length:Rat)) tr x)=some o->zcv tr r (x,false)=(o,false))/\((if bigQ (r/(tr.length:Rat))=true then none else zbG (r/(tr.length:Rat)) tr x)=none->(zcv tr r (x,false)).2=true):=fun {x r} hx bu cn=>by
    rw[zcv,zkt];cases hb:bigQ (r/(tr.length:Rat))
    ·rw[if_neg Mcp,zfc hb];exact zhc (zc8 cn Rat.natCast_nonneg) hx bu
    ·exact MbO
   cases hn:noB sp
   ·simp only[Bool.false_eq_true,if_false];have iX:0<=rest*la:=Rat.mul_nonneg g4 l2;have kY:rest*la<=rest:=by
     have:=Rat.mul_nonneg g4 (show 0<=1-la by grind);grind
    have hb:bigQ (zag out sp+rest*la)=false:=by
     have h1:IsN (720720*ld) (zag out sp+rest*la):=by
      refine zkh (zld ?_) (zki g3 l1);unfold zag;cases hf:out.find? (fun p=>zae p.1 sp)with
      |none=>exact zkj _
      |some p=>exact g2 p (List.mem_of_find?_eq_some hf)
     exact zeu Mcm Mcm h1
    rw[zgy g1 iX hb];have cw:=zbx (n:=sp) iX g1;have bo:zaF (za4 out sp (rest*la))=false:=by rw[zfg g1 gs iX];exact hb
    by_cases hz:rest-rest*la=0
    ·rw[hz];simp only[beq_self_eq_true,if_true];exact⟨fun o h=>by cases h;exact zfV cw bo,fun h=>by cases h⟩
    ·have jc:(rest-rest*la==0)=false:=Mdy;simp only[jc,Bool.false_eq_true,if_false];exact xd cw bo McG
   ·simp only[if_true];have hz:rest-0=rest:=McG;simp only[hz,qg,Bool.false_eq_true,if_false];exact xd g1 gs g4
  ·simp only[if_true];have hb:bigQ (zag out sp+rest)=false:=by
    rw[<-zfg g1 gs g4];exact zc1 Mco Mco (zc9 g3 g2)
   rw[zgy g1 g4 hb];exact Mbw
theorem zlo{l:Parts}(h:GoodParts l){n:ByteArray}{q:Rat}(m:ByteArray):zag (setP l n q) m=if zae m n then q else zag l m:=by
 have hw:=zbK h (n:=n);have h0:zag (zat l n) n=0:=by rw[zd8,zbX];rfl
 rw[zin h.asc];by_cases hq:q==0
 ·rw[if_pos hq,zd8];have:q=0:=by simpa using hq
  rw[this]
 ·rw[if_neg hq,zil hw,h0,Rat.zero_add];cases hs:zae m n
  ·simp only[Bool.false_eq_true,if_false];rw[zd8,hs];rfl
  ·rfl
theorem eqS_same(a b:ByteArray):eqS a b=zae a b:=rfl
theorem zfi{V:Type}(k:ByteArray)(v:V)(n:ByteArray):∀m:List (ByteArray×V),mget eqS n (mput eqS k v m)=if zae n k then some v else mget eqS n m
 | []=>rfl
 |x::m=>by
  rw[mput];have kW:eqS k x.1=zae k x.1:=rfl;rw[kW];cases hk:zae k x.1
  ·rw[if_neg Mcp,mget,mget,zfi k v n m];have gK:eqS n x.1=zae n x.1:=rfl;rw[gK];cases hn:zae n x.1
   ·simp
   ·have GH:zae n k=false:=by
     rw[zcm];intro e;rw[za2]at hn;rw[zcm]at hk;exact hk (e▸hn)
    simp[GH]
  ·have kW:k=x.1:=za2.1 hk;rw[if_pos rfl,mget,mget];show(if zae n k=true then _ else _)=_;cases hn:zae n k
   ·have:eqS n x.1=false:=by rw[eqS_same,<-kW,hn]
    simp[this]
   ·simp
theorem zg1{V:Type}(k:ByteArray)(v:V):∀m:List (ByteArray×V),(m.map (·.1)).Nodup->((mput eqS k v m).map (·.1)).Nodup/\∀x∈(mput eqS k v m).map (·.1),x=k\/x∈m.map (·.1)
 | [],_=>by simp[mput]
 |x::m,h=>by
  rw[mput];have kW:eqS k x.1=zae k x.1:=rfl;rw[kW];rw[List.map_cons,List.nodup_cons]at h;cases hk:zae k x.1
  ·obtain⟨h1,h2⟩:=zg1 k v m h.2;rw[if_neg Mcp,List.map_cons];refine⟨List.nodup_cons.2 ⟨fun hx=>?_,h1⟩,fun y hy=>?_⟩
   ·rcases h2 _ hx with e|e
    ·rw[e,zbX]at hk;cases hk
    ·exact h.1 e
   ·rcases List.mem_cons.1 hy with rfl|hy
    ·exact .inr Mcp
    ·rcases h2 y hy with e|e
     ·exact .inl e
     ·exact .inr (by simp[e])
  ·have e:k=x.1:=za2.1 hk;rw[if_pos rfl,List.map_cons];refine⟨List.nodup_cons.2 ⟨by rw[e];exact h.1,h.2⟩,fun y hy=>?_⟩;rcases List.mem_cons.1 hy with rfl|hy
   ·exact .inl rfl
   ·exact .inr (by simp[hy])
theorem zcX{V:Type}{n:ByteArray}{v:V}:∀ {m:List (ByteArray×V)},mget eqS n m=some v->(n,v)∈m
 | [],h=>by simp[mget]at h
 |x::m,h=>by
  rw[mget]at h;have gK:eqS n x.1=zae n x.1:=rfl;rw[gK]at h;cases hn:zae n x.1
  ·rw[hn,if_neg Mcp]at h;exact List.mem_cons_of_mem _ (zcX h)
  ·rw[hn,if_pos rfl]at h;have e:=za2.1 hn;simp only[Option.some.injEq]at h;rw[e,<-h];exact List.mem_cons_self
theorem zhI{V:Type}{n:ByteArray}{v:V}:∀ {m:List (ByteArray×V)},(m.map (·.1)).Nodup->(n,v)∈m->mget eqS n m=some v
 | [],_,h=>by simp at h
 |x::m,hd,h=>by
  rw[List.map_cons,List.nodup_cons]at hd;rw[mget];have gK:eqS n x.1=zae n x.1:=rfl;rw[gK];rcases List.mem_cons.1 h with rfl|h
  ·rw[zbX,if_pos rfl]
  ·have ai:zae n x.1=false:=zcm.2 fun e=>hd.1 (by rw[<-e];exact List.mem_map.2 ⟨_,h,rfl⟩)
   rw[ai,if_neg Mcp];exact zhI hd.2 h

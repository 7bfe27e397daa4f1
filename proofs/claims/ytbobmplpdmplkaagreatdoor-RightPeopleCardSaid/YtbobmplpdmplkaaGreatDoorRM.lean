import Derived.Shelf.SlSortCmp.NoneTotal
import Derived.Test.YtbobmplpdmplkaaGreatDoorNI
set_option linter.all false
set_option maxRecDepth 100000
set_option maxHeartbeats 4000000
namespace Go.Proofs.YtbobmplpdmplkaaGreatDoor
attribute [local go_sem] World.cell?_alloc_mark zaf za4 zam za7 zaw zax zay zaz za0 za1 za2
section
section
variable {P:Program} {ops:Array Oper} {md:Region.Mode} {w₀:World}
def fedBy(md:Region.Mode)(ops:Array Oper):Bool:=(List.range ops.size).all fun i=>match ops[i]? with
 |none=>true
 |some o=>o.guard.isNone&&(o.after.all fun e=>!Region.binds md e||decide (e.on<i))&&o.op.operands.toList.all fun x=>match x with
  | .tmp t=>(List.range ops.size).all fun j=>(match ops[j]? with|some oj=>oj.dst != some t||o.after.any (fun e=>Region.binds md e&&e.on==j)|none=>true)
  |_=>true
end
theorem stays(w:World):∃z',w=w.ext z':=⟨⟨#[],w.drawn⟩,by simp[World.ext]⟩
end
section
open Go.RowKit Go.Shelf
def zlB:Go.Shelf.Ren:=⟨fun|6=>184|15=>66|14=>197|28=>104|29=>105|20=>210|21=>211|22=>212|23=>213|24=>214|25=>215|26=>216|27=>217|46=>223|47=>129|48=>130|49=>224|50=>225|57=>226|n=>n,fun|22=>48|24=>71|25=>228|3=>3|39=>128|0=>0|53=>164|55=>166|4=>4|46=>158|45=>157|50=>124|5=>5|9=>9|66=>181|70=>185|76=>206|77=>207|n=>n,fun|n=>n⟩
theorem znV:Go.Proofs.SlLaysF0.n6 Tryz.prog zlB:= {
 mixed:=by kernel_rfl
 f6:=⟨Tryz.f184.name,by decide,Tryz.func184.trans (congrArg some Mcz)⟩
 f14:=⟨Tryz.f197.name,by decide,Tryz.func197.trans (congrArg some Mcz)⟩
 f15:=Tryz.func66.trans (congrArg some Mcz)
 f20:=⟨Tryz.f210.name,by decide,Tryz.func210.trans (congrArg some Mcz)⟩
 f21:=⟨Tryz.f211.name,by decide,Tryz.func211.trans (congrArg some Mcz)⟩
 f22:=⟨Tryz.f212.name,by decide,Tryz.func212.trans (congrArg some Mcz)⟩
 f23:=⟨Tryz.f213.name,by decide,Tryz.func213.trans (congrArg some Mcz)⟩
 f24:=⟨Tryz.f214.name,by decide,Tryz.func214.trans (congrArg some Mcz)⟩
 f25:=⟨Tryz.f215.name,by decide,Tryz.func215.trans (congrArg some Mcz)⟩
 f26:=⟨Tryz.f216.name,by decide,Tryz.func216.trans (congrArg some Mcz)⟩
 f27:=⟨Tryz.f217.name,by decide,Tryz.func217.trans (congrArg some Mcz)⟩
 f28:=Tryz.func104.trans (congrArg some Mcz)
 f29:=Tryz.func105.trans (congrArg some Mcz)
 f46:=⟨Tryz.f223.name,by decide,Tryz.func223.trans (congrArg some Mcz)⟩
 f47:=Tryz.func129.trans (congrArg some Mcz)
 f48:=Tryz.func130.trans (congrArg some Mcz)
 f49:=⟨Tryz.f224.name,by decide,Tryz.func224.trans (congrArg some Mcz)⟩
 f50:=⟨Tryz.f225.name,by decide,Tryz.func225.trans (congrArg some Mcz)⟩
 f57:=⟨Tryz.f226.name,by decide,Tryz.func226.trans (congrArg some Mcz)⟩
 t0:=Tryz.underlying0
 a0:=Tryz.isAgg0
 z0:=Tryz.sizeOf0
 v0:=Tryz.zeroValue0
 t3:=Tryz.underlying3
 a3:=Tryz.isAgg3
 z3:=Tryz.sizeOf3
 v3:=Tryz.zeroValue3
 t4:=Tryz.underlying4
 a4:=Tryz.isAgg4
 z4:=Tryz.sizeOf4
 v4:=Tryz.zeroValue4
 t5:=Tryz.underlying5
 a5:=Tryz.isAgg5
 z5:=Tryz.sizeOf5
 v5:=Tryz.zeroValue5
 t9:=Tryz.underlying9
 a9:=Tryz.isAgg9
 z9:=Tryz.sizeOf9
 v9:=Tryz.zeroValue9
 t22:=Tryz.underlying48
 a22:=Tryz.isAgg48
 z22:=Tryz.sizeOf48
 v22:=Tryz.zeroValue48
 t25:=Tryz.underlying228
 a25:=Tryz.isAgg228
 z25:=Tryz.sizeOf228
 v25:=Tryz.zeroValue228
 t39:=Tryz.underlying128
 a39:=Tryz.isAgg128
 z39:=Tryz.sizeOf128
 v39:=Tryz.zeroValue128
 t45:=Tryz.underlying157
 a45:=Tryz.isAgg157
 z45:=Tryz.sizeOf157
 v45:=Tryz.zeroValue157
 t46:=Tryz.underlying158
 a46:=Tryz.isAgg158
 z46:=Tryz.sizeOf158
 v46:=Tryz.zeroValue158
 t50:=Tryz.underlying124
 a50:=Tryz.isAgg124
 z50:=Tryz.sizeOf124
 v50:=Tryz.zeroValue124
 t53:=Tryz.underlying164
 a53:=Tryz.isAgg164
 z53:=Tryz.sizeOf164
 v53:=Tryz.zeroValue164
 t55:=Tryz.underlying166
 a55:=Tryz.isAgg166
 z55:=Tryz.sizeOf166
 v55:=Tryz.zeroValue166
 t66:=Tryz.underlying181
 a66:=Tryz.isAgg181
 z66:=Tryz.sizeOf181
 v66:=Tryz.zeroValue181
 t70:=Tryz.underlying185
 a70:=Tryz.isAgg185
 z70:=Tryz.sizeOf185
 v70:=Tryz.zeroValue185
 t76:=Tryz.underlying206
 a76:=Tryz.isAgg206
 z76:=Tryz.sizeOf206
 v76:=Tryz.zeroValue206
 t77:=Tryz.underlying207
 a77:=Tryz.isAgg207
 z77:=Tryz.sizeOf207
 v77:=Tryz.zeroValue207}
end
section
open Go.RowKit
def parR(l:List Rec)(n:ByteArray):List ByteArray:=(l.filter fun x=>x.kind==2&&zae x.name n).map (·.other)
theorem ziE(l:List Rec)(x:Rec)(n:ByteArray):parR (l++[x]) n=parR l n++if x.kind==2&&zae x.name n then[x.other]else[]:=by
 unfold parR;simp only[List.filter_append,List.map_append,List.filter_cons,List.filter_nil];cases x.kind==2&&zae x.name n<;>simp
theorem parR_skip{l:List Rec}{x:Rec}(h:¬x.kind=2):parR (l++[x])=parR l:=by
 funext n
 rw[ziE,if_neg (by simp[h]),List.append_nil]
theorem parR_put{l:List Rec}{x:Rec}(h:x.kind=2):parR (l++[x]) x.name=parR l x.name++[x.other]:=by
 rw[ziE,if_pos (by simp[h,zb8])]
theorem zoC{l:List Rec}{x:Rec}{n:ByteArray}(h:zae n x.name=false):parR (l++[x]) n=parR l n:=by
 rw[ziE,if_neg,List.append_nil];intro hc;simp only[Bool.and_eq_true,zau]at hc;rw[hc.2,zb8]at h;cases h
theorem znW(l:List Rec)(n:ByteArray):(parR l n).length<=l.length:=by
 unfold parR;exact MbH
def ziF(l:List Rec)(seen:List ByteArray):Nat:=(l.filter fun x=>x.kind==2&&!seen.any (zae x.name)).length
theorem znX(l:List Rec)(seen:List ByteArray):ziF l seen<=l.length:=List.length_filter_le _ _
theorem zlC{seen:List ByteArray}{n:ByteArray}(h:seen.any (zae n)=false):∀l:List Rec,ziF l (seen++[n])+(parR l n).length=ziF l seen
 | []=>rfl
 |x::l=>by
  have ih:=zlC h l;unfold ziF parR at ih⊢;rw[List.length_map]at ih⊢;simp only[List.filter_cons];by_cases hk:x.kind=2
  ·have e:(x.kind==2)=true:=by simpa using hk
   rw[e];simp only[Bool.true_and,List.any_append,List.any_cons,List.any_nil,Bool.or_false];cases hn:zae x.name n
   ·cases hs:seen.any (zae x.name)
    ·simp only[Bool.or_false,Bool.not_false,if_true,Bool.false_eq_true,if_false,List.length_cons]at ih⊢;exact MaY
    ·simp only[Bool.or_false,Bool.not_true,Bool.false_eq_true,if_false]at ih⊢;exact MaY
   ·have e2:x.name=n:=zau.1 hn;rw[e2,h];simp only[Bool.or_true,Bool.not_true,Bool.false_eq_true,if_false,Bool.not_false,if_true,List.length_cons]at ih⊢;exact MaY
  ·have e:(x.kind==2)=false:=by simpa using hk
   rw[e];simp only[Bool.false_and,Bool.false_eq_true,if_false];simp only[List.any_append,List.any_cons,List.any_nil,Bool.or_false]at ih⊢;exact ih
theorem zoD{l:List Rec}{n x:ByteArray}{q seen:List ByteArray}(h:Searched (Edge l) n (x::q) seen)(hx:x∈seen):Searched (Edge l) n q seen:=by
 refine⟨fun y hy=>h.reach y (hy.imp (List.mem_cons_of_mem x) id),fun y hy=>?_,fun z hz y hy=>?_⟩
 ·rcases h.first y hy with h1|h1
  ·exact .inl h1
  ·rcases List.mem_cons.1 h1 with rfl|h1
   ·exact .inl hx
   ·exact .inr h1
 ·rcases h.closed z hz y hy with h1|h1
  ·exact .inl h1
  ·rcases List.mem_cons.1 h1 with rfl|h1
   ·exact .inl hx
   ·exact .inr h1
theorem zlE{l:List Rec}{n:ByteArray}{q seen:List ByteArray}(h:Searched (Edge l) n (n::q) seen):Circle l:=⟨n,h.reach n (.inl McB)⟩
def Free5(l:List Rec)(n:ByteArray):Prop:= ¬Relation.TransGen (Edge l) n n
abbrev Spot:=ByteArray×Int
def eqSp(a b:Spot):Bool:=zae a.1 b.1&&a.2==b.2
theorem zf3{a b:Spot}:eqSp a b=true↔a=b:=by
 obtain⟨a1,a2⟩:=a;obtain⟨b1,b2⟩:=b;simp[eqSp,zau]
theorem eqSp_refl(a:Spot):eqSp a a=true:=zf3.2 rfl
theorem eqSp_sym(a b:Spot):eqSp a b=eqSp b a:=by rw[Bool.eq_iff_iff,zf3,zf3];exact⟨Eq.symm,Eq.symm⟩
theorem ziG{V:Type}{k n:Spot}{v:V}:∀ {m:List (Spot×V)},mget eqSp n (mput eqSp k v m)=if eqSp n k then some v else mget eqSp n m
 | []=>rfl
 |x::m=>by
  rw[mput];cases hk:eqSp k x.1
  ·simp only[Bool.false_eq_true,if_false];rw[mget,mget,ziG (m:=m)];cases hn:eqSp n x.1
   ·simp
   ·have e:=zf3.1 hn;subst e;rw[eqSp_sym,hk];simp
  ·simp only[if_true];have e:=zf3.1 hk;rw[mget,mget,<-e];cases hn:eqSp n k<;>simp
end
section
open Go.RowKit
def ekSp(s:Spot):Value:=.agg #[.string s.1,.int .i64 s.2]
theorem equal_sp(a:ByteArray)(c:Int)(a':ByteArray)(c':Int)(w:World):(Op.equal 177 (.agg #[.string a,.int .i64 c]) (.agg #[.string a',.int .i64 c'])).run Tryz.prog w=.ok (zae a a'&&c==c') w:=by
 simp only[Op.equal,Op.maxDepth];go_simp
 unfold zae;by_cases h1:a.toList=a'.toList<;>by_cases h2:c=c'<;>simp[h1,h2]
theorem zoF(v:Value)(e:MapEntry)(es:List MapEntry)(fs:Array Field)(i:Nat):Instr.findNow (.struct fs) v (e::es) i=none:=by
 unfold Instr.findNow;cases v<;>simp[Instr.sameNow]
theorem zg3{V:Type}(ev:V->Value)(p:Spot)(w:World):∀(es:List MapEntry) (m:List (Spot×V)),es.map (fun e=>(e.key,e.val))=m.map (fun p=>(ekSp p.1,ev p.2))->∀i,
 (Instr.findAsking 177 (ekSp p) es i).run Tryz.prog w=.ok ((locate eqSp p m i).map fun p=>(p.1,ev p.2)) w
 | [],[],_,_=>by simp[Instr.findAsking,locate]
 | [],_::_,h,_=>by simp at h
 |_::_,[],h,_=>by simp at h
 |e::es,q::m,h,i=>by
  simp only[List.map_cons,List.cons.injEq,Prod.mk.injEq]at h;obtain⟨⟨hk,hv⟩,ht⟩:=h;unfold Instr.findAsking locate;have h1:=equal_sp p.1 p.2 q.1.1 q.1.2 w;have h2:=zg3 ev p w es m ht (i+1);rw[hk,hv];simp only[ekSp]at h1 h2⊢;simp only[Sem.run_bind,h1,Result.andThen_ok];change Sem.run _ (if(eqSp p q.1)=true then _ else _) w=_;cases hq:eqSp p q.1
  ·simpa using h2
  ·simp
theorem zmJ(e:Bool)(p:Spot)(w:World):(Instr.checkKey e 10000 177 (ekSp p)).run Tryz.prog w=.ok () w:=by
 obtain⟨a,c⟩:=p;cases e<;>kernel_rfl
theorem zmK(a:ByteArray)(c:Int):Instr.sameBits 10000 (.agg #[.string a,.int .i64 c]) (.agg #[.string a,.int .i64 c])=true:=by
 have h2:∀n,Instr.sameBits (n+1) (.agg #[.string a,.int .i64 c]) (.agg #[.string a,.int .i64 c])=true:=fun n=>by
  have h:∀n (k:IntKind) (x:Int),Instr.sameBits n (.int k x) (.int k x)=true:=fun n k x=>by cases n<;>simp[Instr.sameBits]
  simp[Instr.sameBits,zgH,beq_toListBytes,h]
 exact h2 9999
theorem znY{V:Type}{t et:TypeId}{ev:V->Value}{z:V}(ht:Tryz.prog.underlying t=some (.map 177 et))(hz:∀w,(zeroValue et).run Tryz.prog w=.ok (ev z) w):MapTy Tryz.prog t 177 et ekSp ev z eqSp where
 ht:=ht
 hz:=hz
 hck:=zmJ
 hfind:=fun k es m h w=>by
  have hu:∃fs,Tryz.prog.underlying 177=some (.struct fs):=⟨_,Tryz.underlying177⟩
  obtain⟨fs,hu⟩:=hu;match es,m,h with
  | [],[],_=>simp[Instr.findKey,run_underlying hu,Instr.findNow,locate]
  | [],_::_,h=>simp at h
  |e::es,m,h=>
   simp only[Instr.findKey,Sem.run_bind,run_underlying hu,Result.andThen_ok,zoF];exact zg3 ev k w (e::es) m h 0
 hsame:=fun k k' h=>by
  have e:=zf3.1 h;subst e;exact zmK k.1 k.2
theorem mapPV:MapTy Tryz.prog 174 177 3 ekSp (fun v:Value=>v) (.int .i64 0) eqSp:=znY Tryz.underlying174 (fun w=>by kernel_rfl)
theorem mapPM:MapTy Tryz.prog 175 177 84 ekSp (fun v:Value=>v) (.map none) eqSp:=znY Tryz.underlying175 (fun w=>by kernel_rfl)
theorem zmL(n:ByteArray)(w:World):(Instr.lookup 84 (.map none) (.string n) false).run Tryz.prog w=.ok (.bool false) w:=by
 kernel_rfl
theorem zjG{K V:Type}{eq:K->K->Bool}{k:K}:∀ {m:List (K×V)} {i j:Nat} {v:V},locate eq k m i=some (j,v)->(m[j-i]?).map (·.2)=some v
 | [],_,_,_,h=>by cases h
 |p::l,i,j,v,h=>by
  unfold locate at h;split at h
  ·simp only[Option.some.injEq,Prod.mk.injEq]at h;obtain⟨rfl,rfl⟩:=h;simp
  ·obtain⟨h1,_⟩:=zdG h;have e:j-i=(j-(i+1))+1:=Mcy;rw[e];simpa using zjG h
theorem zk0{P:Program}{t kt et:TypeId}{K:Type}{ek:K->Value}{z:Value}{eq:K->K->Bool}{w:World}{b:Nat}{m:List (K×Value)}(T:MapTy P t kt et ek (fun v:Value=>v) z eq)(h:MapS w b ek (fun v:Value=>v) m)(k:K):
 ∃w' st j,(Instr.mapEntry t (.map (some b)) (ek k)).run P w=.ok (.tuple #[(mget eq k m).getD z,.int .i64 (st:Nat)]) w'/\StampAt w' b ek (mput eq k ((mget eq k m).getD z) m) j st/\(∀v,(mput eq k ((mget eq k m).getD z) m).set j (k,v)=mput eq k v m)/\((mput eq k ((mget eq k m).getD z) m)[j]?).map (·.1)=some k/\w.grownBy w' (some b)/\w'.heap.size=w.heap.size:=by
 obtain⟨es,c,hh,hm,hb,hn⟩:=h;have h1:=T.hfind k es.toList m hm w;have ae:=(Array.getElem?_eq_some_iff.1 hh).1;have eB:=zfo eq k m 0;cases hl:locate eq k m 0 with
 |none=>
  rw[hl]at eB;rw[<-eB];have hp:=fun v'=>zey hl v'
  refine⟨_,c,m.length,?_,?_,?_,by rw[hp];simp,zgc w b (.map (es.push {key:=ek k,val:=z,born:=c}) (c+1)),by simp⟩
  ·simp[Instr.mapEntry,run_underlying T.ht,zb4 hh,T.hck,h1,hl,T.hz,zei hh,Result.andThen];rfl
  ·refine⟨es.push {key:=ek k,val:=z,born:=c},c+1,by simp[Array.getElem?_setIfInBounds,ae],?_,?_,?_,?_⟩
   ·rw[hp];simp[hm]
   ·intro e he;rw[Array.toList_push]at he;rcases List.mem_append.1 he with he|he
    ·have:=hb e he;omega
    ·rw[List.mem_singleton.1 he];exact Nat.lt_succ_self c
   ·rw[Array.toList_push,List.map_append,List.nodup_append];refine⟨hn,by simp,?_⟩;intro x hx y hy;obtain⟨e,he,rfl⟩:=List.mem_map.1 hx;simp only[List.map_cons,List.map_nil,List.mem_singleton]at hy;have:=hb e he;omega
   ·have ag:es.size=m.length:=by simpa using congrArg List.length hm
    rw[<-ag];simp
  ·intro v;rw[hp,hp,List.set_append_right _ _ (Nat.le_refl _)];simp
 |some p=>
  obtain⟨j,u⟩:=p;rw[hl]at eB;rw[<-eB];have su:=zjG hl;obtain⟨_,q,hq,he,eY⟩:=zdG hl;simp only[Nat.sub_zero]at hq eY su;rw[hq]at su;simp only[Option.map_some,Option.some.injEq]at su;have hj:j<m.length:=(List.getElem?_eq_some_iff.1 hq).1;have ag:es.toList.length=m.length:=by simpa using congrArg List.length hm
  have cA:j<es.size:=by
   have h0:es.size=m.length:=by simpa using ag
   omega
  have mH:(es[j]).key=ek q.1:=by
   have:=congrArg (fun l=>l[j]?) hm;simp[List.getElem?_map,hq,cA]at this;exact this.1
  have fJ:(es[j]).val=u:=by
   have:=congrArg (fun l=>l[j]?) hm;simp[List.getElem?_map,hq,cA]at this;rw[<-su];exact this.2
  have cw:(es.modify j fun e=> {e with key:=ek k}).toList.map (·.born)=es.toList.map (·.born):=by
   apply List.ext_getElem?;intro i;simp only[List.getElem?_map,Array.getElem?_toList,Array.getElem?_modify];by_cases cU:j=i
   ·subst cU;simp[cA,Array.getElem?_eq_getElem cA]
   ·simp[cU]
  refine⟨_,(es[j]).born,j,?_,?_,?_,by rw[eY];simp[hj],zgc w b (.map (es.modify j fun e=> {e with key:=ek k}) c),by simp⟩
  ·simp[Instr.mapEntry,run_underlying T.ht,zb4 hh,T.hck,h1,hl,Instr.keyThatStays,Array.getElem?_eq_getElem cA,mH,T.hsame _ _ he,zei hh,Result.andThen];rfl
  ·rw[Option.map_some,Option.getD_some,eY];refine⟨es.modify j fun e=> {e with key:=ek k},c,by simp[Array.getElem?_setIfInBounds,ae],?_,?_,by rw[cw];exact hn,?_⟩
   ·apply List.ext_getElem?;intro i;have fG:=congrArg (fun l=>l[i]?) hm;simp only[List.getElem?_map,Array.getElem?_toList]at fG;simp only[List.getElem?_map,Array.getElem?_toList,Array.getElem?_modify,List.getElem?_set];by_cases cU:j=i
    ·subst cU;simp[cA,hj,Array.getElem?_eq_getElem cA,fJ]
    ·simp[cU,fG]
   ·intro e he;have h2:e.born∈(es.modify j fun e=> {e with key:=ek k}).toList.map (·.born):=List.mem_map.2 ⟨e,he,rfl⟩;rw[cw]at h2;obtain⟨e',my,jh⟩:=List.mem_map.1 h2;rw[<-jh];exact hb e' my
   ·simp[Array.getElem?_modify,Array.getElem?_eq_getElem cA]
  ·intro v;rw[Option.map_some,Option.getD_some,eY,eY,List.set_set]
theorem StampAt.mapAt{w:World}{b:Nat}{K:Type}{ek:K->Value}{m:List (K×Value)}{j st:Nat}(h:StampAt w b ek m j st):MapAt w b ek (fun v:Value=>v) m:=by
 obtain⟨es,c,h1,h2,_⟩:=h;exact⟨es,c,h1,h2⟩
theorem zjH{α:Type}{p0 p:α}:∀ {l:List α} {i:Nat},l[i]?=some p0->p∈l->p=p0\/p∈l.eraseIdx i
 | [],_,_,h=>by cases h
 |x::l,0,h,hp=>by
  simp only[List.getElem?_cons_zero,Option.some.injEq]at h;rcases List.mem_cons.1 hp with e|hp
  ·exact .inl (e.trans h)
  ·exact .inr hp
 |x::l,i+1,h,hp=>by
  simp only[List.getElem?_cons_succ]at h;rw[List.eraseIdx_cons_succ];rcases List.mem_cons.1 hp with e|hp
  ·exact .inr (by simp[e])
  ·rcases zjH h hp with k|k
   ·exact .inl k
   ·exact .inr (by simp[k])
theorem zoG{α:Type}{l:List α}{k:Nat}(h:k<l.length):l.take (k+1)=l.take k++[l[k]]:=List.take_succ_eq_append_getElem h
theorem ziH{P:Program}{ops:Array Oper}{o:Oper}{a:Act}{w:World}{K:Act->World->Prop}{Q:Exit->Act->World->Prop}{E:Prop}{T:TypeId}(bN:o.guard=none)(x i u:Operand)(ho:o.op=.mapUpdate T x i u)(vx vi vu:Value)(hx:a.eval x=vx)(hi:a.eval i=vi)(hu:a.eval u=vu)(w':World)
 (hrun:(Instr.mapUpdate T vx vi vu).run P w=.ok () w')(h:K (a.put o.dst undef) w'):if Region.wanted o (yielded ops a.tmps)=true then Oper.wp P o a w K Q else E:=by
 exact M8
end
open Go.RowKit

import Derived.Maps.RangeRun
import Derived.Test.YtegdimedhfafjaaGreatDoorM0
set_option linter.all false
set_option maxRecDepth 100000
set_option maxHeartbeats 4000000
namespace Go.Proofs.YtegdimedhfafjaaGreatDoor
section
open Go.RowKit
theorem zfw{a b:Int}(h:0<b):(Rat.divInt a b).num=a/(Int.gcd a b:Int):=by
 rw[Rat.num_divInt,Int.gcd_comm b a,Int.sign_eq_one_of_pos h,Int.one_mul]
theorem zei{a b:Int}(h:0<b):((Rat.divInt a b).den:Int)=b/(Int.gcd a b:Int):=by
 rw[Rat.den_divInt,if_neg (by omega),Int.gcd_comm b a];obtain⟨n,rfl⟩:∃n:Nat,b=n:=⟨b.toNat,by omega⟩
 simp
theorem zej{a g:Int}(h:g∣a):a.tdiv g=a/g:=Int.tdiv_eq_ediv_of_dvd h
def za9(n:Int)(num den:Int):Bool:=(decide (1<=den)&&decide (den<=n))&&(decide (0<=num)&&decide (num<=den))&&Int.gcd num den==1
theorem zbk{n num den:Int}(h:za9 n num den=true):(Rat.divInt num den).num=num/\((Rat.divInt num den).den:Int)=den/\0<=Rat.divInt num den/\Rat.divInt num den<=1:=by
 unfold za9 at h;simp only[Bool.and_eq_true,decide_eq_true_eq,beq_iff_eq]at h;obtain⟨⟨⟨h1,h2⟩,h3,h4⟩,h5⟩:=h;have hb:0<den:=by omega
 have e1:(Rat.divInt num den).num=num:=by rw[zfw hb,h5];simp
 have e2:((Rat.divInt num den).den:Int)=den:=by rw[zei hb,h5];simp
 refine⟨e1,e2,?_,?_⟩
 ·rw[Rat.le_iff,e1];simp;omega
 ·rw[Rat.le_iff,e1,e2];simp;omega
theorem zjt(p q:Rat):p+q=Rat.divInt (p.num*q.den+q.num*p.den) (p.den*q.den):=by
 rw[Rat.add_def'];rfl
theorem zju(p q:Rat):p-q=Rat.divInt (p.num*q.den-q.num*p.den) (p.den*q.den):=by
 rw[Rat.sub_def'];rfl
theorem zgQ(p q:Rat):p*q=Rat.divInt (p.num*q.num) (p.den*q.den):=by
 rw[Rat.mul_def'];rfl
theorem zbW(p:Rat):(0:Int)<p.den:=by have:=p.den_pos;omega
theorem ratI{n:Int}(h:n≠0):(n:Rat)≠0:=fun e=>h (Rat.intCast_inj.1 (by simpa using e))
theorem zjv(p q:Rat)(h:0<q):p/q=Rat.divInt (p.num*q.den) (p.den*q.num):=by
 have hq:0<q.num:=by have:=(Rat.lt_iff 0 q).1 h;simpa using this
 rw[Rat.divInt_eq_div];have h1:p=p.num/(p.den:Int):=by rw[<-Rat.divInt_eq_div,Rat.num_divInt_den]
 have h2:q=q.num/(q.den:Int):=by rw[<-Rat.divInt_eq_div,Rat.num_divInt_den]
 have a1:((p.den:Int):Rat)≠0:=by have:=zbW p;exact ratI (by omega)
 have a2:((q.den:Int):Rat)≠0:=by have:=zbW q;exact ratI (by omega)
 have a3:(q.num:Rat)≠0:=ratI (by omega);conv=>lhs;rw[h1,h2]
 rw[Rat.intCast_mul,Rat.intCast_mul];generalize(p.num:Rat)=x at*;generalize((p.den:Int):Rat)=y at*;generalize(q.num:Rat)=z at*;generalize((q.den:Int):Rat)=t at*;clear h1 h2;grind
structure Rec where
 kind:Int
 name:ByteArray
 other:ByteArray
 place:ByteArray
 day:Int
 til:Int
 num:Int
 den:Int
def Rec.cells(r:Rec):List Value:=[.int .i64 r.kind,.string r.name,.string r.other,.string r.place,.int .i64 r.day,.int .i64 r.til,.int .i64 r.num,.int .i64 r.den]
def zb0(n:Int):Bool:=inR n 0 200000
def noB(s:ByteArray):Bool:=s.toList.isEmpty
def zb1(s:ByteArray):Bool:=noB s||zaS s
def zcr(x:Rec):Int:=
 if !inR x.kind 0 4 then 15 else
 if !zb0 x.day||!zb0 x.til then 2 else
 if !zb1 x.name||!zb1 x.other||!zb1 x.place then 4 else
 if noB x.name||(!noB x.other) != (x.kind==2)||(!noB x.place) != (x.kind==3||x.kind==4)then 3 else
 if(x.kind==2&&x.day != 0)||(x.kind != 4&&x.til != 0)||(x.kind != 3&&(x.num != 0||x.den != 0))then 3 else
 if x.kind==3&&(!inR x.den 1 12||!inR x.num 1 x.den||Int.gcd x.num x.den != 1)then 3 else
 if x.kind==4&&decide (x.til<=x.day)then 9 else 0
def zgj{α:Type}(f:α->Int):List α->Int
 | []=>0
 |x::l=>if f x != 0 then f x else zgj f l
def zfx(l:List Rec):Int:=if decide (40<l.length)then 8 else zgj zcr l
def zae(a b:ByteArray):Bool:=a.toList==b.toList
def zgk(a b:Rec):Bool:=
 if a.kind==1&&b.kind==1 then zae a.name b.name&&a.day != b.day else
 if a.kind==0&&b.kind==1 then zae a.name b.name&&decide (b.day<a.day)else
 if a.kind==1&&(b.kind==3||b.kind==4)then zae a.name b.name&&decide (a.day<b.day)else
 if a.kind==3&&b.kind==3 then zae a.name b.name&&zae a.place b.place&&a.day==b.day&&(a.num != b.num||a.den != b.den)else
 if a.kind==4&&b.kind==4 then !zae a.name b.name&&zae a.place b.place&&decide (max a.day b.day<min a.til b.til)else false
def zbF(a b:Rec):Bool:=if decide (b.kind<a.kind)then zgk b a else zgk a b
def zke:List Rec->Bool
 | []=>false
 |x::l=>l.any (fun y=>zbF y x)||zke l
abbrev Parts:=List (ByteArray×Rat)
structure Law where
 frm:Int
 stems:Bool
 num:Int
 den:Int
structure RPart where
 name:ByteArray
 num:Int
 den:Int
structure Deed where
 kind:Int
 day:Int
 place:ByteArray
 frm:ByteArray
 to:List RPart
 cls:Int
 years:Int
structure Grave where
 place:ByteArray
 cls:Int
 fin:Int
 holders:Parts
 died:List ByteArray
structure St where
 children:List (ByteArray×ByteArray)
 marriages:List (ByteArray×ByteArray)
 dead:List ByteArray
 wills:List (ByteArray×Parts)
 renounce:List (ByteArray×ByteArray)
 graves:List Grave
def Law.cells(x:Law):List Value:=[.int .i64 x.frm,.bool x.stems,.int .i64 x.num,.int .i64 x.den]
def RPart.cells(x:RPart):List Value:=[.string x.name,.int .i64 x.num,.int .i64 x.den]
def zaa(x:ByteArray×Rat):List Value:=[.string x.1,.int .i64 x.2.num,.int .i64 x.2.den]
def zbq(a b:ByteArray):Bool:=Op.bytesLess a.toList b.toList
def zhp(before:Option Int)(x:Law):Int:=
 if !zb0 x.frm then 2 else if !za9 16 x.num x.den then 3 else match before with
  |none=>0
  |some b=>if decide (x.frm<=b)then 9 else 0
def zeW:List Law->Option Int->Int
 | [],_=>0
 |x::l,b=>if zhp b x != 0 then zhp b x else zeW l (some x.frm)
def zaA(l:List Law):Int:=if decide (10<l.length)then 8 else zeW l none
def zmw:Law:=⟨0,false,0,1⟩
def zbb(l:List Law)(day:Int):Law:=(l.filter fun x=>decide (x.frm<=day)).getLast?.getD zmw
def RPart.rat(p:RPart):Rat:=Rat.divInt p.num p.den
def zam(l:List RPart):Parts:=l.map fun p=>(p.name,p.rat)
def sumQ:Parts->Rat
 | []=>0
 |p::l=>p.2+sumQ l
def zcU:List RPart->List ByteArray->Bool
 | [],_=>true
 |p::l,seen=>!seen.any (zae p.name)&&zcU l (p.name::seen)
def zc6(shares all:Bool)(frm:ByteArray)(l:List RPart):Bool:=
 zcU l []&&l.all (fun p=>!zae p.name frm)&&
 (if shares then l.all (fun p=>za9 16 p.num p.den&&p.num != 0)&&decide (sumQ (zam l)<=1)&&(!all||sumQ (zam l)==1)else l.all fun p=>p.num==0&&p.den==0)
def zfP(d:Deed):Bool:=
 (noB d.place != (d.kind==0||d.kind==1||d.kind==2||d.kind==3))&&(noB d.frm==(d.kind==0||d.kind==3))&&
 (d.kind==0||d.cls==0)&&(d.kind==0||d.kind==3||d.years==0)&&!(d.years==0&&(d.kind==3||(d.kind==0&&d.cls==2)))&&
 (if d.kind==0||d.kind==1||d.kind==4 then !d.to.isEmpty&&zc6 true (d.kind==0) d.frm d.to else
  if d.kind==5||d.kind==6||d.kind==7 then d.to.length==1&&zc6 false false d.frm d.to else d.to.isEmpty)
def za3(d:Deed):Int:=
 if !inR d.kind 0 8 then 15 else
 if !zb0 d.day||!inR d.cls 0 4||!inR d.years 0 99 then 2 else
 if decide (8<d.to.length)then 8 else
 if !zb1 d.place||!zb1 d.frm||!d.to.all (fun p=>zaS p.name)then 4 else
 if !zfP d then 3 else 0
def za4:Parts->ByteArray->Rat->Parts
 | [],n,q=>if q==0 then[]else[(n,q)]
 |p::r,n,q=>if q==0 then p::r else if zbq p.1 n then p::za4 r n q else if zae p.1 n then(n,p.2+q)::r else(n,q)::p::r
def zag(l:Parts)(n:ByteArray):Rat:=((l.find? fun p=>zae p.1 n).map (·.2)).getD 0
def zat(l:Parts)(n:ByteArray):Parts:=l.filter fun p=>!zae p.1 n
def bigQ(q:Rat):Bool:=decide (1000000000<(q.den:Int))
def zaF(l:Parts):Bool:=l.any fun p=>bigQ p.2
def zaM(s:St)(n:ByteArray):Bool:=s.dead.any (zae n)
def zai(s:St)(n:ByteArray):List ByteArray:=(s.children.filter fun c=>zae c.1 n).map (·.2)
def zbR(s:St)(n:ByteArray):List ByteArray:=(s.children.filter fun c=>zae c.2 n).map (·.1)
def zaT(g:Grave)(day:Int):Bool:=!g.holders.isEmpty&&(decide (g.fin<0)||decide (day<g.fin))
def zaP(s:St)(place:ByteArray)(day:Int):Option Nat:=s.graves.findIdx? fun g=>zae g.place place&&zaT g day
def zdl(n:ByteArray):List (ByteArray×ByteArray)->ByteArray
 | []=>⟨#[]⟩
 |m::l=>if zae m.1 n then m.2 else if zae m.2 n then m.1 else zdl n l
def zaK(s:St)(n:ByteArray):ByteArray:=if zaM s (zdl n s.marriages.reverse)then⟨#[]⟩else zdl n s.marriages.reverse
def zdX(s:St)(n frm:ByteArray):Bool:=!noB n&&!zae n frm&&!zaM s n&&!s.renounce.any (fun r=>zae r.1 n&&zae r.2 frm)
def Desc(s:St)(a b:ByteArray):Prop:=Relation.TransGen (fun x y=>y∈zai s x) a b
inductive Tree where
 |leaf (n:ByteArray)
 |node (l:List Tree)
def zb7(s:St)(stems:Bool)(frm:ByteArray):Nat->ByteArray->List Tree
 |0,_=>[]
 |f+1,n=>(zai s n).filterMap fun c=>if zdX s c frm then some (.leaf c)else if stems&&!(zb7 s stems frm f c).isEmpty then some (.node (zb7 s stems frm f c))else none
mutual
def zbG(each:Rat):List Tree->Parts->Option Parts
 | [],out=>some out
 |x::l,out=>(zek each x out).bind fun o=>zbG each l o
def zek(each:Rat):Tree->Parts->Option Parts
 | .leaf n,out=>if zaF (za4 out n each)then none else some (za4 out n each)
 | .node l,out=>if bigQ (each/(l.length:Rat))then none else zbG (each/(l.length:Rat)) l out
end
def zco(s:St)(frm:ByteArray):Parts->Parts->Rat->Parts×Rat
 | [],out,rest=>(out,rest)
 |p::l,out,rest=>if zdX s p.1 frm then zco s frm l (za4 out p.1 p.2) (rest-p.2)else zco s frm l out rest
def zbw(s:St)(n:ByteArray):Parts:=((s.wills.reverse.find? fun w=>zae w.1 n).map (·.2)).getD []
def zaX(s:St):Nat:=s.children.length+1
def zcE(s:St)(law:Law)(n:ByteArray):Option Parts:=
 let(out,rest):=zco s n (zbw s n) [] 1
 if rest==0 then some out else
 let sp:=if zdX s (zaK s n) n then zaK s n else⟨#[]⟩
 let lines:=zb7 s law.stems n (zaX s) n
 if lines.isEmpty then some (za4 out sp rest)else
 let own:=if noB sp then 0 else rest*Rat.divInt law.num law.den
 let out2:=if noB sp then out else za4 out sp own
 if rest-own==0 then some out2 else
 if bigQ ((rest-own)/(lines.length:Rat))then none else zbG ((rest-own)/(lines.length:Rat)) lines out2
def zb9(own:Rat):Parts->Parts->Option Parts
 | [],out=>some out
 |p::l,out=>if bigQ (own*p.2)then none else if zaF (za4 out p.1 (own*p.2))then none else zb9 own l (za4 out p.1 (own*p.2))
end
section
open Go.RowKit
def zgR(y:Int):Bool:=(y.tmod 4==0&&y.tmod 100 != 0)||y.tmod 400==0
def lensP:List Int:=[0,31,28,31,30,31,30,31,31,30,31,30,31]
def za6(y m:Int):Int:=if m==2&&zgR y then 29 else lensP.getD m.toNat 0
def zeX(y:Int):Int:=y.tdiv 4-y.tdiv 100+y.tdiv 400
def ze2(y:Int):Nat->Int
 |0=>0
 |k+1=>ze2 y k+za6 y (k+1)
def zaE(y:Int)(m:Nat):Int:=365*(y-1800)+zeX (y-1)-436+ze2 y (m-1)
def zel(day:Int):Nat->Int->Int
 |0,y=>y
 |f+1,y=>if decide (zaE (y+1) 1<=day)then zel day f (y+1)else y
def zdg(day y:Int):Nat->Nat->Nat
 |0,m=>m
 |f+1,m=>if decide (m<12)&&decide (zaE y (m+1)<=day)then zdg day y f (m+1)else m
def zbS(day:Int):Int:=zel day 10 (1800+day.tdiv 366)
def zbf(day:Int):Nat:=zdg day (zbS day) 12 1
def zbU(day months:Int):Int:=
 let y:=zbS day
 let m:=zbf day
 let d:=day-zaE y m+1
 let n:=y*12+m-1+months
 let y2:=n/12
 let m2:=n%12+1
 if !inR y2 1800 2347 then-1 else
 let out:=zaE y2 m2.toNat+min d (za6 y2 m2)-1
 if zb0 out then out else-1
def zce(day years:Int):Int:=zbU day (12*years)
def zdZ(s:St)(l:List RPart):Bool:=l.any fun p=>zaM s p.name
def St.withGrave(s:St)(i:Nat)(g:Grave):St:= {s with graves:=s.graves.set i g}
def zbd(l:List RPart)(out:Parts):Parts:=l.foldl (fun o p=>za4 o p.name p.rat) out
def zcH(s:St)(d:Deed):St×Int:=
 if(zaP s d.place d.day).isSome then(s,13)else
 if zdZ s d.to then(s,28)else
 if decide (0<d.years)&&decide (zce d.day d.years<0)then(s,2)else
 ({s with graves:=s.graves++[⟨d.place,d.cls,if decide (0<d.years)then zce d.day d.years else-1,zbd d.to [],[]⟩]},0)
def zgl:Grave:=⟨⟨#[]⟩,0,0,[],[]⟩
def zbr(s:St)(d:Deed):St×Int:=match zaP s d.place d.day with
 |none=>(s,6)
 |some i=>
  let g:=s.graves.getD i zgl
  let share:=zag g.holders d.frm
  let keeps:=share*(1-sumQ (zam d.to))
  if g.cls==4 then(s,15)else
  if share==0 then(s,19)else
  if zdZ s d.to then(s,28)else
  if bigQ keeps then(s,8)else match zb9 share (zam d.to) (za4 (zat g.holders d.frm) d.frm keeps)with
   |none=>(s,8)
   |some out=>(s.withGrave i {g with holders:=out},0)
def zba(s:St)(d:Deed):St×Int:=match zaP s d.place d.day with
 |none=>(s,6)
 |some i=>
  let g:=s.graves.getD i zgl
  let share:=zag g.holders d.frm
  if share==0 then(s,19)else
  let out:=(zat g.holders d.frm).map fun p=>(p.1,p.2/(1-share))
  if zaF out then(s,8)else(s.withGrave i {g with holders:=out},0)
def zcV(s:St)(d:Deed):St×Int:=match zaP s d.place d.day with
 |none=>(s,6)
 |some i=>
  let g:=s.graves.getD i zgl
  if decide (g.fin<0)then(s,15)else
  if decide (zce g.fin d.years<0)then(s,2)else(s.withGrave i {g with fin:=zce g.fin d.years},0)
def zbg(d:Deed):ByteArray:=(d.to.map (·.name)).getD 0 ⟨#[]⟩
open Classical in
noncomputable def zc7 (s:St) (d:Deed):St×Int:=
 if(zai s d.frm).any (zae (zbg d))then(s,5)else
 if decide (2<=(zbR s (zbg d)).length)then(s,16)else
 if decide (Desc s (zbg d) d.frm)then(s,25)else({s with children:=s.children++[(d.frm,zbg d)]},0)
def zbA(s:St)(d:Deed):St×Int:=
 if zaM s d.frm||zaM s (zbg d)then(s,28)else
 if s.renounce.any (fun r=>zae r.1 d.frm&&zae r.2 (zbg d))then(s,5)else({s with renounce:=s.renounce++[(d.frm,zbg d)]},0)
def zdn(s:St)(d:Deed):St×Int:=
 if zaM s d.frm||zaM s (zbg d)then(s,28)else
 if !noB (zaK s d.frm)||!noB (zaK s (zbg d))then(s,13)else({s with marriages:=s.marriages++[(d.frm,zbg d)]},0)
def zdo(s:St)(n:ByteArray)(day:Int)(i:Nat)(g:Grave):Bool:=zag g.holders n != 0&&zaP s g.place day==some i
def zb2(s:St)(n:ByteArray)(day:Int)(bB:Option Parts):Nat->List Grave->Option (List Grave)
 |_,[]=>some []
 |i,g::l=>
  if zdo s n day i g then(match bB with
   |none=>none
   |some h=>(zb9 (zag g.holders n) h (zat g.holders n)).bind fun out=>(zb2 s n day bB (i+1) l).map fun r=> {g with holders:=out,died:=g.died++[n]}::r)
  else(zb2 s n day bB (i+1) l).map fun r=>g::r
def zdJ(laws:List Law)(s:St)(d:Deed):St×Int:=
 if zaM s d.frm then(s,28)else match zb2 s d.frm d.day (zcE s (zbb laws d.day) d.frm) 0 s.graves with
  |none=>(s,8)
  |some gs=>({s with graves:=gs,dead:=s.dead++[d.frm]},0)
def zgS(s:St)(d:Deed):St×Int:=if zaM s d.frm then(s,28)else({s with wills:=s.wills++[(d.frm,zam d.to)]},0)
noncomputable def zbp (laws:List Law) (s:St) (d:Deed):St×Int:=
 if d.kind==0 then zcH s d else if d.kind==1 then zbr s d else if d.kind==2 then zba s d else if d.kind==3 then zcV s d else
 if d.kind==4 then zgS s d else if d.kind==5 then zbA s d else if d.kind==6 then zc7 s d else if d.kind==7 then zdn s d else zdJ laws s d
def zb3:St:=⟨[],[],[],[],[],[]⟩
noncomputable def zbT (laws:List Law) (s:St) (count:Nat) (last:Int) (d:Deed):St×Int:=
 if za3 d != 0 then(s,za3 d)else if decide (60<=count)then(s,8)else if decide (d.day<last)then(s,9)else zbp laws s d
noncomputable def zaU (laws:List Law) (upto:Int):List Deed->St->St->Nat->Int->St×Nat×Int
 | [],_,told,k,_=>(told,k,0)
 |d::l,s,told,k,last=>
  if(zbT laws s k last d).2 != 0 then(told,k,(zbT laws s k last d).2)else
  zaU laws upto l (zbT laws s k last d).1 (if decide (d.day<=upto)then(zbT laws s k last d).1 else told) (k+1) d.day
noncomputable def zaQ (laws:List Law) (ds:List Deed) (upto:Int):St×Nat×Int:=
 if zaA laws != 0 then(zb3,0,zaA laws)else zaU laws upto ds zb3 zb3 0 0
end
section
open Go.RowKit
open Go.ChangeMaps (setBlock)
theorem zjw:∀ {L:List MapEntry} {i:Nat} {e:MapEntry},L[i]?=some e->(L.map (·.born)).Nodup->L.filter (fun x=>!(x.born==e.born))=L.eraseIdx i
 | [],i,e,h,_=>by simp at h
 |x::L,0,e,h,hn=>by
  rw[List.map_cons,List.nodup_cons]at hn;simp only[List.getElem?_cons_zero,Option.some.injEq]at h;subst h;rw[List.filter_cons,if_neg (by simp),List.eraseIdx_cons_zero,List.filter_eq_self];intro y hy;have:y.born≠x.born:=fun e=>hn.1 (List.mem_map.2 ⟨y,hy,e⟩)
  simpa using this
 |x::L,i+1,e,h,hn=>by
  rw[List.map_cons,List.nodup_cons]at hn;simp only[List.getElem?_cons_succ]at h;have nO:x.born≠e.born:=fun e'=>hn.1 (by rw[e'];exact List.mem_map.2 ⟨e,List.mem_of_getElem? h,rfl⟩)
  rw[List.filter_cons,if_pos (by simpa using nO),List.eraseIdx_cons_succ,zjw h hn.2]
theorem zhW{α β:Type}(f:α->β):∀(l:List α) (i:Nat),(l.eraseIdx i).map f=(l.map f).eraseIdx i
 | [],_=>rfl
 |x::l,0=>rfl
 |x::l,i+1=>by
  rw[List.eraseIdx_cons_succ,List.map_cons,List.map_cons,List.eraseIdx_cons_succ,zhW f l i]
def MapS(w:World)(b:Nat){K V:Type}(ek:K->Value)(ev:V->Value)(m:List (K×V)):Prop:=
 ∃(es:Array MapEntry) (clock:Nat),w.heap[b]?=some (.map es clock)/\es.toList.map (fun e=>(e.key,e.val))=m.map (fun p=>(ek p.1,ev p.2))/\(∀e∈es.toList,e.born<clock)/\(es.toList.map (·.born)).Nodup
section
variable {P:Program} {t kt et:TypeId} {K V:Type} {ek:K->Value} {ev:V->Value} {z:V} {eq:K->K->Bool} {w:World} {b:Nat} {m:List (K×V)}
theorem MapS.at(h:MapS w b ek ev m):MapAt w b ek ev m:=by
 obtain⟨es,c,h1,h2,_,_⟩:=h;exact⟨es,c,h1,h2⟩
theorem MapS.keep{w':World}(h:MapS w b ek ev m)(hk:w'.heap[b]?=w.heap[b]?):MapS w' b ek ev m:=by
 obtain⟨es,c,h1,h2⟩:=h;exact⟨es,c,hk.trans h1,h2⟩
theorem MapS.below{w':World}{n:Nat}(h:MapS w b ek ev m)(hB:Below n w w')(hn:w.heap.size<=n:=by first|exact Nat.le_refl _|omega):MapS w' b ek ev m:=h.keep (hB.block b (Nat.lt_of_lt_of_le h.at.lt hn))
theorem MapS.grown{w':World}{row:Option Nat}(h:MapS w b ek ev m)(hg:w.grownBy w' row)(ai:some b≠row):MapS w' b ek ev m:=h.keep (hg.block b h.at.lt ai)
theorem MapS.new(w:World):MapS (w.alloc (.map #[] 0)) w.heap.size ek ev ([]:List (K×V)):=⟨#[],0,heap_alloc_new w _,rfl,by simp,by simp⟩
theorem zcs(T:MapTy P t kt et ek ev z eq)(h:MapS w b ek ev m)(k:K)(v:V):
 ∃w',(Instr.mapUpdate t (.map (some b)) (ek k) (ev v)).run P w=.ok () w'/\MapS w' b ek ev (mput eq k v m)/\w.grownBy w' (some b)/\w'.heap.size=w.heap.size:=by
 obtain⟨es,c,hh,hm,hb,hn⟩:=h;have h1:=T.hfind k es.toList m hm w;have aa:=(Array.getElem?_eq_some_iff.1 hh).1;have iI:∀es' c',((setObj b (.map es' c')).run P w)=.ok () {w with heap:=w.heap.setIfInBounds b (.map es' c')}:=fun es' c'=>by
  simp[setObj,Sem.run,hh]
 have dK:∀es' c',w.grownBy {w with heap:=w.heap.setIfInBounds b (.map es' c')} (some b):=fun es' c'=>
  ⟨rfl,rfl,rfl,by simp,fun i hi ai=>by
    have:b≠i:=fun e=>ai (by rw[e])
    simp[Array.getElem?_setIfInBounds,this]⟩
 cases hl:locate eq k m 0 with
 |none=>
  refine⟨_,?_,?_,dK (es.push {key:=ek k,val:=ev v,born:=c}) (c+1),by simp⟩
  ·simp[Instr.mapUpdate,run_underlying T.ht,zb8 hh,T.hck,h1,hl,iI]
  ·refine⟨es.push {key:=ek k,val:=ev v,born:=c},c+1,by simp[Array.getElem?_setIfInBounds,aa],?_,?_,?_⟩
   ·rw[ze1 hl];simp[hm]
   ·intro e he;rw[Array.toList_push]at he;rcases List.mem_append.1 he with he|he
    ·have:=hb e he;omega
    ·rw[List.mem_singleton.1 he];exact Nat.lt_succ_self c
   ·rw[Array.toList_push,List.map_append,List.nodup_append];refine⟨hn,by simp,?_⟩;intro x hx y hy;obtain⟨e,he,rfl⟩:=List.mem_map.1 hx;simp only[List.map_cons,List.map_nil,List.mem_singleton]at hy;have:=hb e he;omega
 |some p=>
  obtain⟨j,u⟩:=p;obtain⟨_,q,hq,he,eX⟩:=zdI hl;simp only[Nat.sub_zero]at hq eX;have hj:j<m.length:=(List.getElem?_eq_some_iff.1 hq).1;have ag:es.toList.length=m.length:=by simpa using congrArg List.length hm
  have cy:j<es.size:=by
   have h0:es.size=m.length:=by simpa using ag
   omega
  have mE:(es[j]).key=ek q.1:=by
   have:=congrArg (fun l=>l[j]?) hm;simp[List.getElem?_map,hq,cy]at this;exact this.1
  have cv:(es.modify j fun e=> {e with key:=ek k,val:=ev v}).toList.map (·.born)=es.toList.map (·.born):=by
   apply List.ext_getElem?;intro i;simp only[List.getElem?_map,Array.getElem?_toList,Array.getElem?_modify];by_cases cQ:j=i
   ·subst cQ;simp[cy,Array.getElem?_eq_getElem cy]
   ·simp[cQ]
  refine⟨_,?_,?_,dK (es.modify j fun e=> {e with key:=ek k,val:=ev v}) c,by simp⟩
  ·simp[Instr.mapUpdate,run_underlying T.ht,zb8 hh,T.hck,h1,hl,Instr.keyThatStays,Array.getElem?_eq_getElem cy,mE,T.hsame _ _ he,iI]
  ·refine⟨es.modify j fun e=> {e with key:=ek k,val:=ev v},c,by simp[Array.getElem?_setIfInBounds,aa],?_,?_,by rw[cv];exact hn⟩
   ·rw[eX];apply List.ext_getElem?;intro i;have fH:=congrArg (fun l=>l[i]?) hm;simp only[List.getElem?_map,Array.getElem?_toList]at fH;simp only[List.getElem?_map,Array.getElem?_toList,Array.getElem?_modify,List.getElem?_set];by_cases cQ:j=i
    ·subst cQ;simp[cy,hj,Array.getElem?_eq_getElem cy]
    ·simp[cQ,fH]
   ·intro e he;have h2:e.born∈(es.modify j fun e=> {e with key:=ek k,val:=ev v}).toList.map (·.born):=List.mem_map.2 ⟨e,he,rfl⟩;rw[cv]at h2;obtain⟨e',mq,js⟩:=List.mem_map.1 h2;rw[<-js];exact hb e' mq
def RangeAt(w:World)(b r:Nat){K V:Type}(ek:K->Value)(ev:V->Value)(m left:List (K×V)):Prop:=
 ∃(es:Array MapEntry) (clock since:Nat) (seen:Array Nat) (c0:Nat),w.heap[b]?=some (.map es clock)/\es.toList.map (fun e=>(e.key,e.val))=m.map (fun p=>(ek p.1,ev p.2))/\(∀e∈es.toList,e.born<since)/\(es.toList.map (·.born)).Nodup/\
  w.heap[r]?=some (.mapIter (some b) since seen c0)/\since<=c0/\since<=clock/\(leftOf es seen).toList.map (fun e=>(e.key,e.val))=left.map (fun p=>(ek p.1,ev p.2))
theorem RangeAt.mapS{r:Nat}{left:List (K×V)}(h:RangeAt w b r ek ev m left):MapS w b ek ev m:=by
 obtain⟨es,clock,since,seen,c0,h1,h2,h3,h4,_,_,h7,_⟩:=h;exact⟨es,clock,h1,h2,fun e he=>Nat.lt_of_lt_of_le (h3 e he) h7,h4⟩
theorem RangeAt.lt{r:Nat}{left:List (K×V)}(h:RangeAt w b r ek ev m left):r<w.heap.size/\b≠r:=by
 obtain⟨es,clock,since,seen,c0,h1,_,_,_,h5,_⟩:=h;refine⟨(Array.getElem?_eq_some_iff.1 h5).1,fun e=>?_⟩;rw[e,h5]at h1;cases h1
theorem RangeAt.grown{w':World}{row:Option Nat}{r:Nat}{left:List (K×V)}(h:RangeAt w b r ek ev m left)(hg:w.grownBy w' row)(hb:some b≠row)(hr:some r≠row):RangeAt w' b r ek ev m left:=by
 have h1:=h.mapS.at.lt;have h2:=h.lt.1;obtain⟨es,clock,since,seen,c0,k1,k2,k3,k4,k5,rest⟩:=h;exact⟨es,clock,since,seen,c0,(hg.block b h1 hb).trans k1,k2,k3,k4,(hg.block r h2 hr).trans k5,rest⟩
theorem RangeAt.below{w':World}{n r:Nat}{left:List (K×V)}(h:RangeAt w b r ek ev m left)(hB:Below n w w')(hn:w.heap.size<=n:=by first|exact Nat.le_refl _|omega):RangeAt w' b r ek ev m left:=by
 have h1:=h.mapS.at.lt;have h2:=h.lt.1;obtain⟨es,clock,since,seen,c0,k1,k2,k3,k4,k5,rest⟩:=h;exact⟨es,clock,since,seen,c0,(hB.block b (Nat.lt_of_lt_of_le h1 hn)).trans k1,k2,k3,k4,(hB.block r (Nat.lt_of_lt_of_le h2 hn)).trans k5,rest⟩
theorem zjx(h:MapS w b ek ev m){e:TypeId}(ht:P.underlying t=some (.map kt e)):
 (Instr.range t (.map (some b))).run P w=.ok (.pointer (some ⟨w.heap.size,0,none⟩)) (w.alloc (.mapIter (some b) (h.choose_spec.choose) #[] (h.choose_spec.choose)))/\
   RangeAt (w.alloc (.mapIter (some b) (h.choose_spec.choose) #[] (h.choose_spec.choose))) b w.heap.size ek ev m m:=by
 have hs:=h.choose_spec.choose_spec;generalize h.choose_spec.choose=c at*;generalize h.choose=es at*;obtain⟨h1,h2,h3,h4⟩:=hs;refine⟨run_range_map w t kt e b es c ht h1,es,c,c,#[],c,(Below.heap_alloc w _ b (Array.getElem?_eq_some_iff.1 h1).1).trans h1,h2,h3,h4,heap_alloc_new w _,Nat.le_refl _,Nat.le_refl _,?_⟩;rw[<-h2];congr 1
 simp[leftOf]
theorem zkX{r:Nat}{left:List (K×V)}(h:RangeAt w b r ek ev m left)(ty:TypeId):
 (left=[]/\(Instr.next (.pointer (some ⟨r,0,none⟩)) false ty).run P w=.ok (.tuple #[.bool false]) w)\/
 ∃(i:Nat) (p:K×V) (w':World),left[i]?=some p/\(Instr.next (.pointer (some ⟨r,0,none⟩)) false ty).run P w=.ok (.tuple #[.bool true,ek p.1,ev p.2]) w'/\RangeAt w' b r ek ev m (left.eraseIdx i)/\w.grownBy w' (some r)/\w'.heap.size=w.heap.size/\
  (Instr.entry (.pointer (some ⟨r,0,none⟩))).run P w'=.ok (.tuple #[ek p.1,ev p.2]) w':=by
 have nE:=h.lt.2;obtain⟨es,clock,since,seen,c0,k1,k2,k3,k4,k5,k6,k7,k8⟩:=h;rcases run_next_at (P:=P) w ty r b since c0 seen es clock k5 k1 k3 k6 with⟨h0,hrun⟩|⟨e,he,w1,jI,hrun⟩
 ·refine .inl ⟨?_,hrun⟩;have hl:(leftOf es seen).toList.length=left.length:=by simpa using congrArg List.length k8
  rw[Array.length_toList,h0]at hl;exact List.eq_nil_of_length_eq_zero hl.symm
 ·refine .inr ?_;obtain⟨i,hi,Ar⟩:=List.mem_iff_getElem.1 he;have hl:(leftOf es seen).toList.length=left.length:=by simpa using congrArg List.length k8
  have eU:i<left.length:=by omega
  have oN:(e.key,e.val)=(ek (left[i]).1,ev (left[i]).2):=by
   have:=congrArg (fun l=>l[i]?) k8;simp only[List.getElem?_map,List.getElem?_eq_getElem hi,List.getElem?_eq_getElem eU,Option.map_some,Option.some.injEq,Ar]at this;exact this
  simp only[Prod.mk.injEq]at oN;have jx:e∈es.toList:=by
   unfold leftOf at he;simp at he⊢;exact he.1
  have aU:(setBlock w1 r (.mapIter (some b) since (seen.push e.born) clock)).heap[b]?=some (.map es clock):=by
   rcases jI with rfl|rfl<;>(simp only[setBlock];rw[Array.getElem?_setIfInBounds_ne (fun e=>nE e.symm)];exact k1)
  have DX:=(Array.getElem?_eq_some_iff.1 k5).1;have fJ:(setBlock w1 r (.mapIter (some b) since (seen.push e.born) clock)).heap[r]?=some (.mapIter (some b) since (seen.push e.born) clock):=by
   rcases jI with rfl|rfl<;>(simp only[setBlock];exact Array.getElem?_setIfInBounds_self_of_lt DX)
  refine⟨i,left[i],_,List.getElem?_eq_getElem eU,by rw[<-oN.1,<-oN.2];exact hrun,⟨es,clock,since,seen.push e.born,clock,aU,k2,k3,k4,fJ,k7,k7,?_⟩,?_,?_,?_⟩
  ·
   have hn:((leftOf es seen).toList.map (·.born)).Nodup:=by
    unfold leftOf;rw[Array.toList_filter];exact List.Nodup.sublist (List.Sublist.map _ List.filter_sublist) k4
   have e1:(leftOf es (seen.push e.born)).toList=(leftOf es seen).toList.eraseIdx i:=by
    have e2:(leftOf es (seen.push e.born)).toList=(leftOf es seen).toList.filter fun x=>!(x.born==e.born):=by
     unfold leftOf;rw[Array.toList_filter,Array.toList_filter,List.filter_filter];congr 1
     funext x
     rw[Bool.eq_iff_iff];simp[Array.contains_push,and_comm]
    rw[e2];exact zjw (by rw[List.getElem?_eq_getElem hi,Ar]) hn
   rw[e1,zhW,k8,zhW]
  ·rcases jI with rfl|rfl
   ·exact⟨rfl,rfl,rfl,by simp[setBlock],fun k hk ai=>by simp only[setBlock];rw[Array.getElem?_setIfInBounds_ne (fun e=>ai (by rw[e]))]⟩
   ·exact⟨rfl,rfl,rfl,by simp[setBlock],fun k hk ai=>by simp only[setBlock];rw[Array.getElem?_setIfInBounds_ne (fun e=>ai (by rw[e]))];rfl⟩
  ·rcases jI with rfl|rfl<;>simp[setBlock]
  ·rw[<-oN.1,<-oN.2];exact run_entry_at (P:=P) _ r b since seen es clock e fJ aU jx k4
end
end
section
variable {P:Program} {t kt et:TypeId} {K:Type} {ek:K->Value} {z:Value} {eq:K->K->Bool} {w:World} {b:Nat} {m:List (K×Value)}
def StampAt(w:World)(b:Nat){K:Type}(ek:K->Value)(m:List (K×Value))(j st:Nat):Prop:=
 ∃es c,w.heap[b]?=some (.map es c)/\es.toList.map (fun e=>(e.key,e.val))=m.map (fun p=>(ek p.1,p.2))/\(∀e∈es.toList,e.born<c)/\(es.toList.map (·.born)).Nodup/\(es[j]?).map (·.born)=some st
theorem zgm(w:World)(b:Nat)(o:Obj):w.grownBy {w with heap:=w.heap.setIfInBounds b o} (some b):=
 ⟨rfl,rfl,rfl,by simp,fun i hi ai=>by
   have:b≠i:=fun e=>ai (by rw[e])
   simp[Array.getElem?_setIfInBounds,this]⟩
theorem zem{w:World}{b:Nat}{es es':Array MapEntry}{c c':Nat}(h:w.heap[b]?=some (.map es c)):((setObj b (.map es' c')).run P w)=.ok () {w with heap:=w.heap.setIfInBounds b (.map es' c')}:=by
 simp[setObj,Sem.run,h]
theorem zgn(T:MapTy P t kt et ek (fun v:Value=>v) z eq)(h:MapS w b ek (fun v:Value=>v) m)(k:K):
 ∃w' x st m' j,(Instr.mapEntry t (.map (some b)) (ek k)).run P w=.ok (.tuple #[x,.int .i64 (st:Nat)]) w'/\StampAt w' b ek m' j st/\(∀v,m'.set j (k,v)=mput eq k v m)/\(m'[j]?).map (·.1)=some k/\w.grownBy w' (some b)/\w'.heap.size=w.heap.size:=by
 obtain⟨es,c,hh,hm,hb,hn⟩:=h;have h1:=T.hfind k es.toList m hm w;have aa:=(Array.getElem?_eq_some_iff.1 hh).1;cases hl:locate eq k m 0 with
 |none=>
  refine⟨_,z,c,m++[(k,z)],m.length,?_,?_,?_,by simp,zgm w b (.map (es.push {key:=ek k,val:=z,born:=c}) (c+1)),by simp⟩
  ·simp[Instr.mapEntry,run_underlying T.ht,zb8 hh,T.hck,h1,hl,T.hz,zem hh,Result.andThen];rfl
  ·refine⟨es.push {key:=ek k,val:=z,born:=c},c+1,by simp[Array.getElem?_setIfInBounds,aa],?_,?_,?_,?_⟩
   ·simp[hm]
   ·intro e he;rw[Array.toList_push]at he;rcases List.mem_append.1 he with he|he
    ·have:=hb e he;omega
    ·rw[List.mem_singleton.1 he];exact Nat.lt_succ_self c
   ·rw[Array.toList_push,List.map_append,List.nodup_append];refine⟨hn,by simp,?_⟩;intro x hx y hy;obtain⟨e,he,rfl⟩:=List.mem_map.1 hx;simp only[List.map_cons,List.map_nil,List.mem_singleton]at hy;have:=hb e he;omega
   ·have ag:es.size=m.length:=by simpa using congrArg List.length hm
    rw[<-ag];simp
  ·intro v;rw[ze1 hl,List.set_append_right _ _ (Nat.le_refl _)];simp
 |some p=>
  obtain⟨j,u⟩:=p;obtain⟨_,q,hq,he,eX⟩:=zdI hl;simp only[Nat.sub_zero]at hq eX;have hj:j<m.length:=(List.getElem?_eq_some_iff.1 hq).1;have ag:es.size=m.length:=by simpa using congrArg List.length hm
  have cy:j<es.size:=by omega
  have mE:(es[j]).key=ek q.1:=by
   have:=congrArg (fun l=>l[j]?) hm;simp[List.getElem?_map,hq,cy]at this;exact this.1
  have gU:(es[j]).val=q.2:=by
   have:=congrArg (fun l=>l[j]?) hm;simp[List.getElem?_map,hq,cy]at this;exact this.2
  have cv:(es.modify j fun e=> {e with key:=ek k}).toList.map (·.born)=es.toList.map (·.born):=by
   apply List.ext_getElem?;intro i;simp only[List.getElem?_map,Array.getElem?_toList,Array.getElem?_modify];by_cases cQ:j=i
   ·subst cQ;simp[cy,Array.getElem?_eq_getElem cy]
   ·simp[cQ]
  refine⟨_,u,(es[j]).born,m.set j (k,q.2),j,?_,?_,?_,by simp[hj],zgm w b (.map (es.modify j fun e=> {e with key:=ek k}) c),by simp⟩
  ·simp[Instr.mapEntry,run_underlying T.ht,zb8 hh,T.hck,h1,hl,Instr.keyThatStays,Array.getElem?_eq_getElem cy,mE,T.hsame _ _ he,zem hh,Result.andThen];rfl
  ·refine⟨es.modify j fun e=> {e with key:=ek k},c,by simp[Array.getElem?_setIfInBounds,aa],?_,?_,by rw[cv];exact hn,?_⟩
   ·apply List.ext_getElem?;intro i;have fH:=congrArg (fun l=>l[i]?) hm;simp only[List.getElem?_map,Array.getElem?_toList]at fH;simp only[List.getElem?_map,Array.getElem?_toList,Array.getElem?_modify,List.getElem?_set];by_cases cQ:j=i
    ·subst cQ;simp[cy,hj,Array.getElem?_eq_getElem cy,gU]
    ·simp[cQ,fH]
   ·intro e he;have h2:e.born∈(es.modify j fun e=> {e with key:=ek k}).toList.map (·.born):=List.mem_map.2 ⟨e,he,rfl⟩;rw[cv]at h2;obtain⟨e',mq,js⟩:=List.mem_map.1 h2;rw[<-js];exact hb e' mq
   ·simp[Array.getElem?_modify,Array.getElem?_eq_getElem cy]
  ·intro v;rw[eX,List.set_set]
theorem zdK{j st:Nat}{k:K}(h:StampAt w b ek m j st)(hk:(m[j]?).map (·.1)=some k)(t:TypeId)(v:Value):
 ∃w',(Instr.entryStore t (.map (some b)) (.int .i64 (st:Nat)) v).run P w=.ok () w'/\MapS w' b ek (fun v:Value=>v) (m.set j (k,v))/\w.grownBy w' (some b)/\w'.heap.size=w.heap.size:=by
 obtain⟨es,c,hh,hm,hb,hn,aj⟩:=h;have aa:=(Array.getElem?_eq_some_iff.1 hh).1;have ag:es.size=m.length:=by simpa using congrArg List.length hm
 have cy:j<es.size:=by
  by_cases h:j<es.size
  ·exact h
  ·rw[Array.getElem?_eq_none (by omega)]at aj;cases aj
 have hj:j<m.length:=by omega
 rw[Array.getElem?_eq_getElem cy]at aj;simp only[Option.map_some,Option.some.injEq]at aj;have Am:es.findIdx? (fun e=>(e.born:Int)==(st:Int))=some j:=by
  rw[Array.findIdx?_eq_some_iff_getElem];refine⟨cy,by simp[aj],fun i hi h=>?_⟩;have Ar:i<es.size:=by omega
  have h3:es[i].born=es[j].born:=by
   rw[aj];simp only[beq_iff_eq]at h;exact Int.ofNat_inj.1 h
  have h4:=(List.nodup_iff_pairwise_ne.1 hn)
  rw[List.pairwise_iff_getElem]at h4;have:=h4 i j (by simpa using Ar) (by simpa using cy) hi;simp at this;exact this h3
 have cv:(es.modify j fun e=> {e with val:=v}).toList.map (·.born)=es.toList.map (·.born):=by
  apply List.ext_getElem?;intro i;simp only[List.getElem?_map,Array.getElem?_toList,Array.getElem?_modify];by_cases cQ:j=i
  ·subst cQ;simp[cy,Array.getElem?_eq_getElem cy]
  ·simp[cQ]
 refine⟨_,?_,?_,zgm w b (.map (es.modify j fun e=> {e with val:=v}) c),by simp⟩
 ·simp[Instr.entryStore,zb8 hh,asInt,asIntOf,Am,zem hh,Result.andThen]
 ·refine⟨es.modify j fun e=> {e with val:=v},c,by simp[Array.getElem?_setIfInBounds,aa],?_,?_,by rw[cv];exact hn⟩
  ·apply List.ext_getElem?;intro i;have fH:=congrArg (fun l=>l[i]?) hm;simp only[List.getElem?_map,Array.getElem?_toList]at fH;simp only[List.getElem?_map,Array.getElem?_toList,Array.getElem?_modify,List.getElem?_set];by_cases cQ:j=i
   ·subst cQ;rw[List.getElem?_eq_getElem hj]at hk fH;simp only[Option.map_some,Option.some.injEq]at hk;simp[cy,hj,Array.getElem?_eq_getElem cy,hk]at fH⊢;exact fH.1
   ·simp[cQ,fH]
  ·intro e he;have h2:e.born∈(es.modify j fun e=> {e with val:=v}).toList.map (·.born):=List.mem_map.2 ⟨e,he,rfl⟩;rw[cv]at h2;obtain⟨e',mq,js⟩:=List.mem_map.1 h2;rw[<-js];exact hb e' mq
end

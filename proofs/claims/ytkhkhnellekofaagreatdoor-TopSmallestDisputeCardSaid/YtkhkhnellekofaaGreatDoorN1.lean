/- Chapter 5 in plain words: records, and when they contradict each other. -/
import Derived.RowKit3
set_option linter.unusedSimpArgs false
set_option linter.unusedVariables false
namespace Go.Proofs.YtkhkhnellekofaaGreatDoor
open Go.RowKit
structure Lot where
 remain:ByteArray
 state:Int
 site:ByteArray
 level:Int
 container:Int
 since:Int
structure Stay where
 lot:Lot
 till:Int
def inR (n lo hi:Int):Bool:=decide (lo<=n)&&decide (n<=hi)
def bytesI (s:ByteArray):List Int:=s.data.toList.map fun b=>(b.toNat:Int)
theorem bytesI_len (s:ByteArray):(bytesI s).length=s.size:=by simp[bytesI]
theorem bytesI_drop (s:ByteArray) (k:Nat) (h:k<s.data.size):(bytesI s).drop k=((s.data[k].toNat:Int))::(bytesI s).drop (k+1):=by
 rw[List.drop_eq_getElem_cons (by simpa[bytesI]using h)]
 simp[bytesI]
def digitI (c:Int):Bool:=decide (48<=c)&&decide (c<=57)
def letterI (c:Int):Bool:=(decide (97<=c)&&decide (c<=122))||(decide (65<=c)&&decide (c<=90))
/- the program -/
def nmGo:List Int->Nat->Bool
 | [],_=>true
 |c::l,i=>if !(letterI c)&&(i==0||(c != 45&&(decide (c<48)||decide (57<c))))then false else nmGo l (i+1)
def isNameP (s:ByteArray):Bool:=nmGo (bytesI s) 0&&(!s.toList.isEmpty&&decide ((s.size:Int)<=12))
def mget {K V:Type} (eq:K->K->Bool) (k:K):List (K×V)->Option V
 | []=>none
 |p::l=>if eq k p.1 then some p.2 else mget eq k l
def mput {K V:Type} (eq:K->K->Bool) (k:K) (v:V):List (K×V)->List (K×V)
 | []=>[(k,v)]
 |p::l=>if eq k p.1 then(k,v)::l else p::mput eq k v l
def nmGoR:List Int->Bool
 | []=>true
 |c::l=>if !letterI c&&!digitI c&&c != 45 then false else nmGoR l
def isNameR (s:ByteArray):Bool:=
 if decide ((s.size:Int)<1)||decide (12<(s.size:Int))||!letterI ((bytesI s).getD 0 0)then false else nmGoR ((bytesI s).drop 1)
end Go.Proofs.YtkhkhnellekofaaGreatDoor
namespace Go.Proofs.YtkhkhnellekofaaGreatDoor
open Go.RowKit
theorem divInt_num {a b:Int} (h:0<b):(Rat.divInt a b).num=a/(Int.gcd a b:Int):=by
 rw[Rat.num_divInt,Int.gcd_comm b a,Int.sign_eq_one_of_pos h,Int.one_mul]
theorem divInt_den {a b:Int} (h:0<b):((Rat.divInt a b).den:Int)=b/(Int.gcd a b:Int):=by
 rw[Rat.den_divInt,if_neg (by omega),Int.gcd_comm b a]
 obtain⟨n,rfl⟩: ∃n:Nat,b=n:=⟨b.toNat,by omega⟩
 simp
theorem tdiv_exact {a g:Int} (h:g∣a):a.tdiv g=a/g:=Int.tdiv_eq_ediv_of_dvd h
def isShareP (n:Int) (num den:Int):Bool:=(decide (1<=den)&&decide (den<=n))&&(decide (0<=num)&&decide (num<=den))&&Int.gcd num den==1
theorem share_rat {n num den:Int} (h:isShareP n num den=true):(Rat.divInt num den).num=num/\((Rat.divInt num den).den:Int)=den/\0<=Rat.divInt num den/\Rat.divInt num den<=1:=by
 unfold isShareP at h
 simp only[Bool.and_eq_true,decide_eq_true_eq,beq_iff_eq]at h
 obtain⟨⟨⟨h1,h2⟩,h3,h4⟩,h5⟩:=h
 have hb:0<den:=by omega
 have e1:(Rat.divInt num den).num=num:=by rw[divInt_num hb,h5];simp
 have e2:((Rat.divInt num den).den:Int)=den:=by rw[divInt_den hb,h5];simp
 refine⟨e1,e2,?_,?_⟩
 ·rw[Rat.le_iff,e1];simp;omega
 ·rw[Rat.le_iff,e1,e2];simp;omega
theorem add_divInt (p q:Rat):p+q=Rat.divInt (p.num*q.den+q.num*p.den) (p.den*q.den):=by
 rw[Rat.add_def']
 rfl
theorem sub_divInt (p q:Rat):p-q=Rat.divInt (p.num*q.den-q.num*p.den) (p.den*q.den):=by
 rw[Rat.sub_def']
 rfl
theorem mul_divInt (p q:Rat):p*q=Rat.divInt (p.num*q.num) (p.den*q.den):=by
 rw[Rat.mul_def']
 rfl
theorem den_pos' (p:Rat):(0:Int)<p.den:=by have:=p.den_pos;omega
theorem ratI {n:Int} (h:n≠0):(n:Rat)≠0:=fun e=>h (Rat.intCast_inj.1 (by simpa using e))
theorem div_divInt (p q:Rat) (h:0<q):p/q=Rat.divInt (p.num*q.den) (p.den*q.num):=by
 have hq:0<q.num:=by have:=(Rat.lt_iff 0 q).1 h;simpa using this
 rw[Rat.divInt_eq_div]
 have h1:p=p.num/(p.den:Int):=by rw[<-Rat.divInt_eq_div,Rat.num_divInt_den]
 have h2:q=q.num/(q.den:Int):=by rw[<-Rat.divInt_eq_div,Rat.num_divInt_den]
 have a1:((p.den:Int):Rat)≠0:=by have:=den_pos' p;exact ratI (by omega)
 have a2:((q.den:Int):Rat)≠0:=by have:=den_pos' q;exact ratI (by omega)
 have a3:(q.num:Rat)≠0:=ratI (by omega)
 conv=>lhs;rw[h1,h2]
 rw[Rat.intCast_mul,Rat.intCast_mul]
 generalize(p.num:Rat)=x at*
 generalize((p.den:Int):Rat)=y at*
 generalize(q.num:Rat)=z at*
 generalize((q.den:Int):Rat)=t at*
 clear h1 h2
 grind
end Go.Proofs.YtkhkhnellekofaaGreatDoor
namespace Go.Proofs.YtkhkhnellekofaaGreatDoor
open Go.RowKit
structure Rec where
 kind:Int
 name:ByteArray
 other:ByteArray
 place:ByteArray
 day:Int
 til:Int
 num:Int
 den:Int
def Rec.cells (r:Rec):List Value:=[.int .i64 r.kind, .string r.name, .string r.other, .string r.place, .int .i64 r.day, .int .i64 r.til, .int .i64 r.num, .int .i64 r.den]
def isDayP (n:Int):Bool:=inR n 0 200000
def noB (s:ByteArray):Bool:=s.toList.isEmpty
def nameOr (s:ByteArray):Bool:=noB s||isNameP s
def checkRecP (x:Rec):Int:=
 if !inR x.kind 0 4 then 15 else
 if !isDayP x.day||!isDayP x.til then 2 else
 if !nameOr x.name||!nameOr x.other||!nameOr x.place then 4 else
 if noB x.name||(!noB x.other) != (x.kind==2)||(!noB x.place) != (x.kind==3||x.kind==4)then 3 else
 if(x.kind==2&&x.day != 0)||(x.kind != 4&&x.til != 0)||(x.kind != 3&&(x.num != 0||x.den != 0))then 3 else
 if x.kind==3&&(!inR x.den 1 12||!inR x.num 1 x.den||Int.gcd x.num x.den != 1)then 3 else
 if x.kind==4&&decide (x.til<=x.day)then 9 else 0
def firstErr {α:Type} (f:α->Int):List α->Int
 | []=>0
 |x::l=>if f x != 0 then f x else firstErr f l
def checkRecsP (l:List Rec):Int:=if decide (40<l.length)then 8 else firstErr checkRecP l
def sameB (a b:ByteArray):Bool:=a.toList==b.toList
def againstQ (a b:Rec):Bool:=
 if a.kind==1&&b.kind==1 then sameB a.name b.name&&a.day != b.day else
 if a.kind==0&&b.kind==1 then sameB a.name b.name&&decide (b.day<a.day)else
 if a.kind==1&&(b.kind==3||b.kind==4)then sameB a.name b.name&&decide (a.day<b.day)else
 if a.kind==3&&b.kind==3 then sameB a.name b.name&&sameB a.place b.place&&a.day==b.day&&(a.num != b.num||a.den != b.den)else
 if a.kind==4&&b.kind==4 then !sameB a.name b.name&&sameB a.place b.place&&decide (max a.day b.day<min a.til b.til)else false
def againstP (a b:Rec):Bool:=if decide (b.kind<a.kind)then againstQ b a else againstQ a b
def pairP:List Rec->Bool
 | []=>false
 |x::l=>l.any (fun y=>againstP y x)||pairP l
def Edge (l:List Rec) (a b:ByteArray):Prop:= ∃x∈l,x.kind=2/\x.name=a/\x.other=b
def Circle (l:List Rec):Prop:= ∃a,Relation.TransGen (Edge l) a a
def sumGo (p:ByteArray) (d:Int):List Rec->List ByteArray->Rat
 | [],_=>0
 |x::l,seen=>if x.kind==3&&sameB x.place p&&x.day==d&&!seen.any (sameB x.name)then Rat.divInt x.num x.den+sumGo p d l (x.name::seen)else sumGo p d l seen
def TooMuch (l:List Rec):Prop:= ∃p d,1<sumGo p d l []
open Classical in
noncomputable def contraP (l:List Rec):Bool:=pairP l||decide (Circle l)||decide (TooMuch l)
end Go.Proofs.YtkhkhnellekofaaGreatDoor

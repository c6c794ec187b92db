/-
  The records of the types that walks ask for. Conditions: none.
-/
import Derived.Test.YtneeginmfjageaaGreatProg
import Derived.KernelRfl
import Derived.Test.YtneeginmfjageaaGreatCAbs36ox807479
set_option linter.all false
namespace Go.Proofs.YtneeginmfjageaaGreat
namespace Abs
section
open Go Go.Proofs
def ti3:TI:=⟨some 1,some false,false,false,false,false,false,some .i64,.no,[],[],some [.int .i64 0],some (.int .i64 0),none,none,none⟩
def ti4:TI:=⟨some 1,some false,false,true,false,false,false,none,.no,[],[],some [.bool false],some (.bool false),none,none,none⟩
def ti5:TI:=⟨some 1,some false,false,false,false,false,false,some .u8,.no,[],[],some [.int .u8 0],some (.int .u8 0),none,none,none⟩
def ti9:TI:=⟨some 1,some false,false,false,true,false,false,none,.no,[],[],some [.str []],some (.str []),none,none,none⟩
def aH5:TI:=⟨some 1,some false,false,false,false,false,false,none,.no,[],[],some [.unk],some .unk,none,none,none⟩
def aIs:TI:=⟨some 1,some false,false,false,false,false,true,none,.sl (some 2),[],[],some [.slice [] .nils],some (.slice [] .nils),some 2,some (63,2,40),none⟩
def aIC:TI:=⟨some 1,some false,false,false,false,false,true,none,.sl (some 4),[],[],some [.slice [] .nils],some (.slice [] .nils),some 4,some (66,4,64),none⟩
def TIs(n:Nat)(s:Bool)(i:IxT)(f:List (Option (Nat×TypeId)))(p:List (Option (Nat×Nat)))(l:List AV):TI:=⟨some n,some true,false,false,false,s,false,none,i,f,p,some l,some (.agg l),none,none,none⟩
def TIc(a b c d:Bool)(k:Option IntKind)(i:IxT)(z:AV)(x:Option Nat)(y:Option (TypeId×Nat×Nat))(s:Option TypeId):TI:=⟨some 1,some false,a,b,c,false,d,k,i,[],[],some [z],some z,x,y,s⟩
def aI2:=TIs 2 true .no [some (0,22),some (1,23)] [some (0,1),some (1,1)] [.slice [] .nils,.slice [] .nils]
def aHY:TI:=⟨some 1,some false,false,false,false,false,true,none,.sl (some 1),[],[],some [.slice [] .nils],some (.slice [] .nils),some 1,some (3,1,8),none⟩
def aHR:TI:=⟨some 1,some false,false,false,false,false,true,none,.sl (some 4),[],[],some [.slice [] .nils],some (.slice [] .nils),some 4,some (40,4,56),none⟩
def aIB:=TIs 4 true .no [some (0,25),some (2,26),some (3,27)] [some (0,2),some (2,1),some (3,1)] [.slice [] .nils,.slice [] .nils,.slice [] .nils,.slice [] .nils]
def aIp:TI:=⟨some 1,some false,false,false,false,false,true,none,.sl (some 3),[],[],some [.slice [] .nils],some (.slice [] .nils),some 3,some (32,3,48),none⟩
def aIj:=TIs 3 true .no [some (0,3),some (1,9),some (2,30)] [some (0,1),some (1,1),some (2,1)] [.int .i64 0,.str [],.slice [] .nils]
def aIo:TI:=⟨some 1,some false,false,false,false,false,true,none,.sl (some 7),[],[],some [.slice [] .nils],some (.slice [] .nils),some 7,some (35,7,104),none⟩
def aHZ:=TIs 7 true .no [some (0,3),some (1,9),some (2,3),some (3,32),some (6,33)] [some (0,1),some (1,1),some (2,1),some (3,3),some (6,1)] [.int .i64 0,.str [],.int .i64 0,.int .i64 0,.str [],.slice [] .nils,.slice [] .nils]
def aHS:=TIs 4 true .no [some (0,3),some (1,3),some (2,9),some (3,27)] [some (0,1),some (1,1),some (2,1),some (3,1)] [.int .i64 0,.int .i64 0,.str [],.slice [] .nils]
def aIE:TI:=⟨some 1,some false,false,false,false,false,false,some .i64,.no,[],[],some [.int .i64 0],some (.int .i64 0),none,none,none⟩
def aII:TI:=⟨some 1,some false,false,false,false,false,true,none,.sl (some 1),[],[],some [.slice [] .nils],some (.slice [] .nils),some 1,some (33,1,24),none⟩
def aIR:TI:=⟨some 1,some false,false,false,false,false,true,none,.sl (some 1),[],[],some [.slice [] .nils],some (.slice [] .nils),some 1,some (9,1,16),none⟩
def aIF:=TIs 2 true .no [some (0,9),some (1,61)] [some (0,1),some (1,1)] [.str [],.slice [] .nils]
def aIk:=TIs 4 true .no [some (0,9),some (1,32)] [some (0,1),some (1,3)] [.str [],.int .i64 0,.str [],.slice [] .nils]
def aIy:TI:=⟨some 1,some false,true,false,false,false,false,none,.no,[],[],some [.nilp],some .nilp,none,none,none⟩
def aH7:TI:=⟨some 1,some false,false,false,false,false,false,none,.no,[],[],some [.nilFunc],some .nilFunc,none,none,none⟩
def aIG:=TIs 3 true .no [some (0,3),some (1,9),some (2,3)] [some (0,1),some (1,1),some (2,1)] [.int .i64 0,.str [],.int .i64 0]
def aH2:=TIs 7 true .no [some (0,9),some (1,93),some (4,3),some (5,3),some (6,41)] [some (0,1),some (1,3),some (4,1),some (5,1),some (6,1)] [.str [],.int .i64 0,.str [],.int .i64 0,.int .i64 0,.int .i64 0,.int .i64 0]
def aIt:=TIs 3 true .no [some (0,3),some (1,3),some (2,3)] [some (0,1),some (1,1),some (2,1)] [.int .i64 0,.int .i64 0,.int .i64 0]
def aHh:TI:=⟨some 1,some false,true,false,false,false,false,none,.no,[],[],some [.nilp],some .nilp,none,none,none⟩
def aGG:TI:=⟨some 1,some false,false,false,false,false,false,none,.no,[],[],some [.unk],some .unk,none,none,some 32⟩
def aHa:TI:=⟨some 1,some false,false,false,false,false,false,none,.no,[],[],some [.unk],some .unk,none,none,some 4⟩
def aHf:TI:=⟨some 1,some false,false,false,false,false,false,none,.no,[],[],some [.nilFunc],some .nilFunc,none,none,none⟩
def aGg:=TIs 57 false (.arr 57 (some 1)) [] [] (List.replicate 57 .nilFunc)
def aGj:=TIs 60 true .no [some (0,106),some (1,107),some (2,110),some (59,26)] [some (0,1),some (1,1),some (2,57),some (59,1)] (([.unk,.unk]++List.replicate 57 .nilFunc++[.slice [] .nils]))
def aHc:TI:=⟨some 1,some false,false,false,false,false,false,none,.no,[],[],some [.unk],some .unk,none,none,some 40⟩
def aG5:TI:=⟨some 1,some false,false,false,false,false,true,none,.sl (some 5),[],[],some [.slice [] .nils],some (.slice [] .nils),some 5,some (222,5,72),none⟩
def aGN:=TIs 5 true .no [some (0,25),some (2,26),some (3,113),some (4,114)] [some (0,2),some (2,1),some (3,1),some (4,1)] [.slice [] .nils,.slice [] .nils,.slice [] .nils,.unk,.slice [] .nils]
def aGW:TI:=⟨some 1,some false,false,false,false,false,true,none,.sl (some 5),[],[],some [.slice [] .nils],some (.slice [] .nils),some 5,some (169,5,72),none⟩
def aGb:TI:=⟨some 1,some false,true,false,false,false,false,none,.no,[],[],some [.nilp],some .nilp,none,none,none⟩
def aGd:TI:=⟨some 1,some false,true,false,false,false,false,none,.no,[],[],some [.nilp],some .nilp,none,none,none⟩
def aG4:TI:=⟨some 1,some false,false,false,false,false,false,none,.no,[],[],some [.nilFunc],some .nilFunc,none,none,none⟩
def aGw:=TIs 5 true .no [some (0,9),some (1,32),some (4,155)] [some (0,1),some (1,3),some (4,1)] [.str [],.int .i64 0,.str [],.slice [] .nils,.nilp]
def aG6:TI:=⟨some 1,some false,false,false,false,false,false,none,.no,[],[],some [.nilFunc],some .nilFunc,none,none,none⟩
def aGV:=TIs 8 false (.arr 2 (some 4)) [] [] [.int .i64 0,.int .i64 0,.str [],.slice [] .nils,.int .i64 0,.int .i64 0,.str [],.slice [] .nils]
def aGu:=TIs 5 true .no [some (0,9),some (1,40)] [some (0,1),some (1,4)] [.str [],.int .i64 0,.int .i64 0,.str [],.slice [] .nils]
def aGe:TI:=⟨some 1,some false,false,false,false,false,true,none,.sl (some 1),[],[],some [.slice [] .nils],some (.slice [] .nils),some 1,some (27,1,24),none⟩
def aHj:TI:=⟨some 1,some false,false,false,false,false,false,none,.no,[],[],some [.nilFunc],some .nilFunc,none,none,none⟩
def aGS:TI:=⟨some 1,some false,false,false,false,false,false,some .u64,.no,[],[],some [.int .u64 0],some (.int .u64 0),none,none,none⟩
def aGs:TI:=⟨some 1,some false,false,false,false,false,false,none,.no,[],[],some [.nilFunc],some .nilFunc,none,none,none⟩
def aG3:=TIs 5 true .no [some (0,9),some (1,40)] [some (0,1),some (1,4)] [.str [],.int .i64 0,.int .i64 0,.str [],.slice [] .nils]
def aGD:TI:=⟨some 1,some false,false,false,false,false,false,some .i64,.no,[],[],some [.int .i64 0],some (.int .i64 0),none,none,none⟩
def aGQ:TI:=⟨some 1,some false,false,false,false,false,false,some .u32,.no,[],[],some [.int .u32 0],some (.int .u32 0),none,none,none⟩
def aGh:TI:=⟨some 1,some false,false,false,false,false,false,some .u64,.no,[],[],some [.int .u64 0],some (.int .u64 0),none,none,none⟩
def aGF:TI:=⟨some 1,some false,false,false,false,false,false,some .u64,.no,[],[],some [.int .u64 0],some (.int .u64 0),none,none,none⟩
def aGk:TI:=⟨some 1,some false,false,false,false,false,false,none,.no,[],[],some [.nilFunc],some .nilFunc,none,none,none⟩
def tab:Tr:=.node (.node (.node (.node (.node (.node .nil 3 ti3 .nil) 4 ti4 (.node .nil 5 ti5 .nil)) 9 ti9 (.node (.node .nil 20 aH5 .nil) 22 aIs .nil)) 23 aIC (.node (.node (.node .nil 25 aI2 .nil) 26 aHY (.node .nil 27 aHR .nil)) 29 aIB (.node (.node .nil 30 aIp .nil) 32 aIj .nil))) 33 aIo (.node (.node (.node (.node .nil 35 aHZ .nil) 40 aHS (.node .nil 41 aIE .nil)) 55 aII (.node (.node .nil 61 aIR .nil) 63 aIF .nil)) 66 aIk (.node (.node (.node .nil 71 aIy .nil) 85 aH7 .nil) 93 aIG (.node (.node .nil 96 aH2 .nil) 99 aIt .nil)))) 101 aHh (.node (.node (.node (.node (.node .nil 106 aGG .nil) 107 aHa (.node .nil 109 aHf .nil)) 110 aGg (.node (.node .nil 112 aGj .nil) 113 aHc .nil)) 114 aG5 (.node (.node (.node .nil 116 aGN .nil) 118 aGW (.node .nil 151 aGb .nil)) 155 aGd (.node (.node .nil 157 aG4 .nil) 159 aGw .nil))) 163 aG6 (.node (.node (.node (.node .nil 166 aGV .nil) 169 aGu (.node .nil 174 aGe .nil)) 185 aHj (.node (.node .nil 202 aGS .nil) 214 aGs .nil)) 222 aG3 (.node (.node (.node .nil 236 aGD .nil) 243 aGQ .nil) 245 aGh (.node (.node .nil 257 aGF .nil) 267 aGk .nil))))
theorem aEh:tab.keys.map (TI.of Tryz.prog)=tab.vals:=by kernel_rfl
noncomputable def τ t:=tab.look (TI.of Tryz.prog) t
theorem lH:τ=TI.of Tryz.prog:=aEK aEh
theorem zC:Tryz.prog.follows .mixedOrders=true:=by kernel_rfl
end
section
open Go
def EG(u:U):=zM (.lf u.t u.x) (jw u.t u.x)
def Gw:List U->List AV|[]=>[]|u::s=>EG u++Gw s
theorem ali H:∀s:List U,aX H (s.map λu=>.lf u.t u.x)=Gw s|[]=>rfl|u::s=>by simp only[qAz,aX,Gw,ali H s,EG,av]
theorem JA:∀(e:ET) x,(e.enc x).length=e.sz
 | .i,_=>rfl| .u,_=>rfl| .s,_=>rfl| .b,_=>rfl| .car,_=>rfl| .dec,_=>rfl
 | .ty,x=>by simp only[ET.enc,kD];rfl| .tm,x=>by simp only[ET.enc,tO];rfl| .env,_=>rfl| .val,x=>by simp only[ET.enc,fO];rfl| .bnd,x=>by have:=fO x.v;simp only[ET.enc,this];rfl| .vals,_=>rfl| .tms,_=>rfl
theorem awR:∀(e:ET) x,Gw (eD e.cs (e.un x))=e.enc x
 | .i,_=>rfl| .u,_=>rfl| .s,_=>rfl| .b,_=>rfl| .car,_=>rfl
 | .dec,x=>by have:=kD x.ty;simp only[ET.enc,ET.cs,ET.un,eD,Gw,EG,zM,jw,ig,this,qAO,qAs]
 | .ty,x=>by simp only[ET.enc,kD];rfl| .tm,x=>by have:=kD x.ty;simp only[ET.enc,ET.cs,ET.un,eD,Gw,EG,zM,jw,tO,this,qAO,qAs]
 | .env,_=>rfl| .val,x=>by simp only[ET.enc,fO];rfl| .bnd,x=>by have:=fO x.v;simp only[ET.enc,ET.cs,ET.un,eD,Gw,EG,zM,jw,this,qAO,qAs]
 | .vals,_=>rfl| .tms,_=>rfl
theorem aGZ:∀(e:ET) y,e.un (e.mk y)=y| .i,_=>rfl| .u,_=>rfl| .s,_=>rfl| .b,_=>rfl| .car,_=>rfl| .dec,_=>rfl| .ty,_=>rfl| .tm,_=>rfl| .env,_=>rfl| .val,_=>rfl| .bnd,_=>rfl| .vals,_=>rfl| .tms,_=>rfl
theorem aEg(e:ET) y:Gw (eD e.cs y)=e.enc (e.mk y):=by rw[<-awR,aGZ]
theorem FD H:∀a b:List TV,aX H (a++b)=aX H a++aX H b|[],_=>rfl|v::a,b=>by simp only[qAO,aX,FD H a b,qAm]
theorem sS H:∀a:List TV,aT H a=a.map (av H)|[]=>rfl|v::a=>by simp only[aT,qAz,sS H a]
theorem WY H e x:aX H (comps e x)=e.enc x:=by unfold comps;rw[ali,awR]
def one v:=∀a,zM v a=[a]
theorem qY v:one v∨∃e x,v=.lf (.t e) x:=by
 cases v with
 |lf t x=>cases t<;>first|exact .inr ⟨_,_,rfl⟩|exact .inl λ_=>rfl
 |_=>exact .inl λ_=>rfl
theorem ak6 H v:(zM v (av H v)).length=width v:=by
 rcases qY v with h|⟨e,x,rfl⟩
 ·rw[h];cases v with
  |lf t x=>cases t<;>first|rfl|(have:=h .unk;simp only[zM]at this;rename_i e;have a:=JA e x;rw[this]at a;simp only[width];exact a)
  |_=>rfl
 exact JA e x
theorem kM H:∀vs:List TV,(aX H vs).length=widths vs|[]=>rfl|v::vs=>by simp only[aX,qAf,ak6,kM H vs,widths]
theorem aZ{a:Type}{b X Y}{r:a}(h:cond b X Y=some r):b=true/\X=some r∨b=false/\Y=some r:=by grind
section
variable {γ:Type}{b:γ}{H:List TObj}
theorem xS:∀f cs n K,splitK f cs n K=some b->∃a r,aX H cs=aX H a++aX H r/\(aX H a).length=n/\K a r=some b:=by
 intro f
 induction f with|zero=>intro cs n K h;cases h|succ f j=>
  intro cs n K h;unfold splitK at h;cases n with|zero=>exact⟨[],cs,rfl,rfl,h⟩|succ m=>
   cases cs with|nil=>cases h|cons c r=>
    rcases aZ h with⟨w,h⟩|⟨_,h⟩
    ·obtain⟨a,d,g,k,i⟩:=j _ _ _ h;have w:=qAe w;refine⟨c::a,d,?_,?_,i⟩
     ·simp only[aX,g,qAm]
     simp only[aX,qAf,ak6];omega
    split at h;·rename_i e x;obtain⟨a,d,g,k,i⟩:=j _ _ _ h;refine⟨a,d,?_,k,i⟩;rw[<-g,FD,WY];rfl
    cases h
theorem azR:∀f cs K,aoj f cs K=some b->∃v r,one v/\aX H cs=av H v::r/\K v=some b:=by
 intro f
 induction f with|zero=>intro cs K h;cases h|succ f i=>
  intro cs K h;unfold aoj at h;cases cs with|nil=>cases h|cons c r=>
   simp only at h;split at h;·rename_i e x;obtain⟨v,g,a,d,j⟩:=i _ _ h;refine⟨v,g++aX H r,a,?_,j⟩;rw[WY]at d;simp only[aX,zM,d,qAO]
   rename_i n;rcases qY c with a|⟨e,x,rfl⟩
   ·exact⟨c,aX H r,a,by simp only[aX,a (av H c),qAO,qAs],h⟩
   grind
theorem ajN c:av H (abH c)=.agg (aX H c):=by
 unfold abH;split;·rename_i e x;simp only[av,jw,aX,zM,qAt]
 rfl
theorem aa4{P}{t off:Nat}{cs K}(h:ldK (TI.of P) t off cs K=some b):∃v,jB P t ((aX H cs).drop off)=some (av H v)/\K v=some b:=by
 unfold ldK at h;split at h
 ·rename_i g;have g:PU P t=some true:=g;split at h
  ·rename_i n m;have m:sizeT P t=some n:=m;obtain⟨a,r,e,f,i⟩:=xS (H:=H) _ _ _ _ h;obtain⟨c,d,j,k,o⟩:=xS (H:=H) _ _ _ _ i;refine⟨abH c,?_,o⟩;have l:(aX H cs).drop off=aX H c++aX H d:=by rw[e,<-f,qDb,j]
   simp only[jB,l,qAf,k,ajN]
   grind
  cases h
 ·rename_i g;have g:PU P t=some false:=g;obtain⟨a,r,e,f,i⟩:=xS (H:=H) _ _ _ _ h;obtain⟨v,p,_,j,k⟩:=azR (H:=H) _ _ _ i;refine⟨v,?_,k⟩;have l:(aX H cs).drop off=aX H r:=by rw[e,<-f,qDb]
  simp only[jB,g,l,j]
 cases h
theorem Gd{v}{cs}(h:Em H v=some cs):dS (av H v)=some (aX H cs):=by
 cases v with
 |lf t x=>cases t<;>first|(cases h;rfl)|(cases h;simp only[av,jw,dS,aX,zM,qAt])|cases h
 |agg c=>cases h;rfl|unk=>cases h|tup c=>cases h|nat n=>cases h;rfl|own l=>
  simp only[Em]at h;split at h;·rename_i a;cases h;simp only[av,a,fA,aX,zM,dS,qAt]
  ·rename_i a;cases h;simp only[av,a,fA,aX,zM,dS,qAt]
  cases h
 |psl l z c=>
  cases c with|some n=>cases h;rfl|none=>
   simp only[Em]at h;split at h;·rename_i a;cases h;simp only[av,a,dU,aX,zM,dS,qAt]
   ·rename_i a;cases h;simp only[av,a,dU,aX,zM,dS,qAt]
   cases h
 |_=>cases h;rfl
inductive Cv:Bool→AV→AV→Prop where
 |same (w:Bool) (a:AV):Cv w a a
 |share (es:List (List AV)) (t:Tag):Cv true (.slice es .shared) (.slice es t)
 |nilF:Cv true (.flist []) .nilp
inductive Cvs(w:Bool):List AV→List AV→Prop where
 |nil:Cvs w [] []
 |cons {x y:AV} {xs ys:List AV}:Cv w x y→Cvs w xs ys→Cvs w (x::xs) (y::ys)
theorem Cvs.refl w:∀xs,Cvs w xs xs|[]=>.nil|x::xs=>.cons (.same w x) (Cvs.refl w xs)
theorem Cvs.app{w}{a b c d}(h:Cvs w a c)(k:Cvs w b d):Cvs w (a++b) (c++d):=by
 induction h with|nil=>exact k|cons h _ i=>exact .cons h i
theorem Cvs.len{w}{a c}(h:Cvs w a c):a.length=c.length:=by
 induction h with|nil=>rfl|cons _ _ i=>simp[i]
theorem jN{t u K}(h:jU t u K=some b):∃x,u=⟨t,x⟩/\K x=some b:=by
 unfold jU at h;split at h
 ·rename_i e _;obtain⟨a,x⟩:=u
  grind
 cases h
theorem Pw:∀{s:List LT} {u:List U} {K:jr s->Option γ},zD s u K=some b->∃y,eD s y=u/\K y=some b
 |[],u,K,h=>by
  unfold zD at h;split at h;·exact⟨(),rfl,h⟩
  cases h
 |[t],u,K,h=>by
  unfold zD at h;split at h;·obtain⟨x,rfl,a⟩:=jN h;exact⟨x,rfl,a⟩
  cases h
 |t::e::s,u,K,h=>by
  unfold zD at h;split at h;·obtain⟨x,rfl,a⟩:=jN h;obtain⟨y,c,d⟩:=Pw a;exact⟨(x,y),by simp only[eD,c],d⟩
  cases h
theorem aeG{w t v K}(c:one v)(h:ug H w t v K=some b):∃u,K u=some b/\Cv w (jw u.t u.x) (av H v)/\EG u=[jw u.t u.x]:=by
 unfold ug at h;split at h;·rename_i d x;exact⟨⟨d,x⟩,h,.same _ _,c _⟩
 ·rename_i n;exact⟨_,h,.same _ _,rfl⟩
 ·cases w
  ·cases h
  simp only[cond_true]at h;split at h;·exact⟨_,h,.share [] .nils,rfl⟩
  cases h
 ·cases w
  ·cases h
  simp only[cond_true]at h;split at h;·exact⟨_,h,.nilF,rfl⟩
  cases h
 ·rename_i l;cases w
  ·cases h
  simp only[cond_true]at h;split at h;·rename_i e s a;exact⟨_,h,by simp only[av,a];exact .share _ _,rfl⟩
  ·rename_i e s a;exact⟨_,h,by simp only[av,a];exact .share _ _,rfl⟩
  cases h
 cases h
theorem arv{w L}
  (l:∀t cs K,L t cs K=some b->∃u r x,K u r=some b/\aX H cs=x++aX H r/\Cvs w (EG u) x):
  ∀a cs K,ahL L a cs K=some b->∃s r x,K s r=some b/\aX H cs=x++aX H r/\Cvs w (Gw s) x
 |[],cs,K,h=>⟨[],cs,[],h,rfl,.nil⟩|t::a,cs,K,h=>by obtain⟨u,r,x,c,d,e⟩:=l _ _ _ h;obtain⟨s,f,y,g,i,j⟩:=arv l a r _ c;exact⟨u::s,f,x++y,g,by rw[d,i,qAm],e.app j⟩
theorem Ud{w}:∀f t cs K,RV H w f t cs K=some b->∃u r s,K u r=some b/\aX H cs=s++aX H r/\Cvs w (EG u) s:=by
 intro f
 induction f with|zero=>intro t cs K h;cases h|succ f l=>
  intro t cs K h;have p:∀(e:ET),(ahL (RV H w f) e.cs cs λus r=>zD e.cs us λy=>K ⟨.t e,e.mk y⟩ r)=some b->∃u r s,K u r=some b/\aX H cs=s++aX H r/\Cvs w (EG u) s:=λe h=>by obtain⟨us,r,s,a,d,g⟩:=arv l _ _ _ h;obtain⟨y,rfl,j⟩:=Pw a;refine⟨_,r,s,j,d,?_⟩;rw[aEg]at g;exact g
  unfold RV at h;cases cs with
  |nil=>cases h|cons c r=>
   simp only at h;split at h
   ·rename_i k x;have o:∀t,RV H w f t (comps k x++r) K=some b->∃u i s,K u i=some b/\aX H (.lf (.t k) x::r)=s++aX H i/\Cvs w (EG u) s:=λt h=>by obtain⟨u,m,s,a,d,g⟩:=l _ _ _ h;refine⟨u,m,s,a,?_,g⟩;rw[FD,WY]at d;simp only[aX];exact d
    split at h;·exact⟨_,r,k.enc x,h,by simp only[aX,zM],Cvs.refl _ _⟩
    grind
   rename_i n;split at h;·grind
   rcases qY c with a|⟨e,x,rfl⟩
   ·obtain⟨u,d,g,j⟩:=aeG a h;exact⟨u,r,[av H c],d,by simp only[aX,a (av H c)],by rw[j];exact .cons g .nil⟩
   grind
theorem aCn{t v K}(d:∀e,t≠ .t e)(h:(ug H true t v λu=>jU t u K)=some b):∃x,K x=some b/\one v/\Cv true (jw t x) (av H v):=by
 rcases qY v with a|⟨e,x,rfl⟩
 ·obtain⟨u,c,f,_⟩:=aeG a h;obtain⟨x,rfl,g⟩:=jN c
  grind
 simp only[ug]at h;obtain⟨y,i,_⟩:=jN h
 grind
theorem Bf{e}{v}{K}(c:e.sc=false)(h:Hq H e v K=some b):∃x s,K x=some b/\dS (av H v)=some s/\Cvs true (e.enc x) s/\(e.sc=true->s=[av H v]):=by
 unfold Hq at h;split at h
 ·rename_i j d;obtain⟨u,r,s,a,f,g⟩:=Ud _ _ _ _ h;split at a
  ·obtain⟨x,rfl,i⟩:=jN a;refine⟨x,s,i,?_,g,λhs=>by rw[c]at hs;cases hs⟩;rw[Gd d,f];simp only[aX,qAt]
  cases a
 cases h
theorem aku{t v K}{e:ET}{c:t.D->e.D}(d:∀e,t≠ .t e)(f:∀x,e.enc (c x)=[jw t x])(h2:∀x y,Cv true (jw t x) y->dS y=some [y])(h:(ug H true t v λu=>jU t u K)=some b):
  ∃x s,K x=some b/\dS (av H v)=some s/\Cvs true (e.enc (c x)) s/\(e.sc=true->s=[av H v]):=by obtain⟨x,g,_,a⟩:=aCn d h;exact⟨x,[av H v],g,h2 x _ a,by rw[f];exact .cons a .nil,λ_=>rfl⟩
theorem alA{e}{v}{K}(h:aok H e v K=some b):∃x a,K x=some b/\dS (av H v)=some a/\Cvs true (e.enc x) a/\(e.sc=true->a=[av H v]):=by
 cases e with|i=>exact aku (e:=.i) (c:=λx=>x) (λe h=>by cases h) (λ_=>rfl) (λx y h=>by cases h;rfl) h|u=>exact aku (e:=.u) (c:=λx=>x) (λe h=>by cases h) (λ_=>rfl) (λx y h=>by cases h;rfl) h|s=>exact aku (e:=.s) (c:=λx=>x) (λe h=>by cases h) (λ_=>rfl) (λx y h=>by cases h;rfl) h|b=>exact aku (e:=.b) (c:=λx=>x) (λe h=>by cases h) (λ_=>rfl) (λx y h=>by cases h;rfl) h|car=>exact Bf rfl h|dec=>exact Bf rfl h|ty=>exact Bf rfl h|tm=>exact Bf rfl h|env=>exact Bf rfl h|val=>exact Bf rfl h|bnd=>exact Bf rfl h|vals=>exact aku (e:=.vals) (c:=λx=>x) (λe h=>by cases h) (λ_=>rfl) (λx y h=>by cases h<;>rfl) h|tms=>exact aku (e:=.tms) (c:=λx=>x) (λe h=>by cases h) (λ_=>rfl) (λx y h=>by cases h<;>rfl) h
theorem aA5{e v K}(h:aok H e v K=some b):∃x s,K x=some b/\dS (av H v)=some s/\Cvs true (e.enc x) s:=by
 obtain⟨x,s,a,c,d,_⟩:=alA h
 grind
theorem aDF:∀(e:ET) x,(e.enc x).map shr=e.enc x
 | .i,_=>rfl| .u,_=>rfl| .s,_=>rfl| .b,_=>rfl| .car,_=>rfl
 | .dec,x=>rfl| .ty,x=>by simp only[ET.enc,kD];rfl| .tm,x=>by simp only[ET.enc,tO];rfl| .env,_=>rfl| .val,x=>by simp only[ET.enc,fO];rfl| .bnd,x=>by have:=fO x.v;simp only[ET.enc,this];rfl| .vals,_=>rfl| .tms,_=>rfl
theorem aAA:∀(e:ET) x,AV.flist []∉e.enc x
 | .i,_=>by simp[ET.enc,encI]| .u,_=>by simp[ET.enc,Ka]| .s,_=>by simp[ET.enc,encS]| .b,_=>by simp[ET.enc]| .car,_=>by simp[ET.enc,jQ]
 | .dec,x=>by simp[ET.enc,ig]| .ty,x=>by simp[ET.enc,kD]| .tm,x=>by simp[ET.enc,tO]| .env,_=>by simp[ET.enc]| .val,x=>by simp[ET.enc,fO]| .bnd,x=>by simp[ET.enc,fO]| .vals,x=>by simp[ET.enc]| .tms,x=>by simp[ET.enc]
theorem aCq{a xs}(h:Cvs true a xs)(b:a.map shr=a)(h2:AV.flist []∉a):xs.map shr=a:=by
 induction h with|nil=>rfl|cons h _ i=>
  simp only[qAz,List.cons.injEq,qAh,not_or]at b h2|-;refine⟨?_,i b.2 h2.2⟩;cases h with|same=>exact b.1|share=>rfl|nilF=>exact(h2.1 rfl).elim
theorem apy{e:ET}{x xs}(h:Cvs true (e.enc x) xs):xs.map shr=e.enc x:=aCq h (aDF e x) (aAA e x)
theorem OC:∀(e:ET) x,bX e.sz (e.enc x)=true
 | .i,_=>rfl| .u,_=>rfl| .s,_=>rfl| .b,_=>rfl| .car,_=>rfl| .dec,_=>rfl
 | .ty,x=>by simp only[ET.enc,kD];rfl| .tm,x=>by simp only[ET.enc,tO];rfl| .env,_=>rfl| .val,x=>by simp only[ET.enc,fO];rfl| .bnd,x=>by have:=fO x.v;simp only[ET.enc,this];rfl| .vals,_=>rfl| .tms,_=>rfl
theorem ajk:∀H (e:ET) x,aX H [e.seg x]=e.enc x
 |_,.i,_=>rfl|_,.u,_=>rfl|_,.s,_=>rfl|_,.b,_=>rfl|_,.car,_=>rfl|_,.dec,_=>rfl|_,.ty,_=>by simp[aX,ET.seg,zM]|_,.tm,_=>by simp[aX,ET.seg,zM]|_,.env,_=>rfl|_,.val,_=>by simp[aX,ET.seg,zM]
 |_,.bnd,_=>by simp[aX,ET.seg,zM]|_,.vals,_=>rfl|_,.tms,_=>rfl
theorem apk:∀H (e:ET) x,av H (e.seg x)=e.one x|_,.i,_=>rfl|_,.u,_=>rfl|_,.s,_=>rfl|_,.b,_=>rfl|_,.car,_=>rfl|_,.dec,_=>rfl|_,.ty,_=>rfl|_,.tm,_=>rfl|_,.env,_=>rfl|_,.val,_=>rfl|_,.bnd,_=>rfl|_,.vals,_=>rfl|_,.tms,_=>rfl
theorem ZA:∀(e:ET) g x,dL g (e.enc x)=e.enc x
 | .i,_,_=>rfl| .u,_,_=>rfl| .s,_,_=>rfl| .b,_,_=>rfl
 | .car,g,x=>aqc g x| .dec,g,x=>axF g x| .ty,g,x=>ama g x| .tm,g,x=>amh g x
 | .env,g,x=>by simp only[ET.enc,dL,ren,pK,apZ,azw]| .val,g,x=>NJ g x| .bnd,g,x=>by simp only[ET.enc,dL,ren,NJ g x.v]| .vals,g,x=>by simp only[ET.enc,dL,ren,pK,IZ]| .tms,g,x=>by simp only[ET.enc,dL,ren,pK,aCx]
theorem mg(e:ET) g (l:List e.D):eF g (l.map e.enc)=l.map e.enc:=NQ (λg x=>ZA e g x) g l
theorem Jt g:∀t x,ren g (jw t x)=jw t x
 | .n _,_=>rfl| .b,_=>rfl| .s,_=>rfl| .m _,_=>rfl
 | .l e,x=>by simp only[jw,ren,pK,mg]| .t e,x=>by simp only[jw,ren,ZA]| .f e,x=>by simp only[jw,ren,mg]
end
end
section
open Go
noncomputable section
def aA(H:List TObj):=H.map (fJ H)
theorem jT H l:obj? (aA H) l=fJ H (nth .dead H l):=by rw[iK];unfold obj? aA;rw[qAH,List.getD];cases H[l]?<;>rfl
theorem aub H v:av H (ajD v)=I8 v/\one (ajD v):=by
 unfold ajD I8;split
 ·rename_i k n;dsimp only;by_cases h:k.min<=n/\n<=k.max
  ·rw[if_pos h,decide_eq_true h.1,decide_eq_true h.2];exact⟨rfl,λ_=>rfl⟩
  rw[if_neg h];have:(decide (k.min<=n)&&decide (n<=k.max))=false:=by grind
  rw[this];exact⟨rfl,λ_=>rfl⟩
 ·exact⟨rfl,λ_=>rfl⟩
 ·rename_i s;dsimp only;by_cases h:s.data.toList.length<=9223372036854775807
  ·rw[if_pos h,decide_eq_true h];exact⟨rfl,λ_=>rfl⟩
  rw[if_neg h,decide_eq_false h];exact⟨rfl,λ_=>rfl⟩
 ·exact⟨rfl,λ_=>rfl⟩
 ·exact⟨rfl,λ_=>rfl⟩
 ·exact⟨rfl,λ_=>rfl⟩
 rename_i a b c d e f;split<;>first|exact⟨rfl,λ_=>rfl⟩|(rename_i h;first|exact(a _ _ rfl).elim|exact(b _ rfl).elim|exact(c _ rfl).elim|exact(d rfl).elim|exact(e rfl).elim|exact(f rfl).elim)
theorem apB H {α:Type} f g (h:∀a,av H (f a)=g a/\one (f a)):∀l:List α,aX H (l.map f)=l.map g|[]=>rfl|a::l=>by simp only[qAz,aX,(h a).2 _,(h a).1,apB H f g h l,qAO,qAs]
theorem aDJ H v:av H (aA8 v)=ofConst v:=by
 unfold aA8 ofConst;split;·simp only[av,apB H ajD I8 (aub H)]
 rename_i h;split;·grind
 exact(aub H v).1
theorem bN H t x:bC (aT H t) x=av H (fq t x):=by
 cases x with|tmp n=>simp only[bC,fq,iK,sS,List.getD,qAH];cases t[n]?<;>rfl|const v=>exact(aDJ H v).symm|func f=>rfl|global g=>rfl
def ZN(H:List TObj):TWr->List TObj
 | .sl _ _=>H| .ob l o=>H.set l o| .st l f v=>match nth .dead H l with
  | .box c=>match uD c f v some with
   |some c=>H.set l (.box c)|none=>H
  |_=>H
 | .kill l=>match nth .dead H l with
  | .own e x=>H.set l (.gone e x)| .arr _ x=>H.set l (.gon x.length)| .box _=>H.set l .dead| .mp _ _=>H.set l .dead|_=>H
 | .nw l o=>H.set l o| .up l i e y=>match nth .dead H l with
  | .arr a x=>match ET.eq? e a with|some ⟨q⟩=>H.set l (.arr a (upd x i (q▸y)))|none=>H
  |_=>H
def Hg(H:List TObj):TWr->Wr
 | .sl n v=>.slot n (av H v)| .ob l o=>.obj l (fJ (H.set l o) o)| .st l f s=>.obj l (match fJ H (nth .dead H l)with| .box c=>.box (c.take f++aX H s++c.drop (f+(aX H s).length))|o=>o)
 | .kill l=>.obj l .dead| .nw l o=>.obj l (fJ (H.set l o) o)| .up l i e y=>.obj l (match nth .dead H l with
  | .arr a x=>match ET.eq? e a with|some ⟨q⟩=>.arr a.sz ((upd x i (q▸y)).map a.enc)|none=>.dead
  |_=>.dead)
def BF(H:List TObj):List TWr->List Wr|[]=>[]|w::s=>Hg H w::BF (ZN H w) s
theorem jH H d v:BF H (eZ d v)=au d (av H v):=by cases d<;>rfl
def nA:TV->Option (IntKind×Int)| .lf (.n k) x=>some (k,x)| .nat n=>some (.i64,n)|_=>none
theorem aqw{H}{v}{k}{a}(h:av H v=.int k a):nA v=some (k,a):=by
 cases v with
 |lf t x=>cases t<;>simp only[av]at h<;>first|(cases h;rfl)|cases h
 |nat n=>cases h;rfl|own l=>simp only[av]at h;unfold fA at h;split at h<;>cases h|psl l z c=>
  cases c with|none=>simp only[av]at h;unfold dU at h;split at h<;>cases h|some n=>cases h
 |_=>cases h
theorem axH{H v k a}(h:nA v=some (k,a)):av H v=.int k a:=by
 unfold nA at h;split at h;·cases h;rfl
 ·cases h;rfl
 cases h
def Kup t up:=∀i k a,mem up i=true->nA (nth .unk t i)=some (k,a)->k.wrap (a+1)=a+1
def Krl t(r:List (Nat×Nat×Nat)):=∀d i j,(d,i,j)∈r->∀k a,nA (nth .unk t i)=some (k,a)->∃c,nA (nth .unk t j)=some (k,c)/\∀b,nth .unk t d=.lf .b b->b=decide (a<c)
section
variable {P:Program}{γ:Type}{b:γ}{H:List TObj}{t:List TV}{θ:Nat→Option ET}{up:List Nat}{k:Nat}{o:Oper}{K:List Nat→List TWr→Option γ}
def aqr t(o:Oper)(ws:List TWr):=∀d i j e g,o.op=.binOp .lss e (.tmp i) (.tmp j) g->o.dst=some d->
 ∃v,ws=[.sl d v]/\∀k a,nA (nth .unk t i)=some (k,a)->∃c,nA (nth .unk t j)=some (k,c)/\∀b,v=.lf .b b->b=decide (a<c)
def qj(P)H(t)k(o)(K:List Nat->List TWr->Option γ)b:=
 ∃r s w,aJ P k o (bC (aT H t)) (obj? (aA H))=some (r,w)/\((∀x∈o.op.operands,VF (bC (aT H t) x))->w=BF H s)/\aqr t o s/\K r s=some b
theorem aEU{v}{a}(h:aB P o.op (bC (aT H t))=some a)(c:(∀x∈o.op.operands,VF (bC (aT H t) x))->a=av H v)(r:aqr t o (eZ o.dst v))(d:K [] (eZ o.dst v)=some b):qj P H t k o K b:=
 ⟨[],eZ o.dst v,au o.dst a,by simp only[aJ,h],λhx=>by rw[c hx,jH],r,d⟩
def arB:Op->Bool| .binOp _ _ _ _ _=>false|_=>true
theorem ajZ(h:arB o.op=true) ws:aqr t o ws:=λ_ _ _ _ _ e=>by rw[e]at h;cases h
theorem Gp{rd ws}(h:aJ P k o (bC (aT H t)) (obj? (aA H))=some (rd,BF H ws))(a:K rd ws=some b)(n:arB o.op=true:=by rfl):qj P H t k o K b:=
 ⟨rd,ws,_,h,λ_=>rfl,ajZ n ws,a⟩
theorem lQ{v}(h:aB P o.op (bC (aT H t))=some (av H v))(a:K [] (eZ o.dst v)=some b)(n:arB o.op=true:=by rfl):qj P H t k o K b:=
 aEU h (λ_=>rfl) (ajZ n _) a
theorem zS{v K}(h:Mk v K=some b):∃k n,av H v=.int k n/\K k n=some b/\(isNat v=true->∃m:Nat,v=.nat m/\k=.i64/\n=m):=by
 unfold Mk at h;split at h;·exact⟨_,_,rfl,h,λh=>by cases h⟩
 ·rename_i m;exact⟨_,_,rfl,h,λ_=>⟨m,rfl,rfl,rfl⟩⟩
 cases h
theorem aw0{p q}{op}{tt}{k}{a c}{K}(h:apc p q op k a c K=some b)
  (j:p=true->k.wrap (a+1)=a+1) (l:q=true->k=.i64/\0<=a):
  ∃v x,lZ P op tt (.int k a) (.int k c)=some x/\(qc k a->x=av H v)/\K v=some b/\(op=.lss->v=.lf .b (decide (a<c))):=by
 have o:aoo c=true->c=1:=λh=>by unfold aoo at h;split at h;rfl;cases h
 unfold apc at h;split at h
 ·rcases aZ h with⟨f,h⟩|⟨_,h⟩
  ·simp only[qAb]at f;have:=o f.2;subst this;exact⟨_,_,by simp only[lZ,if_true,j f.1,av,jw],λ_=>rfl,h,λe=>by cases e⟩
  exact⟨_,_,by simp only[lZ,if_true,av,jw],λ_=>rfl,h,λe=>by cases e⟩
 ·rcases aZ h with⟨f,h⟩|⟨_,h⟩
  ·simp only[qAb]at f;have:=o f.2;subst this;obtain⟨rfl,d⟩:=l f.1;refine⟨.lf (.n .i64) (a - 1),_,by simp only[lZ,if_true];rfl,λhw=>?_,h,λe=>by cases e⟩;have g:a<=9223372036854775807:=hw.2;exact congrArg (AV.int .i64) (axa (n:=a - 1) (by omega) (by omega)).symm
  exact⟨_,_,by simp only[lZ,if_true,av,jw],λ_=>rfl,h,λe=>by cases e⟩
 ·exact⟨_,_,by simp only[lZ,if_true,av,jw],λ_=>rfl,h,λe=>by cases e⟩
 ·split at h
  ·obtain⟨x,d,g⟩:=ob h;unfold arH at d;split at d
   ·cases d
   rename_i i;cases d;exact⟨_,_,by simp only[lZ,if_true,i,if_false,av,jw],λ_=>rfl,g,λe=>by cases e⟩
  cases h
 ·obtain⟨x,d,g⟩:=ob h;unfold aeM at d;split at d
  ·cases d
  rename_i i;cases d;exact⟨.lf (.n k) _,_,by simp only[lZ,if_true,i,if_false,av,jw],λ_=>rfl,g,λe=>by cases e⟩
 ·exact⟨_,_,by simp only[lZ,if_true,av,jw],λ_=>rfl,h,λe=>by cases e⟩
 ·exact⟨_,_,by simp only[lZ,if_true,av,jw],λ_=>rfl,h,λe=>by cases e⟩
 ·exact⟨_,_,by simp only[lZ,if_true,av,jw],λ_=>rfl,h,λ_=>rfl⟩
 ·exact⟨_,_,by simp only[lZ,if_true,av,jw],λ_=>rfl,h,λe=>by cases e⟩
 ·exact⟨_,_,by simp only[lZ,if_true,av,jw],λ_=>rfl,h,λe=>by cases e⟩
 ·exact⟨_,_,by simp only[lZ,if_true,av,jw],λ_=>rfl,h,λe=>by cases e⟩
 ·split at h
  ·obtain⟨x,d,g⟩:=ob h;unfold Zi at d;split at d
   ·rename_i i;cases d;have f:(IntKind.i64.bits:Int)=64:=rfl;exact⟨.lf (.n .i64) _,_,by simp only[lZ,if_true,f];rw[if_pos ⟨i.1,by omega⟩];rfl,λ_=>rfl,g,λe=>by cases e⟩
   cases d
  cases h
 ·obtain⟨x,d,g⟩:=ob h;unfold apa at d;split at d
  ·rename_i i;cases d;exact⟨.lf (.n k) _,_,by simp only[lZ,if_true];rw[if_pos i];rfl,λ_=>rfl,g,λe=>by cases e⟩
  cases d
 cases h
theorem aDq{op tt a c K}(h:aAW op a c K=some b):∃v,lZ P op tt (.str a) (.str c)=some (av H v)/\K v=some b:=by
 unfold aAW at h;split at h
 ·obtain⟨x,d,e⟩:=ob h;unfold avD at d;split at d
  ·rename_i f;cases d;exact⟨_,by simp only[lZ,if_pos f];rfl,e⟩
  cases d
 all_goals first|cases h|exact⟨_,rfl,h⟩
theorem aCQ{p o}{op}{tt}{x y}{K}(h:aBk (TI.of P) p o op tt x y K=some b)
  (w:p=true->∀k a,nA x=some (k,a)->k.wrap (a+1)=a+1):
  ∃v r,lZ P op tt (av H x) (av H y)=some r/\(VF (av H x)->r=av H v)/\K v=some b/\(op=.lss->∀k a,nA x=some (k,a)->∃c,nA y=some (k,c)/\v=.lf .b (decide (a<c))):=by
 unfold aBk at h;split at h
 ·rcases aZ h with⟨d,h⟩|⟨_,h⟩
  ·have d:aib P tt=true:=d;split at h
   all_goals first
    |cases h
    |(refine⟨_,_,?_,λ_=>rfl,h,λe=>by cases e⟩;simp only[av,jw,lZ,d,if_true,KL];done)|(refine⟨_,_,?_,λ_=>rfl,h,λe=>by cases e⟩;simp only[av,jw,lZ,d,if_true,KL];rename_i l _;cases l<;>rfl)
  cases h
 ·split at h
  ·obtain⟨v,g,i⟩:=aDq (H:=H) h;exact⟨v,_,g,λ_=>rfl,i,λ_ k a f=>by cases f⟩
  cases h
 ·split at h
  ·rcases aZ h with⟨d,h⟩|⟨_,h⟩
   ·have d:acf P tt=true:=d;unfold aBO at h;split at h
    all_goals first|cases h|exact⟨_,_,by simp only[av,jw,lZ,d,if_true],λ_=>rfl,h,λe=>by cases e⟩
   cases h
  cases h
 obtain⟨s,a,j,g,z⟩:=zS (H:=H) h;obtain⟨t,c,u,i,_⟩:=zS (H:=H) g;rcases aZ i with⟨n,q⟩|⟨_,q⟩
 ·have n:s=t:=by have:=qAj n;cases s<;>cases t<;>first|rfl|cases this
  subst n;obtain⟨v,r,A,B,C,D⟩:=aw0 (P:=P) (H:=H) (tt:=tt) q (λe=>w (qBF.1 e).1 _ _ (aqw j)) (λe=>by obtain⟨m,rfl,rfl,rfl⟩:=z (qBF.1 e).1;exact⟨rfl,by omega⟩)
  rw[j,u];exact⟨v,r,A,B,C,λe k E f=>by rw[aqw j]at f;cases f;exact⟨c,aqw u,D e⟩⟩
 cases q
end
end
end
section
open Go
section
variable {P:Program}{γ:Type}{b:γ}{H:List TObj}{t:List TV}{θ:Nat→Option ET}{up:List Nat}{k:Nat}{d:Option Tmp}{ty:TypeId}{ps:String}{aft:Array Edge}{gd:Option (Nat×Bool)}{K:List Nat→List TWr→Option γ}
theorem TS H v:av H (Pn v)=av H v:=by cases v<;>rfl
theorem yC{H k}(h:lM (nth .dead H k)=true):bS (obj? (aA H) k)=true:=by
 rw[jT];unfold lM at h;split at h;·rename_i e;rw[e];rfl
 cases h
theorem afx{v K}(h:agW H v K=some b):∃e x t,av H v=.slice (x.map e.enc) t/\K e x=some b:=by
 unfold agW at h;split at h;·exact⟨_,_,_,rfl,h⟩
 ·split at h
  ·rename_i l;exact⟨_,_,_,by simp only[av,l];rfl,h⟩
  ·rename_i l;exact⟨_,_,_,by simp only[av,l];rfl,h⟩
  cases h
 cases h
abbrev op'(d:Option Tmp)(op:Op)(ty:TypeId)(ps:String)(a:Array Edge)(g:Option (Nat×Bool)):Oper:=⟨d,op,ty,ps,a,g⟩
theorem aDj{x}(h:dG (TI.of P) θ up k d t H (.move x) K=some b):qj P H t k (op' d (.move x) ty ps aft gd) K b:=
 lQ (v:=fq t x) (by simp only[aB,bN]) h
theorem ayc{x}(h:dG (TI.of P) θ up k d t H (.assign x) K=some b):qj P H t k (op' d (.assign x) ty ps aft gd) K b:=
 lQ (v:=fq t x) (by simp only[aB,bN]) h
theorem aDO{c x y}(h:dG (TI.of P) θ up k d t H (.pick c x y) K=some b):qj P H t k (op' d (.pick c x y) ty ps aft gd) K b:=by
 simp only[dG]at h;split at h
 ·rename_i q a;rcases aZ h with⟨e,h⟩|⟨e,h⟩
  ·exact lQ (v:=fq t x) (by simp only[aB,bN,a,av,jw,e,if_true]) h
  exact lQ (v:=fq t y) (by simp only[aB,bN,a,av,jw,e,qBN,if_false]) h
 cases h
theorem asK{x}(h:dG (TI.of P) θ up k d t H (.nilCheck x) K=some b):qj P H t k (op' d (.nilCheck x) ty ps aft gd) K b:=by
 simp only[dG]at h;split at h
 ·rename_i e l a;obtain⟨p,g,i⟩:=ob h;have j:l=p.1::p.2:=by cases l with
   |nil=>cases g|cons y r=>cases g;rfl
  refine lQ (v:=.eptr [e.seg p.1,.lf (.f e) p.2]) ?_ i;have m:aX H [e.seg p.1,.lf (.f e) p.2]=e.enc p.1++[.flist (List.map e.enc p.2)]:=by have:=ajk H e p.1;rw[show[e.seg p.1,TV.lf (.f e) p.2]=[e.seg p.1]++[TV.lf (.f e) p.2]from rfl,FD,this];rfl
  simp only[aB,bN,a,av,jw,m,j,qAz]
 ·rename_i l o a;exact lQ (v:=.ptr l o) (by simp only[aB,bN,a,av]) h
 ·rename_i c a;exact lQ (v:=.eptr c) (by simp only[aB,bN,a,av]) h
 ·rename_i f c a;exact lQ (v:=.func f c) (by simp only[aB,bN,a,av]) h
 cases h
theorem aAb{op}{tt e}{x y}(l:Kup t up)(h:dG (TI.of P) θ up k d t H (.binOp op tt x y e) K=some b):qj P H t k (op' d (.binOp op tt x y e) ty ps aft gd) K b:=by
 simp only[dG]at h;obtain⟨v,r,m,n,o,p⟩:=aCQ (P:=P) (H:=H) h (λhp q a s=>by
  split at hp;·rename_i i;exact l i q a hp s
  cases hp)
 refine aEU (v:=v) (a:=r) (by simp only[aB,bN];exact m) (λhv=>n ?_) ?_ o;·rw[<-bN];exact hv x (by simp[Op.operands])
 intro D i j u g w z;obtain⟨rfl,rfl,rfl,rfl,rfl⟩:=w;subst z;refine⟨v,rfl,λk a A=>?_⟩;obtain⟨c,B,C⟩:=p rfl k a A;exact⟨c,B,λb f=>by rw[C]at f;cases f;rfl⟩
theorem aDb{op tt x}(h:dG (TI.of P) θ up k d t H (.unOp op tt x) K=some b):qj P H t k (op' d (.unOp op tt x) ty ps aft gd) K b:=by
 simp only[dG]at h;split at h;·rename_i q a;exact lQ (v:=.lf .b (!q)) (by simp only[aB,bN,a,av,jw]) h
 ·rename_i c n a;exact lQ (v:=.lf (.n c) _) (by simp only[aB,bN,a,av,jw]) h
 cases h
theorem aoU{s f:Nat}{x}(h:dG (TI.of P) θ up k d t H (.fieldAddr s x f) K=some b):qj P H t k (op' d (.fieldAddr s x f) ty ps aft gd) K b:=by
 simp only[dG]at h;rw[QO]at h;split at h
 ·rename_i g p e;split at h
  ·rename_i l o c;exact lQ (v:=.ptr l (o+g)) (by simp only[aB,bN,c,e,av]) h
  ·rename_i q c;obtain⟨a,r,j,m,n⟩:=xS (H:=H) _ _ _ _ h;exact lQ (v:=.eptr r) (by simp only[aB,bN,c,e,av,j,<-m,qDb]) n
  ·rename_i l i z o c;exact lQ (v:=.ap l i z (o+g)) (by simp only[aB,bN,c,e,av,qBT]) h
  cases h
 cases h
theorem aAY{s f:Nat}{x}(h:dG (TI.of P) θ up k d t H (.field s x f) K=some b):qj P H t k (op' d (.field s x f) ty ps aft gd) K b:=by
 simp only[dG]at h;rw[QO]at h;have c:∀(o:Nat) (a:TypeId) (g:List TV),zP P s f=some (o,a)->av H (fq t x)=.agg (aX H g)->(ldK (TI.of P) a o g λv=>K [] (eZ d (Pn v)))=some b->qj P H t k (op' d (.field s x f) ty ps aft gd) K b:=λfo a g j i h=>by obtain⟨v,l,m⟩:=aa4 (H:=H) h;exact lQ (v:=Pn v) (by simp only[aB,bN,i,j,l,TS]) m
 split at h
 ·rename_i o a j;split at h
  ·rename_i g i;exact c o a g j (by rw[i];rfl) h
  ·rename_i e y i;exact c o a _ j (by rw[i];simp only[av,jw,aX,zM,qAt]) h
  cases h
 cases h
theorem NU{e sz}(h:aaI e sz=true):e.sz=sz:=qAj h
theorem aGI{tt sz}(h:(TI.of P tt).ix=.sl (some sz)):∃e,P.underlying tt=some (.slice e)/\sizeT P e=some sz:=by
 have h:Pv P tt=.sl (some sz):=h;unfold Pv at h
 grind
theorem ax4{n K}{b:γ}:∀m q,atK n m q K=some b->∃r,q<=r/\r<q+m/\n=r/\K r=some b
 |0,_,h=>by cases h|m+1,q,h=>by
  rcases aZ h with⟨c,h⟩|⟨_,h⟩
  ·grind
  obtain⟨r,a,d,e⟩:=ax4 m (q+1) h
  grind
theorem aDD{len x c}(h:Dw len x=some c):0<=x/\x<=len/\c=x.toNat:=by
 unfold Dw at h;split at h;·grind
 cases h
theorem aqN{tt x i}(h:dG (TI.of P) θ up k d t H (.indexAddr tt x i) K=some b):qj P H t k (op' d (.indexAddr tt x i) ty ps aft gd) K b:=by
 simp only[dG]at h;split at h
 ·rename_i s c;obtain⟨C,n,j,f,_⟩:=zS (H:=H) h;split at f
  ·rename_i l z m;split at f
   ·rename_i e D M;rcases aZ f with⟨g,a⟩|⟨_,a⟩
    ·have g:z=s:=qAj g;obtain⟨y,p,r⟩:=ob a;obtain⟨A,E,B⟩:=Lh p;have F:(TI.of P tt).ix=.sl (some s):=c;obtain⟨N,O,G⟩:=aGI F;refine lQ (v:=.ap l n z 0) ?_ r;simp only[aB,bN,m,av,dU]
     grind
    cases a
   cases f
  obtain⟨e,D,Q,I,a⟩:=afx f;rcases aZ a with⟨g,a⟩|⟨_,a⟩
  ·have g:=NU g;obtain⟨y,p,r⟩:=ob a;obtain⟨A,E,B⟩:=Lh p;obtain⟨v,u,w⟩:=aao (P:=P) (t:=tt) (x:=x) (i:=i) (ρ:=bC (aT H t)) (K:=λv=>v=.eptr (e.enc y)) (by simp only[bN];rw[c,j,I];exact⟨e.enc y,by rw[qAH,B];rfl,A,by rw[JA];exact g,rfl⟩)
   exact lQ (v:=.eptr [e.seg y]) (by rw[u,w];simp only[av,ajk]) r
  cases a
 ·rename_i J s c;split at h
  ·rename_i l o m;obtain⟨C,n,j,f,_⟩:=zS (H:=H) h;obtain⟨q,R,S,L,a⟩:=ax4 _ _ f;obtain⟨v,u,w⟩:=aao (P:=P) (t:=tt) (x:=x) (i:=i) (ρ:=bC (aT H t)) (K:=λv=>v=.ptr l (o+q*s)) (by simp only[bN];rw[c,j,m];exact⟨⟨by omega,by omega⟩,by rw[L];rfl⟩)
   exact lQ (v:=.ptr l (o+q*s)) (by rw[u,w];rfl) a
  cases h
 cases h
theorem aAf{tt x i}(h:dG (TI.of P) θ up k d t H (.index tt x i) K=some b):qj P H t k (op' d (.index tt x i) ty ps aft gd) K b:=by
 simp only[dG]at h;split at h
 ·rename_i s e;rcases aZ h with⟨c,h⟩|⟨_,h⟩
  ·have c:aB.isStrT P tt=true:=c;obtain⟨m,n,f,g,_⟩:=zS (H:=H) h;obtain⟨y,a,j⟩:=ob g;unfold nC at a;split at a
   ·rename_i l;cases a;exact lQ (v:=.lf (.n .u8) _) (by simp only[aB,bN,e,f,av,jw];rw[if_pos ⟨c,l⟩]) j
   cases a
  cases h
 cases h
theorem av3{x i}(h:dG (TI.of P) θ up k d t H (.extract x i) K=some b):qj P H t k (op' d (.extract x i) ty ps aft gd) K b:=by
 simp only[dG]at h;split at h
 ·rename_i s c;rcases aZ h with⟨a,h⟩|⟨_,h⟩
  ·have a:i<s.length:=qAe a;refine lQ (v:=Pn (nth .unk s i)) ?_ h;simp only[aB,bN,c,av];simp only[sS,qAg,a,if_true,TS,iK,List.getD,qAH,qAc a,qAx,qAv]
  cases h
 cases h
theorem KY{v d K}(h:P9 v d K=some b):∃n,Bd (v.map (av H)) n d/\K n=some b:=by
 unfold P9 at h;split at h;·exact⟨_,.none _,h⟩
 obtain⟨k,n,e,a,_⟩:=zS (H:=H) h;exact⟨n,by simp only[qAx,e];exact .int _ _ _,a⟩
theorem aoz H t (x:Option Operand):x.map (bC (aT H t))=(x.map (fq t)).map (av H):=by cases x<;>simp[bN]
theorem aBD{tt}{x}{lo hi}(h:dG (TI.of P) θ up k d t H (.slice tt x lo hi none) K=some b):qj P H t k (op' d (.slice tt x lo hi none) ty ps aft gd) K b:=by
 simp only[dG]at h;split at h
 ·rename_i s p;rcases aZ h with⟨u,h⟩|⟨_,h⟩
  ·obtain⟨w,j,h⟩:=KY (H:=H) h;obtain⟨m,i,h⟩:=KY (H:=H) h;obtain⟨y,o,a⟩:=ob h;obtain⟨r,⟨A,C,D,E,F⟩,G⟩:=aGK (B:=λr=>r=y) o j i rfl;obtain⟨v,I,J⟩:=abl (P:=P) (t:=tt) (x:=x) (lo:=lo) (hi:=hi) (ρ:=bC (aT H t)) (K:=λv=>v=.str y) (by rw[bN,p,aoz,aoz];rw[show(TI.of P tt).isStr=true from u];exact⟨A,C,D,E,by rw[<-F,G]⟩)
   exact lQ (v:=.lf .s y) (by rw[I,J];rfl) a
  cases h
 ·rename_i l z p;split at h
  ·rename_i e L M j g;obtain⟨m,i,h⟩:=KY (H:=H) h;obtain⟨c,o,a⟩:=ob h;obtain⟨S,T,U⟩:=aDD o;have u:aB.sliceT P tt=some M:=g;refine lQ (v:=.psl l z (some c)) ?_ a;have Q:dQ (hi.map (bC (aT H t))) L.length L.length=some c:=by
    rw[aoz];generalize Option.map (av H) (Option.map (fq t) hi)=q at i;cases i with
    |none=>simp[dQ];omega|int k n=>simp[dQ];omega
   simp only[aB,bN,p,av,j,dU,u,Q]
  cases h
 split at h
 ·rename_i M g;obtain⟨e,L,V,R,a⟩:=afx h
  ·rcases aZ a with⟨N,h⟩|⟨_,h⟩
   ·have N:=NU N;obtain⟨w,j,h⟩:=KY (H:=H) h;obtain⟨m,i,h⟩:=KY (H:=H) h;obtain⟨y,o,a⟩:=ob h;obtain⟨r,⟨A,C,D,E,O,F⟩,G⟩:=aGM (f:=e.enc) (sz:=e.sz) (B:=λr=>r=y.map e.enc) o j i (OC e) rfl;obtain⟨v,I,J⟩:=abl (P:=P) (t:=tt) (x:=x) (lo:=lo) (hi:=hi) (ρ:=bC (aT H t)) (K:=λv=>v=.slice (y.map e.enc) .shared) (by rw[bN,R,aoz,aoz];rw[g];exact⟨A,C,D,E,by rw[<-N];exact O,by rw[<-F,G]⟩)
    exact lQ (v:=.lf (.l e) y) (by rw[I,J];rfl) a
   cases h
 cases h
end
end
section
open Go
section
variable {P:Program}{γ:Type}{b:γ}{H:List TObj}{t:List TV}{θ:Nat→Option ET}{up:List Nat}{k:Nat}{d:Option Tmp}{ty:TypeId}{ps:String}{aft:Array Edge}{gd:Option (Nat×Bool)}{K:List Nat→List TWr→Option γ}
theorem akD{a}(h:okA a=true):av H (WB a)=a/\one (WB a):=by unfold okA at h;split at h<;>first|exact⟨rfl,λ_=>rfl⟩|cases h
theorem Po:∀{z:List AV},abu z=true->aX H (z.map WB)=z|[],_=>rfl|a::z,h=>by simp only[abu,qAb]at h;simp only[qAz,aX,(akD (H:=H) h.1).2 _,(akD (H:=H) h.1).1,Po h.2,qAO,qAs]
theorem auo{z}(h:okZ z=true):av H (aa7 z)=z:=by
 have k:okA z=true->aa7 z=WB z->av H (aa7 z)=z:=λh e=>by rw[e];exact(akD h).1
 cases z with|agg c=>simp only[aa7,av,Po (show abu c=true from h)]|_=>exact k h rfl
theorem ao0{place}:∀l cs K,ahO H place l cs K=some b->∃s,kg place (aX H cs) (l.map λp=>(p.1,av H p.2))=some (aX H s)/\K s=some b:=by
 intro l
 induction l with|nil=>intro cs K h;exact⟨cs,rfl,h⟩|cons p l i=>
  intro cs K h;simp only[ahO]at h;split at h
  ·rename_i o z f;split at h
   ·rename_i n g;rcases aZ h with⟨w,h⟩|⟨_,h⟩
    ·have w:(aX H n).length=z:=by rw[kM];exact qAj w
     obtain⟨a,r,d,j,k⟩:=xS (H:=H) _ _ _ _ h;obtain⟨c,m,q,y,t⟩:=xS (H:=H) _ _ _ _ k;obtain⟨s,e,u⟩:=i _ _ t;refine⟨s,?_,u⟩;have v:(aX H cs).take o=aX H a:=by rw[d,<-j,qDG]
     have x:(aX H cs).drop (o+z)=aX H m:=by grind
     simp only[qAz,kg,f,Gd g];rw[if_pos ⟨w,by rw[d,q];simp;omega⟩,v,x];rw[FD,FD,<-qAm]at e;exact e
    cases h
   cases h
  cases h
theorem al1(l:List (Nat×Operand)):(l.map λp=>(p.1,bC (aT H t) p.2))=(l.map λp=>(p.1,fq t p.2)).map λp=>(p.1,av H p.2):=by rw[qBl];exact qBq λp _=>by simp only[Function.comp,bN]
theorem aA3{tt p}(h:dG (TI.of P) θ up k d t H (.build tt p) K=some b):qj P H t k (op' d (.build tt p) ty ps aft gd) K b:=by
 rcases aZ h with⟨s,h⟩|⟨_,h⟩
 ·have s:xV P tt=true:=s;split at h
  ·rename_i z a;have a:kr P tt=some z:=a;rcases aZ h with⟨o,h⟩|⟨_,h⟩
   ·obtain⟨c,e,f⟩:=ao0 _ _ _ h;rw[Po o,<-al1,funext (amd P tt)]at e;exact lQ (v:=abH c) (by simp only[aB,s,if_true,a,e,qAx,ajN]) f
   cases h
  cases h
 rename_i s;have s:xV P tt=false:=s;split at h
 ·rename_i l g z i a;have a:kr P tt=some z:=a;have i:Pv P tt=.arr l (some g):=i;have j:aeF P tt=some g:=by
   unfold Pv at i;unfold aeF
   grind
  rcases aZ h with⟨o,h⟩|⟨_,h⟩
  ·obtain⟨c,e,f⟩:=ao0 _ _ _ h;rw[Po o,<-al1]at e;exact lQ (v:=abH c) (by simp only[aB,s,qBN,if_false,j,a,e,qAx,ajN]) f
  cases h
 cases h
theorem asE{f:Nat}{first cap}(h:dG (TI.of P) θ up k d t H (.makeFunc (.func f) first cap) K=some b):qj P H t k (op' d (.makeFunc (.func f) first cap) ty ps aft gd) K b:=by
 rcases aZ h with⟨s,h⟩|⟨_,h⟩
 ·have s:=qAj s;refine lQ (v:=.func f (cap.toList.map λx=>Pn (fq t x))) ?_ h;simp only[aB,s,if_true,av,sS,qBl,Option.some.injEq,AV.func.injEq,true_and];exact qBq λx _=>by simp only[Function.comp,TS];rw[<-sS,bN]
 cases h
theorem aDy{tt x}(h:dG (TI.of P) θ up k d t H (.load tt x) K=some b):qj P H t k (op' d (.load tt x) ty ps aft gd) K b:=by
 simp only[dG]at h;split at h;·rename_i s a;obtain⟨v,c,f⟩:=aa4 (H:=H) h;exact lQ (v:=Pn v) (by simp only[aB,bN,a,av,TS];simpa using c) f
 ·rename_i l o a;split at h
  ·rename_i s m;obtain⟨v,c,f⟩:=aa4 (H:=H) h;refine Gp (rd:=[l]) (ws:=eZ d (Pn v)) ?_ f;simp only[aJ,aB,bN,a,av,jT,m,fJ,c,qAx,jH,TS]
  cases h
 ·rename_i l i z o a;split at h
  ·rename_i e u m;rcases aZ h with⟨n,g⟩|⟨_,h⟩
   ·clear h;simp only[qAb]at n;obtain⟨j,p,q⟩:=n;have j:z=e.sz:=qAj j;have p:o=0:=qAj p;have q:1<=z:=qAe q;subst j;obtain⟨y,c,g⟩:=ob g;obtain⟨B,C,w⟩:=Lh c;obtain⟨v,f,A⟩:=aa4 (H:=H) g;rw[ajk,qAW]at f;refine Gp (rd:=[l]) (ws:=eZ d (Pn v)) ?_ A;have D:(i.toNat*e.sz+0)/e.sz=i.toNat:=by rw[qAP,qDe _ (by omega)]
    have r:(u.map e.enc).getD i.toNat []=e.enc y:=by simp[w]
    simp only[aJ,aB,bN,a,av,jT,fJ,jH,TS]
    grind
   cases h
  cases h
 cases h
theorem auV{s tt}{x}(h:dG (TI.of P) θ up k d t H (.convert s tt x) K=some b):qj P H t k (op' d (.convert s tt x) ty ps aft gd) K b:=by
 simp only[dG]at h;have e:∀(c:IntKind) (n:Int),av H (fq t x)=.int c n->(bif (TI.of P s).int.isSome then(match(TI.of P tt).int with|some k=>K [] (eZ d (.lf (.n k) (k.wrap n)))|none=>none)else none)=some b->qj P H t k (op' d (.convert s tt x) ty ps aft gd) K b:=λkk n a h=>by
  rcases aZ h with⟨j,h⟩|⟨_,h⟩
  ·split at h
   ·rename_i i f;have l:=akb f;obtain⟨o,g⟩:=qCv.1 j;have m:=akb g;refine lQ (v:=.lf (.n i) (i.wrap n)) ?_ h;simp only[aB,bN,a,aB.convT,m,l,av,jw]
   cases h
  cases h
 split at h;·rename_i c n a;exact e _ _ (by rw[a];rfl) h
 ·rename_i n a;exact e .i64 n (by rw[a];rfl) h
 cases h
theorem afj:∀{cs:List TV},afS H cs=true→(aX H cs).all isScalar=true
 |[],_=>rfl
 |v::cs,h=>by
  simp only[afS,qAb]at h;simp only[aX,qEf,afj h.2,qBE];have h1:=h.1;cases v with
  |lf tt x=>cases tt<;>first|rfl|(cases h1;done)|(rename_i e;have:=OC e x;simp only[bX,qAb]at this;exact this.2)
  |own l=>
   simp only[scB]at h1;split at h1
   ·rename_i hl;simp only[av,hl];rfl
   ·rename_i hl;simp only[av,hl];rfl
   ·cases h1
  |psl l z c=>
   cases c with
   |some n=>rfl
   |none=>
    simp only[scB]at h1;split at h1
    ·rename_i hl;simp only[av,hl];rfl
    ·rename_i hl;simp only[av,hl];rfl
    ·cases h1
  |_=>first|rfl|(cases h1;done)
theorem amo{cs}{off}{vs}{K}(h:uD cs off vs K=some b):∃s,uD cs off vs some=some s/\K s=some b:=by
 have k:∀(f:Nat) (cs:List TV) (n:Nat) (K:List TV->List TV->Option γ),splitK f cs n K=some b->∃a r,(∀{p:Type} (d:List TV->List TV->Option p),splitK f cs n d=d a r)/\K a r=some b:=by
  intro f
  induction f with|zero=>intro cs n K h;cases h|succ f o=>
   intro cs n K h;unfold splitK at h;cases n with|zero=>exact⟨[],cs,λK'=>by unfold splitK;rfl,h⟩|succ m=>
    cases cs with|nil=>cases h|cons c r=>
     rcases aZ h with⟨w,g⟩|⟨w,g⟩
     ·obtain⟨a,l,i,j⟩:=o _ _ _ g;exact⟨c::a,l,λK'=>by unfold splitK;simp only[w];exact i _,j⟩
     split at g;·rename_i e x;obtain⟨a,l,i,j⟩:=o _ _ _ g;exact⟨a,l,λK'=>by unfold splitK;simp only[w];exact i _,j⟩
     cases g
 obtain⟨a,r,i,j⟩:=k _ _ _ _ h;obtain⟨c,l,q,t⟩:=k _ _ _ _ j;exact⟨_,by unfold uD;rw[i,q],t⟩
theorem atB{cs cs' vs off} H (h:uD cs off vs some=some cs'):aX H cs'=(aX H cs).take off++aX H vs++(aX H cs).drop (off+(aX H vs).length)/\off+(aX H vs).length<=(aX H cs).length:=by
 unfold uD at h;obtain⟨a,r,b,e,f⟩:=xS (H:=H) _ _ _ _ h;obtain⟨c,g,d,i,j⟩:=xS (H:=H) _ _ _ _ f;cases j;rw[<-kM H vs]at i;have k:(aX H cs).take off=aX H a:=by rw[b,<-e,qDG]
 have l:(aX H cs).drop (off+(aX H vs).length)=aX H g:=by rw[b,d,<-qAm,qDB (by simp only[qAf];omega)]
 refine⟨by rw[FD,FD,k,l,qAm],?_⟩;rw[b,d];simp only[qAf];omega
theorem ap1{xs ys}(h:Cvs false xs ys):xs=ys:=by
 induction h with|nil=>rfl|cons h _ i=>rw[i];cases h;rfl
theorem aAd{tt x y}(h:dG (TI.of P) θ up k d t H (.store tt x y) K=some b):qj P H t k (op' d (.store tt x y) ty ps aft gd) K b:=by
 simp only[dG]at h;split at h
 ·rename_i l o v;split at h
  ·rename_i n s w a;have a:sizeT P tt=some s:=a;split at h
   ·rename_i A q;rcases aZ h with⟨g,h⟩|⟨_,h⟩
    ·simp only[qAb]at g;obtain⟨⟨c,f⟩,B⟩:=g;have c:(aX H n).length=s:=by rw[kM];exact qAj c
     have f:o+s<=(aX H A).length:=by rw[kM];exact qAe f
     refine Gp ?_ h;simp only[aJ,aB,bN,v,av,Gd w,jT,q,fJ];rw[if_pos ⟨by rw[c];exact a,by rw[c];exact f,afj B⟩];simp only[BF,Hg,q,fJ,jH];rfl
    cases h
   cases h
  cases h
 ·rename_i l i z o v;split at h
  ·rename_i n s w a;have a:sizeT P tt=some s:=a;split at h
   ·rename_i e j q;rcases aZ h with⟨g,J⟩|⟨_,h⟩
    ·clear h;simp only[qAb]at g;obtain⟨⟨c,f,D,E⟩,B⟩:=g;have c:(aX H n).length=s:=by rw[kM];exact qAj c
     have f:z=e.sz:=qAj f;subst f;have D:1<=s:=qAe D;have E:o+s<=e.sz:=qAe E;obtain⟨x,L,h⟩:=ob J;obtain⟨Y,Z,M⟩:=Lh L;obtain⟨A,N,h⟩:=amo h;obtain⟨u,r,ys,C,O,Q⟩:=Ud _ _ _ _ h;split at C
     ·obtain⟨F,rfl,R⟩:=jN C;have S:aX H A=e.enc F:=by rw[O];simp only[aX,qAt];exact(ap1 Q).symm
      have G:=(atB H N).1;rw[WY]at G;have T:(i.toNat*e.sz+o)/e.sz=i.toNat:=by rw[qBB,qDA (by omega),qDu (by omega),qAP]
      have U:(i.toNat*e.sz+o)%e.sz=o:=by rw[qBB,qCS,qCe (by omega)]
      have m:i.toNat<(j.map e.enc).length:=by rw[qAg];omega
      have p:(j.map e.enc).getD i.toNat []=e.enc x:=by simp[List.getD,M]
      refine Gp ?_ R;have V:(upd j i F).map e.enc=(j.map e.enc).set i.toNat ((e.enc x).take o++aX H n++(e.enc x).drop (o+(aX H n).length)):=by rw[<-G,S,upd,qCU]
      simp only[aJ,aB,bN,v,av,Gd w,jT,q,fJ,T,U,BF,Hg,ET.eq_self,jH,V,p];by_cases I:sizeT P tt=some (aX H n).length/\(aX H n).length=e.sz/\i.toNat*e.sz+o=i.toNat*e.sz/\i.toNat<(j.map e.enc).length/\(aX H n).all isScalar
      ·rw[if_pos I];have W:o=0:=by omega
       subst W;have X:(e.enc x).drop (0+(aX H n).length)=[]:=qDD (by rw[JA];omega);rw[X,qAT,qAs,qAt];rfl
      rw[if_neg I,if_pos ⟨by rw[c];exact a,by omega,m,by omega,afj B⟩];rfl
     cases C
    cases h
   cases h
  cases h
 cases h
theorem aAG{tt}(h:dG (TI.of P) θ up k d t H (.alloc tt) K=some b):qj P H t k (op' d (.alloc tt) ty ps aft gd) K b:=by
 simp only[dG]at h;split at h
 ·rename_i z a;have a:kr P tt=some z:=a;rcases aZ h with⟨c,h⟩|⟨_,h⟩
  ·simp at c;refine Gp (rd:=[k]) ?_ h;simp only[aJ,aB,yC c.2,if_true,a,qAx,BF,Hg,fJ,Po c.1,jH,av]
  cases h
 cases h
theorem aFc{tt x}(h:dG (TI.of P) θ up k d t H (.box tt x) K=some b)(a:∀cs,Em H (fq t x)=some cs->lM (nth .dead H k)=true->aX (H.set k (.box cs)) cs=aX H cs):qj P H t k (op' d (.box tt x) ty ps aft gd) K b:=by
 simp only[dG]at h;split at h
 ·rename_i cs c;rcases aZ h with⟨e,h⟩|⟨_,h⟩
  ·refine Gp (rd:=[k]) ?_ h;simp only[aJ,aB,yC e,if_true,bN,Gd c,qAx,BF,Hg,fJ,jH,av,a cs c e]
  cases h
 cases h
theorem awq{tt}(h:dG (TI.of P) θ up k d t H (.makeMap tt none) K=some b):qj P H t k (op' d (.makeMap tt none) ty ps aft gd) K b:=by
 simp only[dG]at h;split at h
 ·split at h
  ·rcases aZ h with⟨c,h⟩|⟨_,h⟩
   ·refine Gp (rd:=[k]) ?_ h;simp only[aJ,aB,yC c,if_true,BF,Hg,fJ,qCT,jH,av]
   cases h
  cases h
 cases h
theorem aE5{args f}(h:dG (TI.of P) θ up k d t H (.call {callee:=.builtin .len,args,argTypes:=f}) K=some b):qj P H t k (op' d (.call {callee:=.builtin .len,args,argTypes:=f}) ty ps aft gd) K b:=by
 simp only[dG]at h;split at h
 ·rename_i x i j c;split at h
  ·rename_i s g;rcases aZ h with⟨a,h⟩|⟨_,h⟩
   ·have a:aB.isStrT P i=true:=a;refine lQ (v:=.nat s.length) ?_ h;simp only[aB,j,c,bN,g,av,jw,a,if_true]
   cases h
  ·rename_i g;rcases aZ h with⟨a,h⟩|⟨_,h⟩
   ·have a:(aB.sliceT P i).isSome=true:=a;refine lQ (v:=.nat 0) ?_ h;simp only[aB,j,c,bN,g,a];rfl
   cases h
  ·rename_i l z g;split at h
   ·rename_i e m n;rcases aZ h with⟨a,h⟩|⟨_,h⟩
    ·have a:(aB.sliceT P i).isSome=true:=a;refine lQ (v:=.nat m.length) ?_ h;simp only[aB,j,c,bN,g,av,n,dU,a,if_true]
    cases h
   cases h
  rcases aZ h with⟨a,h⟩|⟨_,h⟩
  ·have a:(aB.sliceT P i).isSome=true:=a;obtain⟨e,m,q,o,p⟩:=afx h;refine lQ (v:=.nat m.length) ?_ p;simp only[aB,j,c,bN,o,a,if_true,av,qAg]
  cases h
 cases h
theorem aEu{args s}(h:dG (TI.of P) θ up k d t H (.call {callee:=.builtin .min,args,argTypes:=s}) K=some b):qj P H t k (op' d (.call {callee:=.builtin .min,args,argTypes:=s}) ty ps aft gd) K b:=by
 simp only[dG]at h;split at h
 ·rename_i x y j;obtain⟨e,a,l,m,_⟩:=zS (H:=H) h;obtain⟨i,c,n,o,_⟩:=zS (H:=H) m;rcases aZ o with⟨f,g⟩|⟨_,g⟩
  ·have f:e=i:=by have:=qAj f;cases e<;>cases i<;>first|rfl|cases this
   subst f;refine lQ (v:=.lf (.n e) (if c<a then c else a)) ?_ g;simp only[aB,j,bN,l,n,if_true,av,jw]
  cases g
 cases h
end
end
section
open Go
section
variable {P:Program}{γ:Type}{b:γ}{H:List TObj}{t:List TV}{θ:Nat→Option ET}{up:List Nat}{k:Nat}{d:Option Tmp}{ty:TypeId}{ps:String}{aft:Array Edge}{gd:Option (Nat×Bool)}{K:List Nat→List TWr→Option γ}
theorem I9{k}(h:lM (nth .dead H k)=true):k<H.length:=by apply qAp;intro n;rw[iK,List.getD,qAE (qBb n)]at h;cases h
theorem bM{α d}{l:List α}{k v}(h:k<l.length):nth d (l.set k v) k=v:=by rw[iK];simp[h]
theorem aU{α d l k m}{v:α}(h:k≠m):nth d (l.set k v) m=nth d l m:=by rw[iK,iK];simp[qCa h]
theorem agH{k z e r}(h:k<H.length):av (H.set k (.arr e r)) (.psl k z none)=.psl k z r.length:=by simp only[av,bM h,dU]
theorem Vk{k e r}(h:k<H.length):av (H.set k (.own e r)) (.own k)=.slice (r.map e.enc) (.tip k e.sz):=by simp only[av,bM h,fA]
theorem ay8{e}:∀l i K,aoI H e i (l.map λp=>(p.1,fq t p.2)) K=some b->
  ∃(s:List e.D) (css:List (List AV)),K s=some b/\Tc i l=true/\css.length=l.length/\(∀c∈css,c.length=e.sz)/\(∀j:Nat,j<l.length->∃p,l[j]? =some p/\dS (bC (aT H t) p.2)=css[j]?)/\css.map (λc=>c.map shr)=s.map e.enc:=by
 intro l
 induction l with|nil=>intro i K h;exact⟨[],[],h,rfl,rfl,λc a=>(by cases a),λj d=>(by cases d),rfl⟩|cons p l g=>
  intro i K h;rcases aZ h with⟨k,h⟩|⟨_,h⟩
  ·obtain⟨x,m,n,o,f⟩:=aA5 h;obtain⟨s,css,q,r,u,w,y,v⟩:=g _ _ n;refine⟨x::s,m::css,q,by simp only[Tc,k,r,qDl],by simp[u],?_,?_,by simp only[qAz,apy f,v]⟩
   ·intro c a;rcases qAh.1 a with rfl|a
    ·rw[<-f.len,JA]
    grind
   intro j d;cases j with|zero=>exact⟨p,rfl,by rw[bN];exact o⟩|succ j=>grind
  cases h
theorem am3{tt len p}(h:dG (TI.of P) θ up k d t H (.buildSlice tt len p) K=some b):qj P H t k (op' d (.buildSlice tt len p) ty ps aft gd) K b:=by
 simp only[dG]at h;split at h
 ·rename_i u g y i;have i:lV P tt=some (u,g,y):=i;split at h
  ·rename_i e z B j;have j:kr P u=some z:=j;rcases aZ h with⟨a,C⟩|⟨_,h⟩
   ·clear h;simp only[qAb]at a;obtain⟨⟨f,m,v⟩,n,o,q⟩:=a;have f:=qAj f;have m:=NU m;subst m;have n:=qAj n;have o:=qAe o;have q:=qAe q;obtain⟨x,s,D,E,F,w,G,I⟩:=ay8 _ _ _ C;have l:((List.replicate len z).flatten).length=len*e.sz:=by simp_all
    have A:=adR (ρ:=bC (aT H t)) (sz:=e.sz) p.toList 0 s ((List.replicate len z).flatten) E F w G (by rw[l,qAK,f];exact qAd _);rw[qDv,qAT,qAs,qAK,f,qDD (by rw[l];exact qAd _),qAt]at A;refine Gp (rd:=[k]) ?_ D;simp only[aJ,aB,i,j];rw[if_pos ⟨yC v,o,q,n⟩,A];have J:x.length=len:=by
     have:=congrArg List.length I
     grind
    have r:chunks e.sz len (s.flatten.map shr)=x.map e.enc:=by
     have:=chunks_flatten (sz:=e.sz) (css:=s.map λc=>c.map shr) (λc a=>by obtain⟨L,M,rfl⟩:=qAA.1 a;rw[qAg];exact w L M)
     grind
    simp only[qAx,BF,Hg,fJ,jH,ZN,Vk (I9 v),r,J]
   cases h
  cases h
 cases h
theorem aEF{l}(h:isZ l=true):l=0:=by unfold isZ at h;split at h;rfl;cases h
theorem apP{tt x y}(h:dG (TI.of P) θ up k d t H (.makeSlice tt x y) K=some b):qj P H t k (op' d (.makeSlice tt x y) ty ps aft gd) K b:=by
 simp only[dG]at h;split at h
 ·rename_i p s a f;have f:lV P tt=some (p,s,a):=f;split at h
  ·rename_i e z u g;have g:kr P p=some z:=g;obtain⟨E,l,v,w,_⟩:=zS (H:=H) h;obtain⟨F,c,A,B,_⟩:=zS (H:=H) w;rcases aZ B with⟨q,C⟩|⟨_,h⟩
   ·simp only[qAb]at q;obtain⟨i,j,m,r⟩:=q;have i:=aEF i;have j:=NU j;have m:=qAj m;subst i;subst j;obtain⟨_,n,D⟩:=ob C;unfold mkS at n;split at n
    ·rename_i o;refine Gp (rd:=[k]) ?_ D;simp only[aJ,f,bN,v,A,g];rw[if_pos ⟨yC r,by omega,o.1,o.2.1,o.2.2,m⟩];simp only[BF,ZN,jH];rw[agH (I9 r)];rfl
    cases n
   cases h
  cases h
 cases h
theorem axc{args}{o}(h:dG (TI.of P) θ up k d t H (.call {callee:=.builtin .append,args,argTypes:=o}) K=some b):qj P H t k (op' d (.call {callee:=.builtin .append,args,argTypes:=o}) ty ps aft gd) K b:=by
 simp only[dG]at h;split at h
 ·rename_i x y N O B i;split at h
  ·rename_i Q R C p;have p:lV P N=some (Q,R,C):=p;split at h
   ·rename_i e S;rcases aZ h with⟨L,T⟩|⟨_,h⟩
    ·clear h;simp only[qAb]at L;obtain⟨D,u,f⟩:=L;have D:=NU D;subst D;have u:aJ.isSliceT P O=true:=u;obtain⟨U,c,_,E⟩:=aCn (H:=H) (t:=.l e) (λe h=>by cases h) T;obtain⟨M,F⟩:∃M,av H (fq t y)=.slice (U.map e.enc) M:=by
      simp only[jw]at E;generalize av H (fq t y)=a at E;cases E;·grind
      grind
     split at c;·rename_i v;obtain⟨r,w,A⟩:=ob c;obtain⟨q,n,rfl⟩:=NY w;simp only[qAC,qAK]at q n;refine Gp (rd:=[k]) ?_ A;simp only[aJ,aB,B,i,p,u,bN,v,F,av];rw[if_pos ⟨yC f,trivial,by rw[qAg];exact q,by rw[qAg];exact n,D7 (OC e) _⟩];simp only[BF,Hg,fJ,jH,ZN,Vk (I9 f),qAs,qAg]
     ·rename_i l v;split at c
      ·rename_i V W g;obtain⟨s,G,I⟩:=jN c;clear c;cases G;obtain⟨r,w,A⟩:=ob I;obtain⟨q,n,rfl⟩:=NY w;have X:l≠k:=λe=>by subst e;rw[g]at f;cases f
       refine Gp (rd:=[l,k]) ?_ A;have j:av H (TV.own l)=.slice (List.map e.enc s) (.tip l e.sz):=by simp only[av,g,fA]
       have m:obj? (aA H) l=.tip (s.length*e.sz):=by rw[jT,g];rfl
       simp only[aJ,aB,B,i,p,u,bN,v,F,j,m];rw[if_pos ⟨yC f,by rw[qAg],trivial,by simp only[qAg];exact q,by simp only[qAg];exact n,D7 (OC e) _,D7 (OC e) _⟩];simp only[BF,Hg,ZN,g,fJ,jH];rw[Vk (by rw[qAU];exact I9 f)];simp only[qAX,qAf,qAg]
      cases c
     ·rename_i l z v;split at c
      ·rename_i V W g;rcases aZ c with⟨J,c⟩|⟨_,c⟩
       ·have J:z=e.sz:=qAj J;subst J;obtain⟨s,G,I⟩:=jN c;clear c;cases G;obtain⟨r,w,A⟩:=ob I;obtain⟨q,n,rfl⟩:=NY w;refine Gp (rd:=[l,k]) ?_ A;have j:av H (TV.psl l e.sz none)=.psl l e.sz s.length:=by simp only[av,g,dU]
        have m:obj? (aA H) l=.arr e.sz (s.map e.enc):=by rw[jT,g];rfl
        simp only[aJ,aB,B,i,p,u,bN,v,F,j,m];rw[if_pos ⟨yC f,trivial,trivial,by simp only[qAg];exact qAd _,by simp only[qAg];exact q,by simp only[qAg];exact n,D7 (OC e) _,D7 (OC e) _⟩];simp only[BF,Hg,ZN,g,fJ,jH];rw[agH (by rw[qAU];exact I9 f)];simp only[qAX,qAf,qAg,qCl (qBk (show(List.map e.enc s).length=s.length from qAg e.enc))]
       cases c
      cases c
     cases c
    cases h
   cases h
  cases h
 cases h
theorem azv{tt m key ok}(h:dG (TI.of P) θ up k d t H (.lookup tt m key ok) K=some b):qj P H t k (op' d (.lookup tt m key ok) ty ps aft gd) K b:=by
 simp only[dG]at h;split at h
 ·rename_i j l s c f g;have c:sG P tt=some j:=c;split at h
  ·rename_i e x z n i;have i:KQ P j=some z:=i;rcases aZ h with⟨o,h⟩|⟨_,h⟩
   ·have key:∀v,av H v=Cj ((dO x s).map e.one) ok z->K [l] (eZ d v)=some b->qj P H t k (op' d (.lookup tt m key ok) ty ps aft gd) K b:=λv p h=>by refine Gp (rd:=[l]) (ws:=eZ d v) ?_ h;simp only[aJ,aB,c,bN,f,g,av,jw,jT,n,fJ,i,jH,p,afB]
    unfold mel at h;split at h
    ·rename_i y a;cases ok
     ·exact key (e.seg y) (by rw[a];exact apk H e y) h
     exact key (.tup [e.seg y,.lf .b true]) (by rw[a];simp only[av,aT,apk,qAx,Cj,jw]) h
    rename_i a;cases ok;·exact key (aa7 z) (by rw[a];simp only[qBW,Cj,auo (H:=H) o]) h
    exact key (.tup [aa7 z,.lf .b false]) (by rw[a];simp only[av,aT,auo (H:=H) o,qBW,Cj,jw]) h
   cases h
  cases h
 cases h
theorem aDS{e:ET}{x}{xs}{a}(c:dS a=some xs)(h2:Cvs true (e.enc x) xs)(h:e.sc=true->xs=[a]):sN a=e.one x:=by
 have d:=apy h2;have l:xs.length=e.sz:=by rw[<-h2.len,JA]
 have k:e.sc=false->sN a=.agg (e.enc x):=λhsc=>by
  have h2:2<=e.sz:=by cases e<;>first|(cases hsc;done)|(simp[ET.sz])
  cases a with
  |agg f=>cases c;simp only[sN,d]|unk=>cases c|tup f=>cases c|_=>cases c;simp at l;omega
 cases e with
 |i=>have:=h rfl;subst this;cases h2 with|cons g _=>cases g;rfl
 |u=>have:=h rfl;subst this;cases h2 with|cons g _=>cases g;rfl
 |s=>have:=h rfl;subst this;cases h2 with|cons g _=>cases g;rfl
 |b=>have:=h rfl;subst this;cases h2 with|cons g _=>cases g;rfl
 |vals=>have:=h rfl;subst this;cases h2 with|cons g _=>cases g<;>rfl
 |tms=>have:=h rfl;subst this;cases h2 with|cons g _=>cases g<;>rfl
 |_=>exact k rfl
theorem arF{tt m key x}(h:dG (TI.of P) θ up k d t H (.mapUpdate tt m key x) K=some b):qj P H t k (op' d (.mapUpdate tt m key x) ty ps aft gd) K b:=by
 simp only[dG]at h;split at h
 ·rename_i j l s c f g;have c:sG P tt=some j:=c;split at h
  ·rename_i e z n;obtain⟨y,A,o,p,q,u⟩:=alA h;obtain⟨r,a,v⟩:=ob o;unfold wY at a;split at a
   ·rename_i i;cases a;refine Gp (rd:=[l]) ?_ v;have w:=aDS p q u;simp only[aJ,c,bN,f,g,av,jw,jT,n,fJ,qAg,i,BF,jH,w,akN];rfl
   cases a
  cases h
 cases h
end
end
end Abs
end Go.Proofs.YtneeginmfjageaaGreat

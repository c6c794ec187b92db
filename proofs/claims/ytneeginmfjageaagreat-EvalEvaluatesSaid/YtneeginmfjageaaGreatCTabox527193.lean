/- Records of types. Conditions: none. -/
import Derived.Test.YtneeginmfjageaaGreatProg
import Derived.KernelRfl
import Derived.Test.YtneeginmfjageaaGreatCD2ox25f75d
set_option linter.all false
namespace Go.Proofs.YtneeginmfjageaaGreat
namespace Abs
def ti3:TI:=⟨some 1,some false,false,false,false,false,false,some .i64,.no,[],[],some ([.int .i64 0]),some (.int .i64 0),none,none,none⟩
def ti4:TI:=⟨some 1,some false,false,true,false,false,false,none,.no,[],[],some ([.bool false]),some (.bool false),none,none,none⟩
def ti5:TI:=⟨some 1,some false,false,false,false,false,false,some .u8,.no,[],[],some ([.int .u8 0]),some (.int .u8 0),none,none,none⟩
def ti9:TI:=⟨some 1,some false,false,false,true,false,false,none,.no,[],[],some ([.str []]),some (.str []),none,none,none⟩
def aLj:TI:=⟨some 1,some false,false,false,false,false,false,none,.no,[],[],some ([.unk]),some (.unk),none,none,none⟩
def aKp:TI:=⟨some 1,some false,false,false,false,false,true,none,.sl (some 2),[],[],some ([.slice [] .nils]),some (.slice [] .nils),some 2,some (63,2,40),none⟩
def aKJ:TI:=⟨some 1,some false,false,false,false,false,true,none,.sl (some 4),[],[],some ([.slice [] .nils]),some (.slice [] .nils),some 4,some (66,4,64),none⟩
def TIs(n:Nat)(s:Bool)(i:IxT)(f:List (Option (Nat×TypeId)))(p:List (Option (Nat×Nat)))(l:An):TI:=⟨some n,some true,false,false,false,s,false,none,i,f,p,some l,some (.agg l),none,none,none⟩
def TIc(a b c d:Bool)(k:Option IntKind)(i:IxT)(z:AV)(x:Bx)(y:Option (TypeId×Nat×Nat))(s:Option TypeId):TI:=⟨some 1,some false,a,b,c,false,d,k,i,[],[],some [z],some z,x,y,s⟩
def aK9:=TIs 2 true .no [some (0,22),some (1,23)] [some (0,1),some (1,1)] ([.slice [] .nils,.slice [] .nils])
def aLe:TI:=⟨some 1,some false,false,false,false,false,true,none,.sl (some 1),[],[],some ([.slice [] .nils]),some (.slice [] .nils),some 1,some (3,1,8),none⟩
def aKD:TI:=⟨some 1,some false,false,false,false,false,true,none,.sl (some 4),[],[],some ([.slice [] .nils]),some (.slice [] .nils),some 4,some (40,4,56),none⟩
def aKT:=TIs 4 true .no [some (0,25),some (2,26),some (3,27)] [some (0,2),some (2,1),some (3,1)] ([.slice [] .nils,.slice [] .nils,.slice [] .nils,.slice [] .nils])
def aLc:TI:=⟨some 1,some false,false,false,false,false,true,none,.sl (some 3),[],[],some ([.slice [] .nils]),some (.slice [] .nils),some 3,some (32,3,48),none⟩
def aLf:=TIs 3 true .no [some (0,3),some (1,9),some (2,30)] [some (0,1),some (1,1),some (2,1)] ([.int .i64 0,.str [],.slice [] .nils])
def aK7:TI:=⟨some 1,some false,false,false,false,false,true,none,.sl (some 7),[],[],some ([.slice [] .nils]),some (.slice [] .nils),some 7,some (35,7,104),none⟩
def aLy:=TIs 7 true .no [some (0,3),some (1,9),some (2,3),some (3,32),some (6,33)] [some (0,1),some (1,1),some (2,1),some (3,3),some (6,1)] ([.int .i64 0,.str [],.int .i64 0,.int .i64 0,.str [],.slice [] .nils,.slice [] .nils])
def aKw:=TIs 4 true .no [some (0,3),some (1,3),some (2,9),some (3,27)] [some (0,1),some (1,1),some (2,1),some (3,1)] ([.int .i64 0,.int .i64 0,.str [],.slice [] .nils])
def aLa:TI:=⟨some 1,some false,false,false,false,false,false,some .i64,.no,[],[],some ([.int .i64 0]),some (.int .i64 0),none,none,none⟩
def aLr:TI:=⟨some 1,some false,false,false,false,false,true,none,.sl (some 1),[],[],some ([.slice [] .nils]),some (.slice [] .nils),some 1,some (33,1,24),none⟩
def aLq:TI:=⟨some 1,some false,false,false,false,false,true,none,.sl (some 1),[],[],some ([.slice [] .nils]),some (.slice [] .nils),some 1,some (9,1,16),none⟩
def aKP:=TIs 2 true .no [some (0,9),some (1,61)] [some (0,1),some (1,1)] ([.str [],.slice [] .nils])
def aKS:=TIs 4 true .no [some (0,9),some (1,32)] [some (0,1),some (1,3)] ([.str [],.int .i64 0,.str [],.slice [] .nils])
def aLA:TI:=⟨some 1,some false,true,false,false,false,false,none,.no,[],[],some ([.nilp]),some (.nilp),none,none,none⟩
def aLp:TI:=⟨some 1,some false,false,false,false,false,false,none,.no,[],[],some ([.nilFunc]),some (.nilFunc),none,none,none⟩
def aLv:=TIs 3 true .no [some (0,3),some (1,9),some (2,3)] [some (0,1),some (1,1),some (2,1)] ([.int .i64 0,.str [],.int .i64 0])
def aLu:=TIs 7 true .no [some (0,9),some (1,93),some (4,3),some (5,3),some (6,41)] [some (0,1),some (1,3),some (4,1),some (5,1),some (6,1)] ([.str [],.int .i64 0,.str [],.int .i64 0,.int .i64 0,.int .i64 0,.int .i64 0])
def aLg:=TIs 3 true .no [some (0,3),some (1,3),some (2,3)] [some (0,1),some (1,1),some (2,1)] ([.int .i64 0,.int .i64 0,.int .i64 0])
def aJk:TI:=⟨some 1,some false,true,false,false,false,false,none,.no,[],[],some ([.nilp]),some (.nilp),none,none,none⟩
def aJj:TI:=⟨some 1,some false,false,false,false,false,false,none,.no,[],[],some ([.unk]),some (.unk),none,none,some 32⟩
def aIZ:TI:=⟨some 1,some false,false,false,false,false,false,none,.no,[],[],some ([.unk]),some (.unk),none,none,some 4⟩
def aIx:TI:=⟨some 1,some false,false,false,false,false,false,none,.no,[],[],some ([.nilFunc]),some (.nilFunc),none,none,none⟩
def aID:=TIs 57 false (.arr 57 (some 1)) [] [] (List.replicate 57 (.nilFunc))
def aI4:=TIs 60 true .no [some (0,106),some (1,107),some (2,110),some (59,26)] [some (0,1),some (1,1),some (2,57),some (59,1)] (([.unk,.unk]++List.replicate 57 .nilFunc++[.slice [] .nils]))
def aI2:TI:=⟨some 1,some false,false,false,false,false,false,none,.no,[],[],some ([.unk]),some (.unk),none,none,some 40⟩
def aJz:TI:=⟨some 1,some false,false,false,false,false,true,none,.sl (some 5),[],[],some ([.slice [] .nils]),some (.slice [] .nils),some 5,some (222,5,72),none⟩
def aJd:=TIs 5 true .no [some (0,25),some (2,26),some (3,113),some (4,114)] [some (0,2),some (2,1),some (3,1),some (4,1)] ([.slice [] .nils,.slice [] .nils,.slice [] .nils,.unk,.slice [] .nils])
def aJi:TI:=⟨some 1,some false,false,false,false,false,true,none,.sl (some 5),[],[],some ([.slice [] .nils]),some (.slice [] .nils),some 5,some (169,5,72),none⟩
def aIY:TI:=⟨some 1,some false,true,false,false,false,false,none,.no,[],[],some ([.nilp]),some (.nilp),none,none,none⟩
def aIG:TI:=⟨some 1,some false,true,false,false,false,false,none,.no,[],[],some ([.nilp]),some (.nilp),none,none,none⟩
def aJJ:TI:=⟨some 1,some false,false,false,false,false,false,none,.no,[],[],some ([.nilFunc]),some (.nilFunc),none,none,none⟩
def aJD:=TIs 5 true .no [some (0,9),some (1,32),some (4,155)] [some (0,1),some (1,3),some (4,1)] ([.str [],.int .i64 0,.str [],.slice [] .nils,.nilp])
def aI9:TI:=⟨some 1,some false,false,false,false,false,false,none,.no,[],[],some ([.nilFunc]),some (.nilFunc),none,none,none⟩
def aIV:=TIs 8 false (.arr 2 (some 4)) [] [] ([.int .i64 0,.int .i64 0,.str [],.slice [] .nils,.int .i64 0,.int .i64 0,.str [],.slice [] .nils])
def aIS:=TIs 5 true .no [some (0,9),some (1,40)] [some (0,1),some (1,4)] ([.str [],.int .i64 0,.int .i64 0,.str [],.slice [] .nils])
def aJH:TI:=⟨some 1,some false,false,false,false,false,true,none,.sl (some 1),[],[],some ([.slice [] .nils]),some (.slice [] .nils),some 1,some (27,1,24),none⟩
def aIt:TI:=⟨some 1,some false,false,false,false,false,false,none,.no,[],[],some ([.nilFunc]),some (.nilFunc),none,none,none⟩
def aIy:TI:=⟨some 1,some false,false,false,false,false,false,some .u64,.no,[],[],some ([.int .u64 0]),some (.int .u64 0),none,none,none⟩
def aIC:TI:=⟨some 1,some false,false,false,false,false,false,none,.no,[],[],some ([.nilFunc]),some (.nilFunc),none,none,none⟩
def aJG:=TIs 5 true .no [some (0,9),some (1,40)] [some (0,1),some (1,4)] ([.str [],.int .i64 0,.int .i64 0,.str [],.slice [] .nils])
def aJa:TI:=⟨some 1,some false,false,false,false,false,false,some .i64,.no,[],[],some ([.int .i64 0]),some (.int .i64 0),none,none,none⟩
def aJu:TI:=⟨some 1,some false,false,false,false,false,false,some .u32,.no,[],[],some ([.int .u32 0]),some (.int .u32 0),none,none,none⟩
def aJt:TI:=⟨some 1,some false,false,false,false,false,false,some .u64,.no,[],[],some ([.int .u64 0]),some (.int .u64 0),none,none,none⟩
def aJp:TI:=⟨some 1,some false,false,false,false,false,false,some .u64,.no,[],[],some ([.int .u64 0]),some (.int .u64 0),none,none,none⟩
def aJm:TI:=⟨some 1,some false,false,false,false,false,false,none,.no,[],[],some ([.nilFunc]),some (.nilFunc),none,none,none⟩
def tab:Tr:=.node (.node (.node (.node (.node (.node .nil 3 ti3 .nil) 4 ti4 (.node .nil 5 ti5 .nil)) 9 ti9 (.node (.node .nil 20 aLj .nil) 22 aKp .nil)) 23 aKJ (.node (.node (.node .nil 25 aK9 .nil) 26 aLe (.node .nil 27 aKD .nil)) 29 aKT (.node (.node .nil 30 aLc .nil) 32 aLf .nil))) 33 aK7 (.node (.node (.node (.node .nil 35 aLy .nil) 40 aKw (.node .nil 41 aLa .nil)) 55 aLr (.node (.node .nil 61 aLq .nil) 63 aKP .nil)) 66 aKS (.node (.node (.node .nil 71 aLA .nil) 85 aLp .nil) 93 aLv (.node (.node .nil 96 aLu .nil) 99 aLg .nil)))) 101 aJk (.node (.node (.node (.node (.node .nil 106 aJj .nil) 107 aIZ (.node .nil 109 aIx .nil)) 110 aID (.node (.node .nil 112 aI4 .nil) 113 aI2 .nil)) 114 aJz (.node (.node (.node .nil 116 aJd .nil) 118 aJi (.node .nil 151 aIY .nil)) 155 aIG (.node (.node .nil 157 aJJ .nil) 159 aJD .nil))) 163 aI9 (.node (.node (.node (.node .nil 166 aIV .nil) 169 aIS (.node .nil 174 aJH .nil)) 185 aIt (.node (.node .nil 202 aIy .nil) 214 aIC .nil)) 222 aJG (.node (.node (.node .nil 236 aJa .nil) 243 aJu .nil) 245 aJt (.node (.node .nil 257 aJp .nil) 267 aJm .nil))))
def aHe:tab.keys.map (TI.of Tryz.prog)=tab.vals:=by kernel_rfl
noncomputable def τ(t:Nat):TI:=tab.look (TI.of Tryz.prog) t
def yJ:τ=TI.of Tryz.prog:=aGW aHe
def Gl(u:U):An:=AB (.lf u.t u.x) (kr u.t u.x)
def Ju:Bm->An|[]=>[]|u::s=>Gl u++Ju s
def amO(H:A0):∀s:Bm,bq H (s.map λu=>.lf u.t u.x)=Ju s|[]=>rfl|u::s=>by simp only[qAy,bq,Ju,amO H s,Gl,av]
def LW:∀(e:ET) (x:e.D),(e.enc x).length=e.sz
 | .i,_=>rfl| .u,_=>rfl| .s,_=>rfl| .b,_=>rfl| .car,_=>rfl| .dec,_=>rfl
 | .ty,x=>by simp only[ET.enc,lU];rfl
 | .tm,x=>by simp only[ET.enc,uU];rfl
 | .env,_=>rfl
 | .val,x=>by simp only[ET.enc,iC];rfl
 | .bnd,x=>by have:=iC x.v;simp only[ET.enc,this];rfl
 | .vals,_=>rfl| .tms,_=>rfl
def az4:∀(e:ET) (x:e.D),Ju (fF e.cs (e.un x))=e.enc x
 | .i,_=>rfl| .u,_=>rfl| .s,_=>rfl| .b,_=>rfl| .car,_=>rfl
 | .dec,x=>by
  have:=lU x.ty;simp only[ET.enc,ET.cs,ET.un,fF,Ju,Gl,AB,kr,ji,this,qAM,qAo]
 | .ty,x=>by simp only[ET.enc,lU];rfl
 | .tm,x=>by
  have:=lU x.ty;simp only[ET.enc,ET.cs,ET.un,fF,Ju,Gl,AB,kr,uU,this,qAM,qAo]
 | .env,_=>rfl
 | .val,x=>by simp only[ET.enc,iC];rfl
 | .bnd,x=>by
  have:=iC x.v;simp only[ET.enc,ET.cs,ET.un,fF,Ju,Gl,AB,kr,this,qAM,qAo]
 | .vals,_=>rfl| .tms,_=>rfl
def aJv:∀(e:ET) (y:jI e.cs),e.un (e.mk y)=y| .i,_=>rfl| .u,_=>rfl| .s,_=>rfl| .b,_=>rfl| .car,_=>rfl| .dec,_=>rfl| .ty,_=>rfl| .tm,_=>rfl| .env,_=>rfl| .val,_=>rfl| .bnd,_=>rfl| .vals,_=>rfl| .tms,_=>rfl
def aHP(e:ET)(y:jI e.cs):Ju (fF e.cs y)=e.enc (e.mk y):=by rw[<-az4,aJv]
def Iw(H:A0):∀a b:As,bq H (a++b)=bq H a++bq H b|[],_=>rfl|v::a,b=>by simp only[qAM,bq,Iw H a b,qAm]
def uM(H:A0):∀a:As,aU H a=a.map (av H)|[]=>rfl|v::a=>by simp only[aU,qAy,uM H a]
def XT(H:A0)(e:ET)(x:e.D):bq H (comps e x)=e.enc x:=by unfold comps;rw[amO,az4]
def one(v:TV):Prop:=∀a,AB v a=[a]
def tC(v:TV):one v∨∃e x,v=.lf (.t e) x:=by
 cases v with
 |lf t x=>cases t<;>first|exact .inr ⟨_,_,rfl⟩|exact .inl λ_=>rfl
 |_=>exact .inl λ_=>rfl
def anc(H:A0)(v:TV):(AB v (av H v)).length=width v:=by
 rcases tC v with h|⟨e,x,rfl⟩
 ·rw[h];cases v with
  |lf t x=>cases t<;>first|rfl|(have:=h .unk;simp only[AB]at this;rename_i e;have a:=LW e x;rw[this]at a;simp only[width];exact a)
  |_=>rfl
 exact LW e x
def l7(H:A0):∀vs:As,(bq H vs).length=widths vs|[]=>rfl|v::vs=>by simp only[bq,qAe,anc,l7 H vs,widths]
def bD{a:Type}{b:Bool}{X Y:Option a}{r:a}(h:cond b X Y=some r):(b=true/\X=some r)∨(b=false/\Y=some r):=by grind
section
variable {γ:Type}{b:γ}{H:A0}
def zH:∀(f:Nat) (cs:As) (n:Nat) (K:As->As->Option γ),splitK f cs n K=some b->∃a r,bq H cs=bq H a++bq H r/\(bq H a).length=n/\K a r=some b:=by
 intro f
 induction f with|zero=>intro cs n K h;cases h|succ f j=>
  intro cs n K h;unfold splitK at h;cases n with|zero=>exact⟨[],cs,rfl,rfl,h⟩|succ m=>
   cases cs with|nil=>cases h|cons c r=>
    rcases bD h with⟨w,h⟩|⟨_,h⟩
    ·let⟨a,d,g,k,i⟩:=j _ _ _ h;have w:=qAf w;refine⟨c::a,d,?_,?_,i⟩
     ·simp only[bq,g,qAm]
     simp only[bq,qAe,anc];omega
    split at h;·rename_i e x;let⟨a,d,g,k,i⟩:=j _ _ _ h;refine⟨a,d,?_,k,i⟩;rw[<-g,Iw,XT];rfl
    cases h
def aBe:∀(f:Nat) (cs:As) (K:TV->Option γ),apu f cs K=some b->∃v r,one v/\bq H cs=av H v::r/\K v=some b:=by
 intro f
 induction f with|zero=>intro cs K h;cases h|succ f i=>
  intro cs K h;unfold apu at h;cases cs with|nil=>cases h|cons c r=>
   simp only at h;split at h;·rename_i e x;let⟨v,g,a,d,j⟩:=i _ _ h;refine⟨v,g++bq H r,a,?_,j⟩;rw[XT]at d;simp only[bq,AB,d,qAM]
   rename_i n;rcases tC c with a|⟨e,x,rfl⟩
   ·exact⟨c,bq H r,a,by simp only[bq,a (av H c),qAM,qAo],h⟩
   grind
def alX(c:As):av H (ady c)=.agg (bq H c):=by
 unfold ady;split;·rename_i e x;simp only[av,kr,bq,AB,qAt]
 rfl
def abC{P:Program}{t off:Nat}{cs:As}{K:TV->Option γ}(h:ldK (TI.of P) t off cs K=some b):∃v,kC P t ((bq H cs).drop off)=some (av H v)/\K v=some b:=by
 unfold ldK at h;split at h
 ·rename_i g;have g:QN P t=some true:=g;split at h
  ·rename_i n m;have m:sizeT P t=some n:=m;let⟨a,r,e,f,i⟩:=zH (H:=H) _ _ _ _ h;let⟨c,d,j,k,o⟩:=zH (H:=H) _ _ _ _ i;refine⟨ady c,?_,o⟩;have l:(bq H cs).drop off=bq H c++bq H d:=by rw[e,<-f,qCU,j]
   simp only[kC,l,qAe,k,alX]
   grind
  cases h
 ·rename_i g;have g:QN P t=some false:=g;let⟨a,r,e,f,i⟩:=zH (H:=H) _ _ _ _ h;let⟨v,p,_,j,k⟩:=aBe (H:=H) _ _ _ i;refine⟨v,?_,k⟩;have l:(bq H cs).drop off=bq H r:=by rw[e,<-f,qCU]
  simp only[kC,g,l,j]
 cases h
def IV{v:TV}{cs:As}(h:F9 H v=some cs):eO (av H v)=some (bq H cs):=by
 cases v with
 |lf t x=>cases t<;>first|(cases h;rfl)|(cases h;simp only[av,kr,eO,bq,AB,qAt])|cases h
 |agg c=>cases h;rfl
 |unk=>cases h
 |tup c=>cases h
 |nat n=>cases h;rfl
 |own l=>
  simp only[F9]at h;split at h
  ·rename_i a;cases h;simp only[av,a,gD,bq,AB,eO,qAt]
  ·rename_i a;cases h;simp only[av,a,gD,bq,AB,eO,qAt]
  cases h
 |psl l z c=>
  cases c with
  |some n=>cases h;rfl
  |none=>
   simp only[F9]at h;split at h
   ·rename_i a;cases h;simp only[av,a,eY,bq,AB,eO,qAt]
   ·rename_i a;cases h;simp only[av,a,eY,bq,AB,eO,qAt]
   cases h
 |_=>cases h;rfl
inductive Cv:Bool→AV→AV→Prop where
 |same (w:Bool) (a:AV):Cv w a a
 |share (es:List An) (t:Tag):Cv true (.slice es .shared) (.slice es t)
 |nilF:Cv true (.flist []) .nilp
inductive Cvs(w:Bool):An→An→Prop where
 |nil:Cvs w [] []
 |cons {x y:AV} {xs ys:An}:Cv w x y→Cvs w xs ys→Cvs w (x::xs) (y::ys)
def Cvs.refl(w:Bool):∀xs,Cvs w xs xs|[]=>.nil|x::xs=>.cons (.same w x) (Cvs.refl w xs)
def Cvs.app{w:Bool}{a b c d:An}(h:Cvs w a c)(k:Cvs w b d):Cvs w (a++b) (c++d):=by induction h with|nil=>exact k|cons h _ i=>exact .cons h i
def Cvs.len{w:Bool}{a c:An}(h:Cvs w a c):a.length=c.length:=by induction h with|nil=>rfl|cons _ _ i=>simp[i]
def kS{t:LT}{u:U}{K:t.D->Option γ}(h:kZ t u K=some b):∃x,u=⟨t,x⟩/\K x=some b:=by
 unfold kZ at h;split at h
 ·rename_i e _;let⟨a,x⟩:=u
  grind
 cases h
def Q8:∀{s:List LT} {u:Bm} {K:jI s->Option γ},AJ s u K=some b->∃y,fF s y=u/\K y=some b
 |[],u,K,h=>by
  unfold AJ at h;split at h
  ·exact⟨(),rfl,h⟩
  cases h
 |[t],u,K,h=>by
  unfold AJ at h;split at h
  ·obtain⟨x,rfl,a⟩:=kS h;exact⟨x,rfl,a⟩
  cases h
 |t::e::s,u,K,h=>by
  unfold AJ at h;split at h
  ·obtain⟨x,rfl,a⟩:=kS h;let⟨y,c,d⟩:=Q8 a;exact⟨(x,y),by simp only[fF,c],d⟩
  cases h
def ahu{w:Bool}{t:LT}{v:TV}{K:U->Option γ}(c:one v)(h:vH H w t v K=some b):∃u,K u=some b/\Cv w (kr u.t u.x) (av H v)/\Gl u=[kr u.t u.x]:=by
 unfold vH at h;split at h;·rename_i d x;exact⟨⟨d,x⟩,h,.same _ _,c _⟩
 ·rename_i n;exact⟨_,h,.same _ _,rfl⟩
 ·cases w
  ·cases h
  simp only[cond_true]at h;split at h;·exact⟨_,h,.share [] .nils,rfl⟩
  cases h
 ·cases w
  ·cases h
  simp only[cond_true]at h;split at h;·exact⟨_,h,.nilF,rfl⟩
  cases h
 ·rename_i l;cases w
  ·cases h
  simp only[cond_true]at h;split at h;·rename_i e s a;exact⟨_,h,by simp only[av,a];exact .share _ _,rfl⟩
  ·rename_i e s a;exact⟨_,h,by simp only[av,a];exact .share _ _,rfl⟩
  cases h
 cases h
def as7{w:Bool}{L:LT->As->(U->As->Option γ)->Option γ}
  (l:∀t cs K,L t cs K=some b->∃u r x,K u r=some b/\bq H cs=x++bq H r/\Cvs w (Gl u) x):
  ∀(a:List LT) (cs:As) (K:Bm->As->Option γ),aii L a cs K=some b->∃s r x,K s r=some b/\bq H cs=x++bq H r/\Cvs w (Ju s) x
 |[],cs,K,h=>⟨[],cs,[],h,rfl,.nil⟩|t::a,cs,K,h=>by let⟨u,r,x,c,d,e⟩:=l _ _ _ h;let⟨s,f,y,g,i,j⟩:=as7 l a r _ c;exact⟨u::s,f,x++y,g,by rw[d,i,qAm],e.app j⟩
def Xx{w:Bool}:∀(f:Nat) (t:LT) (cs:As) (K:U->As->Option γ),TF H w f t cs K=some b->∃u r s,K u r=some b/\bq H cs=s++bq H r/\Cvs w (Gl u) s:=by
 intro f
 induction f with
 |zero=>intro t cs K h;cases h
 |succ f l=>
  intro t cs K h;have p:∀(e:ET),(aii (TF H w f) e.cs cs λm r=>AJ e.cs m λy=>K ⟨.t e,e.mk y⟩ r)=some b->∃u r s,K u r=some b/\bq H cs=s++bq H r/\Cvs w (Gl u) s:=λe h=>by
   let⟨m,r,s,a,d,g⟩:=as7 l _ _ _ h;obtain⟨y,rfl,j⟩:=Q8 a;refine⟨_,r,s,j,d,?_⟩;rw[aHP]at g;exact g
  unfold TF at h;cases cs with
  |nil=>cases h
  |cons c r=>
   simp only at h;split at h
   ·rename_i k x;have q:∀t,TF H w f t (comps k x++r) K=some b->∃u i s,K u i=some b/\bq H (.lf (.t k) x::r)=s++bq H i/\Cvs w (Gl u) s:=λt h=>by
     let⟨u,n,s,a,d,g⟩:=l _ _ _ h;refine⟨u,n,s,a,?_,g⟩;rw[Iw,XT]at d;simp only[bq];exact d
    split at h
    ·exact⟨_,r,k.enc x,h,by simp only[bq,AB],Cvs.refl _ _⟩
    grind
   rename_i o;split at h
   ·grind
   rcases tC c with a|⟨e,x,rfl⟩
   ·let⟨u,d,g,j⟩:=ahu a h;exact⟨u,r,[av H c],d,by simp only[bq,a (av H c)],by rw[j];exact .cons g .nil⟩
   grind
def aDE{t:LT}{v:TV}{K:t.D->Option γ}(d:∀e,t≠ .t e)(h:(vH H true t v λu=>kZ t u K)=some b):∃x,K x=some b/\one v/\Cv true (kr t x) (av H v):=by
 rcases tC v with a|⟨e,x,rfl⟩
 ·let⟨u,c,f,_⟩:=ahu a h;obtain⟨x,rfl,g⟩:=kS c
  grind
 simp only[vH]at h;let⟨y,i,_⟩:=kS h
 grind
def CW{e:ET}{v:TV}{K:e.D->Option γ}(c:e.sc=false)(h:JE H e v K=some b):∃x s,K x=some b/\eO (av H v)=some s/\Cvs true (e.enc x) s/\(e.sc=true->s=[av H v]):=by
 unfold JE at h;split at h
 ·rename_i k f;let⟨u,r,s,a,g,i⟩:=Xx _ _ _ _ h;split at a
  ·obtain⟨x,rfl,j⟩:=kS a;refine⟨x,s,j,?_,i,λd=>by rw[c]at d;cases d⟩;rw[IV f,g];simp only[bq,qAt]
  cases a
 cases h
def amd{t:LT}{v:TV}{K:t.D->Option γ}{e:ET}{c:t.D->e.D}(d:∀e,t≠ .t e)(f:∀x,e.enc (c x)=[kr t x])(h2:∀x y,Cv true (kr t x) y->eO y=some [y])(h:(vH H true t v λu=>kZ t u K)=some b):
  ∃x s,K x=some b/\eO (av H v)=some s/\Cvs true (e.enc (c x)) s/\(e.sc=true->s=[av H v]):=by let⟨x,g,_,a⟩:=aDE d h;exact⟨x,[av H v],g,h2 x _ a,by rw[f];exact .cons a .nil,λ_=>rfl⟩
def anV{e:ET}{v:TV}{K:e.D->Option γ}(h:apq H e v K=some b):∃x a,K x=some b/\eO (av H v)=some a/\Cvs true (e.enc x) a/\(e.sc=true->a=[av H v]):=by cases e with|i=>exact amd (e:=.i) (c:=λx=>x) (λe h=>by cases h) (λ_=>rfl) (λx y h=>by cases h;rfl) h|u=>exact amd (e:=.u) (c:=λx=>x) (λe h=>by cases h) (λ_=>rfl) (λx y h=>by cases h;rfl) h|s=>exact amd (e:=.s) (c:=λx=>x) (λe h=>by cases h) (λ_=>rfl) (λx y h=>by cases h;rfl) h|b=>exact amd (e:=.b) (c:=λx=>x) (λe h=>by cases h) (λ_=>rfl) (λx y h=>by cases h;rfl) h|car=>exact CW rfl h|dec=>exact CW rfl h|ty=>exact CW rfl h|tm=>exact CW rfl h|env=>exact CW rfl h|val=>exact CW rfl h|bnd=>exact CW rfl h|vals=>exact amd (e:=.vals) (c:=λx=>x) (λe h=>by cases h) (λ_=>rfl) (λx y h=>by cases h<;>rfl) h|tms=>exact amd (e:=.tms) (c:=λx=>x) (λe h=>by cases h) (λ_=>rfl) (λx y h=>by cases h<;>rfl) h
def aCy{e:ET}{v:TV}{K:e.D->Option γ}(h:apq H e v K=some b):∃x s,K x=some b/\eO (av H v)=some s/\Cvs true (e.enc x) s:=by
 let⟨x,s,a,c,d,_⟩:=anV h
 grind
def aEC:∀(e:ET) (x:e.D),(e.enc x).map shr=e.enc x
 | .i,_=>rfl| .u,_=>rfl| .s,_=>rfl| .b,_=>rfl| .car,_=>rfl
 | .dec,x=>rfl
 | .ty,x=>by simp only[ET.enc,lU];rfl
 | .tm,x=>by simp only[ET.enc,uU];rfl
 | .env,_=>rfl
 | .val,x=>by simp only[ET.enc,iC];rfl
 | .bnd,x=>by have:=iC x.v;simp only[ET.enc,this];rfl
 | .vals,_=>rfl| .tms,_=>rfl
def aCj:∀(e:ET) (x:e.D),AV.flist []∉e.enc x
 | .i,_=>by simp[ET.enc,encI]| .u,_=>by simp[ET.enc,MZ]| .s,_=>by simp[ET.enc,encS]| .b,_=>by simp[ET.enc]| .car,_=>by simp[ET.enc,kU]
 | .dec,x=>by simp[ET.enc,ji]
 | .ty,x=>by simp[ET.enc,lU]
 | .tm,x=>by simp[ET.enc,uU]
 | .env,_=>by simp[ET.enc]
 | .val,x=>by simp[ET.enc,iC]
 | .bnd,x=>by simp[ET.enc,iC]
 | .vals,x=>by simp[ET.enc]
 | .tms,x=>by simp[ET.enc]
def aFL{a xs:An}(h:Cvs true a xs)(b:a.map shr=a)(h2:AV.flist []∉a):xs.map shr=a:=by
 induction h with|nil=>rfl|cons h _ i=>simp only[qAy,List.cons.injEq,qAh,not_or]at b h2|-;refine⟨?_,i b.2 h2.2⟩;cases h with|same=>exact b.1|share=>rfl|nilF=>exact(h2.1 rfl).elim
def arb{e:ET}{x:e.D}{xs:An}(h:Cvs true (e.enc x) xs):xs.map shr=e.enc x:=aFL h (aEC e x) (aCj e x)
def NS:∀(e:ET) (x:e.D),dH e.sz (e.enc x)=true
 | .i,_=>rfl| .u,_=>rfl| .s,_=>rfl| .b,_=>rfl| .car,_=>rfl| .dec,_=>rfl
 | .ty,x=>by simp only[ET.enc,lU];rfl
 | .tm,x=>by simp only[ET.enc,uU];rfl
 | .env,_=>rfl
 | .val,x=>by simp only[ET.enc,iC];rfl
 | .bnd,x=>by have:=iC x.v;simp only[ET.enc,this];rfl
 | .vals,_=>rfl| .tms,_=>rfl
def amh:∀(H:A0) (e:ET) (x:e.D),bq H [e.seg x]=e.enc x
 |_,.i,_=>rfl|_,.u,_=>rfl|_,.s,_=>rfl|_,.b,_=>rfl|_,.car,_=>rfl|_,.dec,_=>rfl|_,.ty,_=>by simp[bq,ET.seg,AB]|_,.tm,_=>by simp[bq,ET.seg,AB]|_,.env,_=>rfl|_,.val,_=>by simp[bq,ET.seg,AB]
 |_,.bnd,_=>by simp[bq,ET.seg,AB]|_,.vals,_=>rfl|_,.tms,_=>rfl
def apM:∀(H:A0) (e:ET) (x:e.D),av H (e.seg x)=e.one x|_,.i,_=>rfl|_,.u,_=>rfl|_,.s,_=>rfl|_,.b,_=>rfl|_,.car,_=>rfl|_,.dec,_=>rfl|_,.ty,_=>rfl|_,.tm,_=>rfl|_,.env,_=>rfl|_,.val,_=>rfl|_,.bnd,_=>rfl|_,.vals,_=>rfl|_,.tms,_=>rfl
def ac2:∀(e:ET) (g:Nat->Nat) (x:e.D),eT g (e.enc x)=e.enc x
 | .i,_,_=>rfl| .u,_,_=>rfl| .s,_,_=>rfl| .b,_,_=>rfl
 | .car,g,x=>aql g x| .dec,g,x=>azP g x| .ty,g,x=>anf g x| .tm,g,x=>amQ g x
 | .env,g,x=>by simp only[ET.enc,eT,ren,xu,asr,azE]
 | .val,g,x=>PX g x
 | .bnd,g,x=>by simp only[ET.enc,eT,ren,PX g x.v]
 | .vals,g,x=>by simp only[ET.enc,eT,ren,xu,apW]
 | .tms,g,x=>by simp only[ET.enc,eT,ren,xu,aEP]
def nV(e:ET)(g:Nat->Nat)(l:List e.D):gY g (l.map e.enc)=l.map e.enc:=Qs (λg x=>ac2 e g x) g l
def Lb(g:Nat->Nat):∀(t:LT) (x:t.D),ren g (kr t x)=kr t x
 | .n _,_=>rfl| .b,_=>rfl| .s,_=>rfl| .m _,_=>rfl
 | .l e,x=>by simp only[kr,ren,xu,nV]
 | .t e,x=>by simp only[kr,ren,ac2]
 | .f e,x=>by simp only[kr,ren,nV]
end
noncomputable section
def aB(H:A0):A6:=H.map (gV H)
def kV(H:A0)(l:Nat):obj? (aB H) l=gV H (nth .dead H l):=by rw[jF];unfold obj? aB;rw[qAE,List.getD];cases H[l]?<;>rfl
def avJ(H:A0)(v:Value):av H (amk v)=KH v/\one (amk v):=by
 unfold amk KH;split
 ·rename_i k n;dsimp only;by_cases h:k.min<=n/\n<=k.max
  ·rw[if_pos h,decide_eq_true h.1,decide_eq_true h.2];exact⟨rfl,λ_=>rfl⟩
  rw[if_neg h];have:(decide (k.min<=n)&&decide (n<=k.max))=false:=by
   grind
  rw[this];exact⟨rfl,λ_=>rfl⟩
 ·exact⟨rfl,λ_=>rfl⟩
 ·rename_i s;dsimp only;by_cases h:s.data.toList.length<=9223372036854775807
  ·rw[if_pos h,decide_eq_true h];exact⟨rfl,λ_=>rfl⟩
  rw[if_neg h,decide_eq_false h];exact⟨rfl,λ_=>rfl⟩
 ·exact⟨rfl,λ_=>rfl⟩
 ·exact⟨rfl,λ_=>rfl⟩
 ·exact⟨rfl,λ_=>rfl⟩
 rename_i a b c d e f;split<;>first|exact⟨rfl,λ_=>rfl⟩|(rename_i h;first|exact(a _ _ rfl).elim|exact(b _ rfl).elim|exact(c _ rfl).elim|exact(d rfl).elim|exact(e rfl).elim|exact(f rfl).elim)
def ard(H:A0){α:Type}(f:α->TV)(g:α->AV)(h:∀a,av H (f a)=g a/\one (f a)):∀l:List α,bq H (l.map f)=l.map g|[]=>rfl|a::l=>by simp only[qAy,bq,(h a).2 _,(h a).1,ard H f g h l,qAM,qAo]
def aEe(H:A0)(v:Value):av H (aB8 v)=ofConst v:=by
 unfold aB8 ofConst;split;·simp only[av,ard H amk KH (avJ H)]
 rename_i h;split;·grind
 exact(avJ H v).1
def bZ(H:A0)(t:As)(x:Operand):bL (aU H t) x=av H (gq t x):=by cases x with|tmp n=>simp only[bL,gq,jF,uM,List.getD,qAE];cases t[n]?<;>rfl|const v=>exact(aEe H v).symm|func f=>rfl|global g=>rfl
def wrH(H:A0):TWr->A0
 | .sl _ _=>H
 | .ob l o=>H.set l o
 | .st l f v=>match nth .dead H l with
  | .box c=>match vS c f v some with
   |some c=>H.set l (.box c)
   |none=>H
  |_=>H
 | .kill l=>match nth .dead H l with
  | .own e x=>H.set l (.gone e x)
  | .arr _ x=>H.set l (.gon x.length)
  | .box _=>H.set l .dead
  | .mp _ _=>H.set l .dead
  |_=>H
 | .nw l o=>H.set l o
 | .up l i e y=>match nth .dead H l with
  | .arr a x=>match ET.eq? e a with
   |some ⟨q⟩=>H.set l (.arr a (upd x i (q▸y)))
   |none=>H
  |_=>H
def GU(H:A0):TWr->Wr
 | .sl n v=>.slot n (av H v)
 | .ob l o=>.obj l (gV (H.set l o) o)
 | .st l f s=>.obj l (match gV H (nth .dead H l)with| .box c=>.box (c.take f++bq H s++c.drop (f+(bq H s).length))|o=>o)
 | .kill l=>.obj l .dead
 | .nw l o=>.obj l (gV (H.set l o) o)
 | .up l i e y=>.obj l (match nth .dead H l with
  | .arr a x=>match ET.eq? e a with
   |some ⟨q⟩=>.arr a.sz ((upd x i (q▸y)).map a.enc)
   |none=>.dead
  |_=>.dead)
def Cj(H:A0):B3->B5|[]=>[]|w::s=>GU H w::Cj (wrH H w) s
def jW(H:A0)(d:Option Tmp)(v:TV):Cj H (fP d v)=aA d (av H v):=by cases d<;>rfl
def oQ:TV->Option (IntKind×Int)| .lf (.n k) x=>some (k,x)| .nat n=>some (.i64,n)|_=>none
def as0{H:A0}{v:TV}{k:IntKind}{a:Int}(h:av H v=.int k a):oQ v=some (k,a):=by
 cases v with
 |lf t x=>cases t<;>simp only[av]at h<;>first|(cases h;rfl)|cases h
 |nat n=>cases h;rfl
 |own l=>simp only[av]at h;unfold gD at h;split at h<;>cases h
 |psl l z c=>
  cases c with
  |none=>simp only[av]at h;unfold eY at h;split at h<;>cases h
  |some n=>cases h
 |_=>cases h
def aAA{H:A0}{v:TV}{k:IntKind}{a:Int}(h:oQ v=some (k,a)):av H v=.int k a:=by
 unfold oQ at h;split at h;·cases h;rfl
 ·cases h;rfl
 cases h
def Kup(t:As)(up:A5):Prop:=∀i k a,mem up i=true->oQ (nth .unk t i)=some (k,a)->k.wrap (a+1)=a+1
def Krl(t:As)(r:List (Nat×Nat×Nat)):Prop:=∀d i j,(d,i,j)∈r->∀k a,oQ (nth .unk t i)=some (k,a)->∃c,oQ (nth .unk t j)=some (k,c)/\∀b,nth .unk t d=.lf .b b->b=decide (a<c)
section
variable {P:Program}{γ:Type}{b:γ}{H:A0}{t:As}{θ:Nat→B8}{up:A5}{k:Nat}{o:Oper}{K:A5→B3→Option γ}
def aqo(t:As)(o:Oper)(ws:B3):Prop:=∀d i j e g,o.op=.binOp .lss e (.tmp i) (.tmp j) g->o.dst=some d->
 ∃v,ws=[.sl d v]/\∀k a,oQ (nth .unk t i)=some (k,a)->∃c,oQ (nth .unk t j)=some (k,c)/\∀b,v=.lf .b b->b=decide (a<c)
def rX(P:Program)(H:A0)(t:As)(k:Nat)(o:Oper)(K:A5->B3->Option γ)(b:γ):Prop:=
 ∃r s w,aP P k o (bL (aU H t)) (obj? (aB H))=some (r,w)/\((∀x∈o.op.operands,VF (bL (aU H t) x))->w=Cj H s)/\aqo t o s/\K r s=some b
def aGb{v:TV}{a:AV}(h:aC P o.op (bL (aU H t))=some a)(c:(∀x∈o.op.operands,VF (bL (aU H t) x))->a=av H v)(r:aqo t o (fP o.dst v))(d:K [] (fP o.dst v)=some b):rX P H t k o K b:=
 ⟨[],fP o.dst v,aA o.dst a,by simp only[aP,h],λe=>by rw[c e,jW],r,d⟩
def aq0:Op->Bool| .binOp _ _ _ _ _=>false|_=>true
def amr(h:aq0 o.op=true)(ws:B3):aqo t o ws:=λ_ _ _ _ _ e=>by rw[e]at h;cases h
def Hq{rd:A5}{ws:B3}(h:aP P k o (bL (aU H t)) (obj? (aB H))=some (rd,Cj H ws))(a:K rd ws=some b)(n:aq0 o.op=true:=by rfl):rX P H t k o K b:=
 ⟨rd,ws,_,h,λ_=>rfl,amr n ws,a⟩
def nC{v:TV}(h:aC P o.op (bL (aU H t))=some (av H v))(a:K [] (fP o.dst v)=some b)(n:aq0 o.op=true:=by rfl):rX P H t k o K b:=
 aGb h (λ_=>rfl) (amr n _) a
def BA{v:TV}{K:IntKind->Int->Option γ}(h:Ot v K=some b):∃k n,av H v=.int k n/\K k n=some b/\(isNat v=true->∃m:Nat,v=.nat m/\k=.i64/\n=m):=by
 unfold Ot at h;split at h;·exact⟨_,_,rfl,h,λh=>by cases h⟩
 ·rename_i m;exact⟨_,_,rfl,h,λ_=>⟨m,rfl,rfl,rfl⟩⟩
 cases h
def aAh{p q:Bool}{op:BinOp}{tt:TypeId}{k:IntKind}{a c:Int}{K:TV->Option γ}(h:aqh p q op k a c K=some b)
  (j:p=true->k.wrap (a+1)=a+1) (l:q=true->k=.i64/\0<=a):
  ∃v x,nO P op tt (.int k a) (.int k c)=some x/\(sj k a->x=av H v)/\K v=some b/\(op=.lss->v=.lf .b (decide (a<c))):=by
 have o:apl c=true->c=1:=λh=>by unfold apl at h;split at h;rfl;cases h
 unfold aqh at h;split at h
 ·rcases bD h with⟨f,h⟩|⟨_,h⟩
  ·simp only[qAa]at f;have:=o f.2;subst this;exact⟨_,_,by simp only[nO,if_true,j f.1,av,kr],λ_=>rfl,h,λe=>by cases e⟩
  exact⟨_,_,by simp only[nO,if_true,av,kr],λ_=>rfl,h,λe=>by cases e⟩
 ·rcases bD h with⟨f,h⟩|⟨_,h⟩
  ·simp only[qAa]at f;have:=o f.2;subst this;obtain⟨rfl,d⟩:=l f.1;refine⟨.lf (.n .i64) (a - 1),_,by simp only[nO,if_true];rfl,λw=>?_,h,λe=>by cases e⟩;have g:a<=9223372036854775807:=w.2;exact congrArg (AV.int .i64) (ayI (n:=a - 1) Cl Cl).symm
  exact⟨_,_,by simp only[nO,if_true,av,kr],λ_=>rfl,h,λe=>by cases e⟩
 ·exact⟨_,_,by simp only[nO,if_true,av,kr],λ_=>rfl,h,λe=>by cases e⟩
 ·split at h
  ·let⟨x,d,g⟩:=ob h;unfold abO at d;split at d
   ·cases d
   rename_i i;cases d;exact⟨_,_,by simp only[nO,if_true,i,if_false,av,kr],λ_=>rfl,g,λe=>by cases e⟩
  cases h
 ·let⟨x,d,g⟩:=ob h;unfold Vr at d;split at d
  ·cases d
  rename_i i;cases d;exact⟨.lf (.n k) _,_,by simp only[nO,if_true,i,if_false,av,kr],λ_=>rfl,g,λe=>by cases e⟩
 ·exact⟨_,_,by simp only[nO,if_true,av,kr],λ_=>rfl,h,λe=>by cases e⟩
 ·exact⟨_,_,by simp only[nO,if_true,av,kr],λ_=>rfl,h,λe=>by cases e⟩
 ·exact⟨_,_,by simp only[nO,if_true,av,kr],λ_=>rfl,h,λ_=>rfl⟩
 ·exact⟨_,_,by simp only[nO,if_true,av,kr],λ_=>rfl,h,λe=>by cases e⟩
 ·exact⟨_,_,by simp only[nO,if_true,av,kr],λ_=>rfl,h,λe=>by cases e⟩
 ·exact⟨_,_,by simp only[nO,if_true,av,kr],λ_=>rfl,h,λe=>by cases e⟩
 ·split at h
  ·let⟨x,d,g⟩:=ob h;unfold adw at d;split at d
   ·rename_i i;cases d;have f:(IntKind.i64.bits:Int)=64:=rfl;exact⟨.lf (.n .i64) _,_,by simp only[nO,if_true,f];rw[if_pos ⟨i.1,by omega⟩];rfl,λ_=>rfl,g,λe=>by cases e⟩
   cases d
  cases h
 ·let⟨x,d,g⟩:=ob h;unfold as1 at d;split at d
  ·rename_i i;cases d;exact⟨.lf (.n k) _,_,by simp only[nO,if_true];rw[if_pos i];rfl,λ_=>rfl,g,λe=>by cases e⟩
  cases d
 cases h
def aE5{op:BinOp}{tt:TypeId}{a c:Str}{K:TV->Option γ}(h:aB6 op a c K=some b):∃v,nO P op tt (.str a) (.str c)=some (av H v)/\K v=some b:=by
 unfold aB6 at h;split at h
 ·let⟨x,d,e⟩:=ob h;unfold awL at d;split at d
  ·rename_i f;cases d;exact⟨_,by simp only[nO,if_pos f];rfl,e⟩
  cases d
 all_goals first|cases h|exact⟨_,rfl,h⟩
def aEK{p o:Bool}{op:BinOp}{tt:TypeId}{x y:TV}{K:TV→Option γ}(h:aCm (TI.of P) p o op tt x y K=some b)
  (hp:p=true→∀k a,oQ x=some (k,a)→k.wrap (a+1)=a+1):
  ∃v r,nO P op tt (av H x) (av H y)=some r∧(VF (av H x)→r=av H v)∧K v=some b∧(op=.lss→∀k a,oQ x=some (k,a)→∃c,oQ y=some (k,c)∧v=.lf .b (decide (a<c))):=by
 unfold aCm at h;split at h
 ·rcases bD h with⟨hb,h⟩|⟨_,h⟩
  ·have hb:ajq P tt=true:=hb;split at h
   all_goals first
    |cases h
    |(refine⟨_,_,?_,fun _=>rfl,h,fun e=>by cases e⟩;simp only[av,kr,nO,hb,if_true,Nn];done)
    |(refine⟨_,_,?_,fun _=>rfl,h,fun e=>by cases e⟩;simp only[av,kr,nO,hb,if_true,Nn];rename_i l _;cases l<;>rfl)
  ·cases h
 ·split at h
  ·obtain⟨v,h1,h2⟩:=aE5 (H:=H) h;exact⟨v,_,h1,fun _=>rfl,h2,fun _ k a hx=>by cases hx⟩
  ·cases h
 ·split at h
  ·rcases bD h with⟨hb,h⟩|⟨_,h⟩
   ·have hb:ad1 P tt=true:=hb;unfold aDD at h;split at h
    all_goals first|cases h|exact⟨_,_,by simp only[av,kr,nO,hb,if_true],fun _=>rfl,h,fun e=>by cases e⟩
   ·cases h
  ·cases h
 ·obtain⟨k1,a,e1,h1,hn⟩:=BA (H:=H) h;obtain⟨k2,c,e2,h2,_⟩:=BA (H:=H) h1;rcases bD h2 with⟨hk,h3⟩|⟨_,h3⟩
  ·have hk:k1=k2:=by
    have:=qAj hk;cases k1<;>cases k2<;>first|rfl|cases this
   subst hk;obtain⟨v,r,g1,g2,g3,g4⟩:=aAh (P:=P) (H:=H) (tt:=tt) h3 (fun e=>hp (qBE.1 e).1 _ _ (as0 e1)) (fun e=>by
    obtain⟨m,rfl,rfl,rfl⟩:=hn (qBE.1 e).1;exact⟨rfl,by omega⟩)
   rw[e1,e2];exact⟨v,r,g1,g2,g3,fun e k a' hx=>by
    rw[as0 e1]at hx;cases hx;exact⟨c,as0 e2,g4 e⟩⟩
  ·cases h3
end
end
section
variable {P:Program}{γ:Type}{b:γ}{H:A0}{t:As}{θ:Nat→B8}{up:A5}{k:Nat}{d:Option Tmp}{ty:TypeId}{ps:String}{aft:Array Edge}{gd:Option (Nat×Bool)}{K:A5→B3→Option γ}
def Wy(H:A0)(v:TV):av H (R7 v)=av H v:=by cases v<;>rfl
def xM{H:A0}{k:Nat}(h:mh (nth .dead H k)=true):dG (obj? (aB H) k)=true:=by
 rw[kV];unfold mh at h;split at h;·rename_i e;rw[e];rfl
 cases h
def agf{v:TV}{K:(e:ET)->List e.D->Option γ}(h:ajz H v K=some b):∃e x t,av H v=.slice (x.map e.enc) t/\K e x=some b:=by
 unfold ajz at h;split at h;·exact⟨_,_,_,rfl,h⟩
 ·split at h
  ·rename_i l;exact⟨_,_,_,by simp only[av,l];rfl,h⟩
  ·rename_i l;exact⟨_,_,_,by simp only[av,l];rfl,h⟩
  cases h
 cases h
abbrev op'(d:Option Tmp)(op:Op)(ty:TypeId)(ps:String)(a:Array Edge)(g:Option (Nat×Bool)):Oper:=⟨d,op,ty,ps,a,g⟩
def aFQ{x:Operand}(h:dS (TI.of P) θ up k d t H (.move x) K=some b):rX P H t k (op' d (.move x) ty ps aft gd) K b:=
 nC (v:=gq t x) (by simp only[aC,bZ]) h
def az8{x:Operand}(h:dS (TI.of P) θ up k d t H (.assign x) K=some b):rX P H t k (op' d (.assign x) ty ps aft gd) K b:=
 nC (v:=gq t x) (by simp only[aC,bZ]) h
def aEN{c x y:Operand}(h:dS (TI.of P) θ up k d t H (.pick c x y) K=some b):rX P H t k (op' d (.pick c x y) ty ps aft gd) K b:=by
 simp only[dS]at h;split at h
 ·rename_i q a;rcases bD h with⟨e,h⟩|⟨e,h⟩
  ·exact nC (v:=gq t x) (by simp only[aC,bZ,a,av,kr,e,if_true]) h
  exact nC (v:=gq t y) (by simp only[aC,bZ,a,av,kr,e,qBR,if_false]) h
 cases h
def auu{x:Operand}(h:dS (TI.of P) θ up k d t H (.nilCheck x) K=some b):rX P H t k (op' d (.nilCheck x) ty ps aft gd) K b:=by
 simp only[dS]at h;split at h
 ·rename_i e l a;let⟨p,g,i⟩:=ob h;have j:l=p.1::p.2:=by cases l with
   |nil=>cases g
   |cons y r=>cases g;rfl
  refine nC (v:=.eptr [e.seg p.1,.lf (.f e) p.2]) ?_ i;have m:bq H [e.seg p.1,.lf (.f e) p.2]=e.enc p.1++[.flist (List.map e.enc p.2)]:=by
   have:=amh H e p.1;rw[show[e.seg p.1,TV.lf (.f e) p.2]=[e.seg p.1]++[TV.lf (.f e) p.2]from rfl,Iw,this];rfl
  simp only[aC,bZ,a,av,kr,m,j,qAy]
 ·rename_i l o a;exact nC (v:=.ptr l o) (by simp only[aC,bZ,a,av]) h
 ·rename_i c a;exact nC (v:=.eptr c) (by simp only[aC,bZ,a,av]) h
 ·rename_i f c a;exact nC (v:=.func f c) (by simp only[aC,bZ,a,av]) h
 cases h
def aBE{op:BinOp}{tt e:TypeId}{x y:Operand}(l:Kup t up)(h:dS (TI.of P) θ up k d t H (.binOp op tt x y e) K=some b):rX P H t k (op' d (.binOp op tt x y e) ty ps aft gd) K b:=by
 simp only[dS]at h;let⟨v,r,m,n,o,q⟩:=aEK (P:=P) (H:=H) h (λp s a u=>by
  split at p;·rename_i i;exact l i s a p u
  cases p)
 refine aGb (v:=v) (a:=r) (by simp only[aC,bZ];exact m) (λw=>n ?_) ?_ o;·rw[<-bZ];exact w x (by simp[Op.operands])
 intro F i j z g A B;obtain⟨rfl,rfl,rfl,rfl,rfl⟩:=A;subst B;refine⟨v,rfl,λk a C=>?_⟩;let⟨c,D,E⟩:=q rfl k a C;exact⟨c,D,λb f=>by rw[E]at f;cases f;rfl⟩
def aD5{op:UnOp}{tt:TypeId}{x:Operand}(h:dS (TI.of P) θ up k d t H (.unOp op tt x) K=some b):rX P H t k (op' d (.unOp op tt x) ty ps aft gd) K b:=by
 simp only[dS]at h;split at h;·rename_i q a;exact nC (v:=.lf .b (!q)) (by simp only[aC,bZ,a,av,kr]) h
 ·rename_i c n a;exact nC (v:=.lf (.n c) _) (by simp only[aC,bZ,a,av,kr]) h
 cases h
def arA{s f:Nat}{x:Operand}(h:dS (TI.of P) θ up k d t H (.fieldAddr s x f) K=some b):rX P H t k (op' d (.fieldAddr s x f) ty ps aft gd) K b:=by
 simp only[dS]at h;rw[Uu]at h;split at h
 ·rename_i g p e;split at h
  ·rename_i l o c;exact nC (v:=.ptr l (o+g)) (by simp only[aC,bZ,c,e,av]) h
  ·rename_i q c;let⟨a,r,j,m,n⟩:=zH (H:=H) _ _ _ _ h;exact nC (v:=.eptr r) (by simp only[aC,bZ,c,e,av,j,<-m,qCU]) n
  ·rename_i l i z o c;exact nC (v:=.ap l i z (o+g)) (by simp only[aC,bZ,c,e,av,qBN]) h
  cases h
 cases h
def aBL{s f:Nat}{x:Operand}(h:dS (TI.of P) θ up k d t H (.field s x f) K=some b):rX P H t k (op' d (.field s x f) ty ps aft gd) K b:=by
 simp only[dS]at h;rw[Uu]at h;have c:∀(o:Nat) (a:TypeId) (g:As),Bo P s f=some (o,a)->av H (gq t x)=.agg (bq H g)->(ldK (TI.of P) a o g λv=>K [] (fP d (R7 v)))=some b->rX P H t k (op' d (.field s x f) ty ps aft gd) K b:=λo a g j i h=>by
  let⟨v,l,m⟩:=abC (H:=H) h;exact nC (v:=R7 v) (by simp only[aC,bZ,i,j,l,Wy]) m
 split at h
 ·rename_i o a j;split at h
  ·rename_i g i;exact c o a g j (by rw[i];rfl) h
  ·rename_i e y i;exact c o a _ j (by rw[i];simp only[av,kr,bq,AB,qAt]) h
  cases h
 cases h
def Qm{e:ET}{sz:Nat}(h:acC e sz=true):e.sz=sz:=qAj h
def aIL{tt:TypeId}{sz:Nat}(h:(TI.of P tt).ix=.sl (some sz)):∃e,P.underlying tt=some (.slice e)/\sizeT P e=some sz:=by
 have h:Qy P tt=.sl (some sz):=h;unfold Qy at h
 grind
def az5{n:Int}{K:Nat->Option γ}{b:γ}:∀(m q:Nat),atK n m q K=some b->∃r,q<=r/\r<q+m/\n=(r:Int)/\K r=some b
 |0,_,h=>by cases h
 |m+1,q,h=>by
  rcases bD h with⟨c,h⟩|⟨_,h⟩
  ·grind
  let⟨r,a,d,e⟩:=az5 m (q+1) h
  grind
def aE3{len:Nat}{x:Int}{c:Nat}(h:FJ len x=some c):0<=x/\x<=len/\c=x.toNat:=by
 unfold FJ at h;split at h;·grind
 cases h
def arj{tt:TypeId}{x i:Operand}(h:dS (TI.of P) θ up k d t H (.indexAddr tt x i) K=some b):rX P H t k (op' d (.indexAddr tt x i) ty ps aft gd) K b:=by
 simp only[dS]at h;split at h
 ·rename_i s c;let⟨C,n,j,f,_⟩:=BA (H:=H) h;split at f
  ·rename_i l z m;split at f
   ·rename_i e D M;rcases bD f with⟨g,a⟩|⟨_,a⟩
    ·have g:z=s:=qAj g;let⟨y,p,r⟩:=ob a;let⟨A,E,B⟩:=Nb p;have F:(TI.of P tt).ix=.sl (some s):=c;let⟨N,O,G⟩:=aIL F;refine nC (v:=.ap l n z 0) ?_ r;simp only[aC,bZ,m,av,eY]
     grind
    cases a
   cases f
  let⟨e,D,Q,I,a⟩:=agf f;rcases bD a with⟨g,a⟩|⟨_,a⟩
  ·have g:=Qm g;let⟨y,p,r⟩:=ob a;let⟨A,E,B⟩:=Nb p;let⟨v,u,w⟩:=ac9 (P:=P) (t:=tt) (x:=x) (i:=i) (ρ:=bL (aU H t)) (K:=λv=>v=.eptr (e.enc y)) (by
    simp only[bZ];rw[c,j,I];exact⟨e.enc y,by rw[qAE,B];rfl,A,by rw[LW];exact g,rfl⟩)
   exact nC (v:=.eptr [e.seg y]) (by rw[u,w];simp only[av,amh]) r
  cases a
 ·rename_i J s c;split at h
  ·rename_i l o m;let⟨C,n,j,f,_⟩:=BA (H:=H) h;let⟨q,R,S,L,a⟩:=az5 _ _ f;let⟨v,u,w⟩:=ac9 (P:=P) (t:=tt) (x:=x) (i:=i) (ρ:=bL (aU H t)) (K:=λv=>v=.ptr l (o+q*s)) (by
    simp only[bZ];rw[c,j,m];exact⟨⟨by omega,by omega⟩,by rw[L];rfl⟩)
   exact nC (v:=.ptr l (o+q*s)) (by rw[u,w];rfl) a
  cases h
 cases h
def aBV{tt:TypeId}{x i:Operand}(h:dS (TI.of P) θ up k d t H (.index tt x i) K=some b):rX P H t k (op' d (.index tt x i) ty ps aft gd) K b:=by
 simp only[dS]at h;split at h
 ·rename_i s e;rcases bD h with⟨c,h⟩|⟨_,h⟩
  ·have c:aC.isStrT P tt=true:=c;let⟨m,n,f,g,_⟩:=BA (H:=H) h;let⟨y,a,j⟩:=ob g;unfold oL at a;split at a
   ·rename_i l;cases a;exact nC (v:=.lf (.n .u8) _) (by simp only[aC,bZ,e,f,av,kr];rw[if_pos ⟨c,l⟩]) j
   cases a
  cases h
 cases h
def axU{x:Operand}{i:Nat}(h:dS (TI.of P) θ up k d t H (.extract x i) K=some b):rX P H t k (op' d (.extract x i) ty ps aft gd) K b:=by
 simp only[dS]at h;split at h
 ·rename_i s c;rcases bD h with⟨a,h⟩|⟨_,h⟩
  ·have a:i<s.length:=qAf a;refine nC (v:=R7 (nth .unk s i)) ?_ h;simp only[aC,bZ,c,av];simp only[uM,qAi,a,if_true,Wy,jF,List.getD,qAE,qAc a,qAx,qAw]
  cases h
 cases h
def Nt{v:Option TV}{d:Int}{K:Int->Option γ}(h:Q6 v d K=some b):∃n,Bd (v.map (av H)) n d/\K n=some b:=by
 unfold Q6 at h;split at h;·exact⟨_,.none _,h⟩
 let⟨k,n,e,a,_⟩:=BA (H:=H) h;exact⟨n,by simp only[qAx,e];exact .int _ _ _,a⟩
def apL(H:A0)(t:As)(x:Option Operand):x.map (bL (aU H t))=(x.map (gq t)).map (av H):=by cases x<;>simp[bZ]
def aA7{tt:TypeId}{x:Operand}{lo hi:Option Operand}(h:dS (TI.of P) θ up k d t H (.slice tt x lo hi none) K=some b):rX P H t k (op' d (.slice tt x lo hi none) ty ps aft gd) K b:=by
 simp only[dS]at h;split at h
 ·rename_i s p;rcases bD h with⟨u,h⟩|⟨_,h⟩
  ·let⟨w,j,h⟩:=Nt (H:=H) h;let⟨m,i,h⟩:=Nt (H:=H) h;let⟨y,o,a⟩:=ob h;let⟨r,⟨A,C,D,E,F⟩,G⟩:=aIs (B:=λr=>r=y) o j i rfl;let⟨v,I,J⟩:=abU (P:=P) (t:=tt) (x:=x) (lo:=lo) (hi:=hi) (ρ:=bL (aU H t)) (K:=λv=>v=.str y) (by
    rw[bZ,p,apL,apL];rw[show(TI.of P tt).isStr=true from u];exact⟨A,C,D,E,by rw[<-F,G]⟩)
   exact nC (v:=.lf .s y) (by rw[I,J];rfl) a
  cases h
 ·rename_i l z p;split at h
  ·rename_i e L M j g;let⟨m,i,h⟩:=Nt (H:=H) h;let⟨c,o,a⟩:=ob h;let⟨S,T,U⟩:=aE3 o;have u:aC.sliceT P tt=some M:=g;refine nC (v:=.psl l z (some c)) ?_ a;have Q:eX (hi.map (bL (aU H t))) L.length L.length=some c:=by
    rw[apL];generalize Option.map (av H) (Option.map (gq t) hi)=q at i;cases i with
    |none=>simp[eX];omega
    |int k n=>simp[eX];omega
   simp only[aC,bZ,p,av,j,eY,u,Q]
  cases h
 split at h
 ·rename_i M g;let⟨e,L,V,R,a⟩:=agf h
  ·rcases bD a with⟨N,h⟩|⟨_,h⟩
   ·have N:=Qm N;let⟨w,j,h⟩:=Nt (H:=H) h;let⟨m,i,h⟩:=Nt (H:=H) h;let⟨y,o,a⟩:=ob h;let⟨r,⟨A,C,D,E,O,F⟩,G⟩:=aJN (f:=e.enc) (sz:=e.sz) (B:=λr=>r=y.map e.enc) o j i (NS e) rfl;let⟨v,I,J⟩:=abU (P:=P) (t:=tt) (x:=x) (lo:=lo) (hi:=hi) (ρ:=bL (aU H t)) (K:=λv=>v=.slice (y.map e.enc) .shared) (by
     rw[bZ,R,apL,apL];rw[g];exact⟨A,C,D,E,by rw[<-N];exact O,by rw[<-F,G]⟩)
    exact nC (v:=.lf (.l e) y) (by rw[I,J];rfl) a
   cases h
 cases h
def aly{a:AV}(h:okA a=true):av H (Ye a)=a/\one (Ye a):=by unfold okA at h;split at h<;>first|exact⟨rfl,λ_=>rfl⟩|cases h
def RP:∀{z:An},acw z=true->bq H (z.map Ye)=z|[],_=>rfl|a::z,h=>by simp only[acw,qAa]at h;simp only[qAy,bq,(aly (H:=H) h.1).2 _,(aly (H:=H) h.1).1,RP h.2,qAM,qAo]
def avC{z:AV}(h:okZ z=true):av H (acg z)=z:=by
 have k:okA z=true->acg z=Ye z->av H (acg z)=z:=λh e=>by rw[e];exact(aly h).1
 cases z with|agg c=>simp only[acg,av,RP (show acw c=true from h)]|_=>exact k h rfl
def aqa{place:Nat->Option (Nat×Nat)}:∀(l:List (Nat×TV)) (cs:As) (K:As->Option γ),aia H place l cs K=some b->∃s,lH place (bq H cs) (l.map λp=>(p.1,av H p.2))=some (bq H s)/\K s=some b:=by
 intro l
 induction l with
 |nil=>intro cs K h;exact⟨cs,rfl,h⟩
 |cons p l i=>
  intro cs K h;simp only[aia]at h;split at h
  ·rename_i o z f;split at h
   ·rename_i n g;rcases bD h with⟨w,h⟩|⟨_,h⟩
    ·have w:(bq H n).length=z:=by rw[l7];exact qAj w
     let⟨a,r,d,j,k⟩:=zH (H:=H) _ _ _ _ h;let⟨c,m,q,y,t⟩:=zH (H:=H) _ _ _ _ k;let⟨s,e,u⟩:=i _ _ t;refine⟨s,?_,u⟩;have v:(bq H cs).take o=bq H a:=by rw[d,<-j,qDx]
     have x:(bq H cs).drop (o+z)=bq H m:=by
      grind
     simp only[qAy,lH,f,IV g];rw[if_pos ⟨w,by rw[d,q];simp;omega⟩,v,x];rw[Iw,Iw,<-qAm]at e;exact e
    cases h
   cases h
  cases h
def amX(l:List (Nat×Operand)):(l.map λp=>(p.1,bL (aU H t) p.2))=(l.map λp=>(p.1,gq t p.2)).map λp=>(p.1,av H p.2):=by rw[qBh];exact qBu λp _=>by simp only[Function.comp,bZ]
def aBh{tt:TypeId}{parts:Array (Nat×Operand)}(h:dS (TI.of P) θ up k d t H (.build tt parts) K=some b):rX P H t k (op' d (.build tt parts) ty ps aft gd) K b:=by
 rcases bD h with⟨s,h⟩|⟨_,h⟩
 ·have s:zP P tt=true:=s;split at h
  ·rename_i z a;have a:lI P tt=some z:=a;rcases bD h with⟨o,h⟩|⟨_,h⟩
   ·let⟨c,e,f⟩:=aqa _ _ _ h;rw[RP o,<-amX,funext (anZ P tt)]at e;exact nC (v:=ady c) (by simp only[aC,s,if_true,a,e,qAx,alX]) f
   cases h
  cases h
 rename_i s;have s:zP P tt=false:=s;split at h
 ·rename_i l g z i a;have a:lI P tt=some z:=a;have i:Qy P tt=.arr l (some g):=i;have j:ahf P tt=some g:=by
   unfold Qy at i;unfold ahf
   grind
  rcases bD h with⟨o,h⟩|⟨_,h⟩
  ·let⟨c,e,f⟩:=aqa _ _ _ h;rw[RP o,<-amX]at e;exact nC (v:=ady c) (by simp only[aC,s,qBR,if_false,j,a,e,qAx,alX]) f
  cases h
 cases h
def auq{f:Nat}{first cap:Array Operand}(h:dS (TI.of P) θ up k d t H (.makeFunc (.func f) first cap) K=some b):rX P H t k (op' d (.makeFunc (.func f) first cap) ty ps aft gd) K b:=by
 rcases bD h with⟨s,h⟩|⟨_,h⟩
 ·have s:=qAj s;refine nC (v:=.func f (cap.toList.map λx=>R7 (gq t x))) ?_ h;simp only[aC,s,if_true,av,uM,qBh,Option.some.injEq,AV.func.injEq,true_and];exact qBu λx _=>by simp only[Function.comp,Wy];rw[<-uM,bZ]
 cases h
def aEm{tt:TypeId}{x:Operand}(h:dS (TI.of P) θ up k d t H (.load tt x) K=some b):rX P H t k (op' d (.load tt x) ty ps aft gd) K b:=by
 simp only[dS]at h;split at h;·rename_i s a;let⟨v,c,f⟩:=abC (H:=H) h;exact nC (v:=R7 v) (by simp only[aC,bZ,a,av,Wy];simpa using c) f
 ·rename_i l o a;split at h
  ·rename_i s m;let⟨v,c,f⟩:=abC (H:=H) h;refine Hq (rd:=[l]) (ws:=fP d (R7 v)) ?_ f;simp only[aP,aC,bZ,a,av,kV,m,gV,c,qAx,jW,Wy]
  cases h
 ·rename_i l i z o a;split at h
  ·rename_i e u m;rcases bD h with⟨n,g⟩|⟨_,h⟩
   ·clear h;simp only[qAa]at n;let⟨j,p,q⟩:=n;have j:z=e.sz:=qAj j;have p:o=0:=qAj p;have q:1<=z:=qAf q;subst j;let⟨y,c,g⟩:=ob g;let⟨B,C,w⟩:=Nb c;let⟨v,f,A⟩:=abC (H:=H) g;rw[amh,qAY]at f;refine Hq (rd:=[l]) (ws:=fP d (R7 v)) ?_ A;have D:(i.toNat*e.sz+0)/e.sz=i.toNat:=by rw[qAS,Nat.mul_div_cancel _ Cl]
    have r:(u.map e.enc).getD i.toNat []=e.enc y:=by simp[w]
    simp only[aP,aC,bZ,a,av,kV,gV,jW,Wy]
    grind
   cases h
  cases h
 cases h
def axo{s tt:TypeId}{x:Operand}(h:dS (TI.of P) θ up k d t H (.convert s tt x) K=some b):rX P H t k (op' d (.convert s tt x) ty ps aft gd) K b:=by
 simp only[dS]at h;have e:∀(c:IntKind) (n:Int),av H (gq t x)=.int c n->(bif (TI.of P s).int.isSome then(match(TI.of P tt).int with|some k=>K [] (fP d (.lf (.n k) (k.wrap n)))|none=>none)else none)=some b->rX P H t k (op' d (.convert s tt x) ty ps aft gd) K b:=λc n a h=>by
  rcases bD h with⟨j,h⟩|⟨_,h⟩
  ·split at h
   ·rename_i i f;have l:=alC f;let⟨o,g⟩:=qCr.1 j;have m:=alC g;refine nC (v:=.lf (.n i) (i.wrap n)) ?_ h;simp only[aC,bZ,a,aC.convT,m,l,av,kr]
   cases h
  cases h
 split at h;·rename_i c n a;exact e _ _ (by rw[a];rfl) h
 ·rename_i n a;exact e .i64 n (by rw[a];rfl) h
 cases h
def agT:∀{cs:As},ai6 H cs=true->(bq H cs).all isScalar=true
 |[],_=>rfl
 |v::cs,h=>by
  simp only[ai6,qAa]at h;simp only[bq,qEa,agT h.2,qBH];have a:=h.1;cases v with
  |lf t x=>cases t<;>first|rfl|(cases a;done)|(rename_i e;have:=NS e x;simp only[dH,qAa]at this;exact this.2)
  |own l=>
   simp only[scB]at a;split at a
   ·rename_i b;simp only[av,b];rfl
   ·rename_i b;simp only[av,b];rfl
   cases a
  |psl l z c=>
   cases c with
   |some n=>rfl
   |none=>
    simp only[scB]at a;split at a
    ·rename_i b;simp only[av,b];rfl
    ·rename_i b;simp only[av,b];rfl
    cases a
  |_=>first|rfl|(cases a;done)
def am6{cs:As}{off:Nat}{vs:As}{K:As->Option γ}(h:vS cs off vs K=some b):∃s,vS cs off vs some=some s/\K s=some b:=by
 have k:∀(f:Nat) (cs:As) (n:Nat) (K:As->As->Option γ),splitK f cs n K=some b->∃a r,(∀{p:Type} (d:As->As->Option p),splitK f cs n d=d a r)/\K a r=some b:=by
  intro f
  induction f with|zero=>intro cs n K h;cases h|succ f o=>
   intro cs n K h;unfold splitK at h;cases n with|zero=>exact⟨[],cs,λd=>by unfold splitK;rfl,h⟩|succ m=>
    cases cs with|nil=>cases h|cons c r=>
     rcases bD h with⟨w,g⟩|⟨w,g⟩
     ·let⟨a,l,i,j⟩:=o _ _ _ g;exact⟨c::a,l,λd=>by unfold splitK;simp only[w];exact i _,j⟩
     split at g;·rename_i e x;let⟨a,l,i,j⟩:=o _ _ _ g;exact⟨a,l,λd=>by unfold splitK;simp only[w];exact i _,j⟩
     cases g
 let⟨a,r,i,j⟩:=k _ _ _ _ h;let⟨c,l,q,t⟩:=k _ _ _ _ j;exact⟨_,by unfold vS;rw[i,q],t⟩
def auV{cs cs' vs:As}{off:Nat}(H:A0)(h:vS cs off vs some=some cs'):bq H cs'=(bq H cs).take off++bq H vs++(bq H cs).drop (off+(bq H vs).length)/\off+(bq H vs).length<=(bq H cs).length:=by
 unfold vS at h;let⟨a,r,b,e,f⟩:=zH (H:=H) _ _ _ _ h;let⟨c,g,d,i,j⟩:=zH (H:=H) _ _ _ _ f;cases j;rw[<-l7 H vs]at i;have k:(bq H cs).take off=bq H a:=by rw[b,<-e,qDx]
 have l:(bq H cs).drop (off+(bq H vs).length)=bq H g:=by rw[b,d,<-qAm,qDs (by simp only[qAe];omega)]
 refine⟨by rw[Iw,Iw,k,l,qAm],?_⟩;rw[b,d];simp only[qAe];omega
def aqW{xs ys:An}(h:Cvs false xs ys):xs=ys:=by induction h with|nil=>rfl|cons h _ i=>rw[i];cases h;rfl
def aBZ{tt:TypeId}{x y:Operand}(h:dS (TI.of P) θ up k d t H (.store tt x y) K=some b):rX P H t k (op' d (.store tt x y) ty ps aft gd) K b:=by
 simp only[dS]at h;split at h
 ·rename_i l o v;split at h
  ·rename_i n s w a;have a:sizeT P tt=some s:=a;split at h
   ·rename_i A q;rcases bD h with⟨g,h⟩|⟨_,h⟩
    ·simp only[qAa]at g;let⟨⟨c,f⟩,B⟩:=g;have c:(bq H n).length=s:=by rw[l7];exact qAj c
     have f:o+s<=(bq H A).length:=by rw[l7];exact qAf f
     refine Hq ?_ h;simp only[aP,aC,bZ,v,av,IV w,kV,q,gV];rw[if_pos ⟨by rw[c];exact a,by rw[c];exact f,agT B⟩];simp only[Cj,GU,q,gV,jW];rfl
    cases h
   cases h
  cases h
 ·rename_i l i z o v;split at h
  ·rename_i n s w a;have a:sizeT P tt=some s:=a;split at h
   ·rename_i e j q;rcases bD h with⟨g,J⟩|⟨_,h⟩
    ·clear h;simp only[qAa]at g;let⟨⟨c,f,D,E⟩,B⟩:=g;have c:(bq H n).length=s:=by rw[l7];exact qAj c
     have f:z=e.sz:=qAj f;subst f;have D:1<=s:=qAf D;have E:o+s<=e.sz:=qAf E;let⟨x,L,h⟩:=ob J;let⟨Y,Z,M⟩:=Nb L;let⟨A,N,h⟩:=am6 h;let⟨u,r,ys,C,O,Q⟩:=Xx _ _ _ _ h;split at C
     ·obtain⟨F,rfl,R⟩:=kS C;have S:bq H A=e.enc F:=by
       rw[O];simp only[bq,qAt];exact(aqW Q).symm
      have G:=(auV H N).1;rw[XT]at G;have T:(i.toNat*e.sz+o)/e.sz=i.toNat:=by
       rw[qBK,Nat.mul_add_div Cl,Nat.div_eq_of_lt Cl,qAS]
      have U:(i.toNat*e.sz+o)%e.sz=o:=by
       rw[qBK,qDr,qCl Cl]
      have m:i.toNat<(j.map e.enc).length:=by rw[qAi];omega
      have p:(j.map e.enc).getD i.toNat []=e.enc x:=by simp[List.getD,M]
      refine Hq ?_ R;have V:(upd j i F).map e.enc=(j.map e.enc).set i.toNat ((e.enc x).take o++bq H n++(e.enc x).drop (o+(bq H n).length)):=by
       rw[<-G,S,upd,qCN]
      simp only[aP,aC,bZ,v,av,IV w,kV,q,gV,T,U,Cj,GU,ET.eq_self,jW,V,p];by_cases I:sizeT P tt=some (bq H n).length/\(bq H n).length=e.sz/\i.toNat*e.sz+o=i.toNat*e.sz/\i.toNat<(j.map e.enc).length/\(bq H n).all isScalar
      ·rw[if_pos I];have W:o=0:=by omega
       subst W;have X:(e.enc x).drop (0+(bq H n).length)=[]:=qDu (by rw[LW];omega);rw[X,qAX,qAo,qAt];rfl
      rw[if_neg I,if_pos ⟨by rw[c];exact a,by omega,m,by omega,agT B⟩];rfl
     cases C
    cases h
   cases h
  cases h
 cases h
def aCO{tt:TypeId}(h:dS (TI.of P) θ up k d t H (.alloc tt) K=some b):rX P H t k (op' d (.alloc tt) ty ps aft gd) K b:=by
 simp only[dS]at h;split at h
 ·rename_i z a;have a:lI P tt=some z:=a;rcases bD h with⟨c,h⟩|⟨_,h⟩
  ·simp at c;refine Hq (rd:=[k]) ?_ h;simp only[aP,aC,xM c.2,if_true,a,qAx,Cj,GU,gV,RP c.1,jW,av]
  cases h
 cases h
def aIa{tt:TypeId}{x:Operand}(h:dS (TI.of P) θ up k d t H (.box tt x) K=some b)(a:∀cs,F9 H (gq t x)=some cs->mh (nth .dead H k)=true->bq (H.set k (.box cs)) cs=bq H cs):rX P H t k (op' d (.box tt x) ty ps aft gd) K b:=by
 simp only[dS]at h;split at h
 ·rename_i cs c;rcases bD h with⟨e,h⟩|⟨_,h⟩
  ·refine Hq (rd:=[k]) ?_ h;simp only[aP,aC,xM e,if_true,bZ,IV c,qAx,Cj,GU,gV,jW,av,a cs c e]
  cases h
 cases h
def axX{tt:TypeId}(h:dS (TI.of P) θ up k d t H (.makeMap tt none) K=some b):rX P H t k (op' d (.makeMap tt none) ty ps aft gd) K b:=by
 simp only[dS]at h;split at h
 ·split at h
  ·rcases bD h with⟨c,h⟩|⟨_,h⟩
   ·refine Hq (rd:=[k]) ?_ h;simp only[aP,aC,xM c,if_true,Cj,GU,gV,qCM,jW,av]
   cases h
  cases h
 cases h
def aGl{args:Array Operand}{f:Array TypeId}(h:dS (TI.of P) θ up k d t H (.call {callee:=.builtin .len,args,argTypes:=f}) K=some b):rX P H t k (op' d (.call {callee:=.builtin .len,args,argTypes:=f}) ty ps aft gd) K b:=by
 simp only[dS]at h;split at h
 ·rename_i x i j c;split at h
  ·rename_i s g;rcases bD h with⟨a,h⟩|⟨_,h⟩
   ·have a:aC.isStrT P i=true:=a;refine nC (v:=.nat s.length) ?_ h;simp only[aC,j,c,bZ,g,av,kr,a,if_true]
   cases h
  ·rename_i g;rcases bD h with⟨a,h⟩|⟨_,h⟩
   ·have a:(aC.sliceT P i).isSome=true:=a;refine nC (v:=.nat 0) ?_ h;simp only[aC,j,c,bZ,g,a];rfl
   cases h
  ·rename_i l z g;split at h
   ·rename_i e m n;rcases bD h with⟨a,h⟩|⟨_,h⟩
    ·have a:(aC.sliceT P i).isSome=true:=a;refine nC (v:=.nat m.length) ?_ h;simp only[aC,j,c,bZ,g,av,n,eY,a,if_true]
    cases h
   cases h
  rcases bD h with⟨a,h⟩|⟨_,h⟩
  ·have a:(aC.sliceT P i).isSome=true:=a;let⟨e,m,q,o,p⟩:=agf h;refine nC (v:=.nat m.length) ?_ p;simp only[aC,j,c,bZ,o,a,if_true,av,qAi]
  cases h
 cases h
def aHd{args:Array Operand}{s:Array TypeId}(h:dS (TI.of P) θ up k d t H (.call {callee:=.builtin .min,args,argTypes:=s}) K=some b):rX P H t k (op' d (.call {callee:=.builtin .min,args,argTypes:=s}) ty ps aft gd) K b:=by
 simp only[dS]at h;split at h
 ·rename_i x y j;let⟨e,a,l,m,_⟩:=BA (H:=H) h;let⟨i,c,n,o,_⟩:=BA (H:=H) m;rcases bD o with⟨f,g⟩|⟨_,g⟩
  ·have f:e=i:=by
    have:=qAj f;cases e<;>cases i<;>first|rfl|cases this
   subst f;refine nC (v:=.lf (.n e) (if c<a then c else a)) ?_ g;simp only[aC,j,bZ,l,n,if_true,av,kr]
  cases g
 cases h
def G9{k:Nat}(h:mh (nth .dead H k)=true):k<H.length:=by apply qAn;intro n;rw[jF,List.getD,qAC (qBd n)]at h;cases h
def cK{α:Type}{d:α}{l:List α}{k:Nat}{v:α}(h:k<l.length):nth d (l.set k v) k=v:=by rw[jF];simp[h]
def aX{α:Type}{d:α}{l:List α}{k m:Nat}{v:α}(h:k≠m):nth d (l.set k v) m=nth d l m:=by rw[jF,jF];simp[qBV h]
def YC{k z:Nat}{e:ET}{r:List e.D}(h:k<H.length):av (H.set k (.arr e r)) (.psl k z none)=.psl k z r.length:=by simp only[av,cK h,eY]
def Ym{k:Nat}{e:ET}{r:List e.D}(h:k<H.length):av (H.set k (.own e r)) (.own k)=.slice (r.map e.enc) (.tip k e.sz):=by simp only[av,cK h,gD]
def azd{e:ET}:∀(l:List (Nat×Operand)) (i:Nat) (K:List e.D->Option γ),aqS H e i (l.map λp=>(p.1,gq t p.2)) K=some b->
  ∃(s:List e.D) (css:List An),K s=some b/\VK i l=true/\css.length=l.length/\(∀c∈css,c.length=e.sz)/\(∀j:Nat,j<l.length->∃p,l[j]? =some p/\eO (bL (aU H t) p.2)=css[j]?)/\css.map (λc=>c.map shr)=s.map e.enc:=by
 intro l
 induction l with|nil=>intro i K h;exact⟨[],[],h,rfl,rfl,λc hc=>(by cases hc),λj a=>(by cases a),rfl⟩|cons p l f=>
  intro i K h;rcases bD h with⟨g,h⟩|⟨_,h⟩
  ·let⟨x,k,m,n,d⟩:=aCy h;let⟨s,css,o,q,r,v,w,u⟩:=f _ _ m;refine⟨x::s,k::css,o,by simp only[VK,g,q,qCz],by simp[r],?_,?_,by simp only[qAy,arb d,u]⟩
   ·intro c hc;rcases qAh.1 hc with rfl|hc
    ·rw[<-d.len,LW]
    grind
   intro j a;cases j with|zero=>exact⟨p,rfl,by rw[bZ];exact n⟩|succ j=>grind
  cases h
def aoW{tt:TypeId}{len:Nat}{parts:Array (Nat×Operand)}(h:dS (TI.of P) θ up k d t H (.buildSlice tt len parts) K=some b):rX P H t k (op' d (.buildSlice tt len parts) ty ps aft gd) K b:=by
 simp only[dS]at h;split at h
 ·rename_i r g y i;have i:mX P tt=some (r,g,y):=i;split at h
  ·rename_i e z A j;have j:lI P r=some z:=j;rcases bD h with⟨a,B⟩|⟨_,h⟩
   ·clear h;simp only[qAa]at a;let⟨⟨f,m,u⟩,n,o,p⟩:=a;have f:=qAj f;have m:=Qm m;subst m;have n:=qAj n;have o:=qAf o;have p:=qAf p;let⟨x,s,C,D,E,v,F,G⟩:=azd _ _ _ B;have l:((List.replicate len z).flatten).length=len*e.sz:=by
     simp_all
    have w:=afe (ρ:=bL (aU H t)) (sz:=e.sz) parts.toList 0 s ((List.replicate len z).flatten) D E v F (by rw[l,qAL,f];exact qAd _);rw[qDM,qAX,qAo,qAL,f,qDu (by rw[l];exact qAd _),qAt]at w;refine Hq (rd:=[k]) ?_ C;simp only[aP,aC,i,j];rw[if_pos ⟨xM u,o,p,n⟩,w];have I:x.length=len:=by
     have:=congrArg List.length G
     grind
    have q:chunks e.sz len (s.flatten.map shr)=x.map e.enc:=by
     have:=chunks_flatten (sz:=e.sz) (css:=s.map λc=>c.map shr) (λc a=>by
      obtain⟨J,L,rfl⟩:=qAJ.1 a;rw[qAi];exact v J L)
     grind
    simp only[qAx,Cj,GU,gV,jW,wrH,Ym (G9 u),q,I]
   cases h
  cases h
 cases h
def aGk{l:Int}(h:isZ l=true):l=0:=by unfold isZ at h;split at h;rfl;cases h
def aCw{x y:Operand}(h:ax1 x y=true):x=y:=by
 unfold ax1 at h;split at h;·rw[qAj h]
 cases h
def aFJ{z:An}(h:aCT z=true):z=[.bool false]:=by
 unfold aCT at h;split at h;·rfl
 cases h
def aq5{tt:TypeId}{x y:Operand}(h:dS (TI.of P) θ up k d t H (.makeSlice tt x y) K=some b):rX P H t k (op' d (.makeSlice tt x y) ty ps aft gd) K b:=by
 simp only[dS]at h;split at h
 ·rename_i w C q o;have o:mX P tt=some (w,C,q):=o;split at h
  ·rename_i e z D p;have p:lI P w=some z:=p;let⟨F,l,r,E,_⟩:=BA (H:=H) h;let⟨G,c,A,s,_⟩:=BA (H:=H) E;rcases bD s with⟨n,u⟩|⟨_,s⟩
   ·simp only[qAa]at n;let⟨⟨f,g⟩,i,j,B⟩:=n;have f:=aCw f;have g:=aFJ g;have i:=qAj i;have j:=qAf j;subst f g i;let⟨I,a,v⟩:=ob u;cases r.symm.trans A;unfold mkz at a;split at a
    ·rename_i m;cases a;refine Hq (rd:=[k]) ?_ v;simp only[aP,o,bZ,r,p];rw[if_pos ⟨xM B,m.1,qBD _,by have:=Int.mul_le_mul (Int.ofNat_le.2 j) m.2 m.1 Cl;omega,by omega,rfl⟩];simp only[Cj,wrH,jW];rw[YC (G9 B)];simp only[GU,gV,qBv,qCs];rfl
    cases a
   rcases bD s with⟨n,u⟩|⟨_,h⟩
   ·simp only[qAa]at n;let⟨f,g,i,j⟩:=n;have f:=aGk f;have g:=Qm g;have i:=qAj i;subst f;subst g;let⟨_,a,v⟩:=ob u;unfold mkS at a;split at a
    ·rename_i m;refine Hq (rd:=[k]) ?_ v;simp only[aP,o,bZ,r,A,p];rw[if_pos ⟨xM j,by omega,m.1,m.2.1,m.2.2,i⟩];simp only[Cj,wrH,jW];rw[YC (G9 j)];rfl
    cases a
   cases h
  cases h
 cases h
def az6{args:Array Operand}{o:Array TypeId}(h:dS (TI.of P) θ up k d t H (.call {callee:=.builtin .append,args,argTypes:=o}) K=some b):rX P H t k (op' d (.call {callee:=.builtin .append,args,argTypes:=o}) ty ps aft gd) K b:=by
 simp only[dS]at h;split at h
 ·rename_i x y N O B i;split at h
  ·rename_i Q R C p;have p:mX P N=some (Q,R,C):=p;split at h
   ·rename_i e S;rcases bD h with⟨L,T⟩|⟨_,h⟩
    ·clear h;simp only[qAa]at L;let⟨D,u,f⟩:=L;have D:=Qm D;subst D;have u:aP.isSliceT P O=true:=u;let⟨U,c,_,E⟩:=aDE (H:=H) (t:=.l e) (λe h=>by cases h) T;obtain⟨M,F⟩:∃M,av H (gq t y)=.slice (U.map e.enc) M:=by
      simp only[kr]at E;generalize av H (gq t y)=a at E;cases E
      ·grind
      grind
     split at c
     ·rename_i v;let⟨r,w,A⟩:=ob c;obtain⟨q,n,rfl⟩:=Qq w;simp only[qAA,qAL]at q n;refine Hq (rd:=[k]) ?_ A;simp only[aP,aC,B,i,p,u,bZ,v,F,av];rw[if_pos ⟨xM f,trivial,by rw[qAi];exact q,by rw[qAi];exact n,F7 (NS e) _⟩];simp only[Cj,GU,gV,jW,wrH,Ym (G9 f),qAo,qAi]
     ·rename_i l v;split at c
      ·rename_i V W g;let⟨s,G,I⟩:=kS c;clear c;cases G;let⟨r,w,A⟩:=ob I;obtain⟨q,n,rfl⟩:=Qq w;have X:l≠k:=λe=>by subst e;rw[g]at f;cases f
       refine Hq (rd:=[l,k]) ?_ A;have j:av H (TV.own l)=.slice (List.map e.enc s) (.tip l e.sz):=by simp only[av,g,gD]
       have m:obj? (aB H) l=.tip (s.length*e.sz):=by rw[kV,g];rfl
       simp only[aP,aC,B,i,p,u,bZ,v,F,j,m];rw[if_pos ⟨xM f,by rw[qAi],trivial,by simp only[qAi];exact q,by simp only[qAi];exact n,F7 (NS e) _,F7 (NS e) _⟩];simp only[Cj,GU,wrH,g,gV,jW];rw[Ym (by rw[qAT];exact G9 f)];simp only[qBj,qAe,qAi]
      cases c
     ·rename_i l z v;split at c
      ·rename_i V W g;rcases bD c with⟨J,c⟩|⟨_,c⟩
       ·have J:z=e.sz:=qAj J;subst J;let⟨s,G,I⟩:=kS c;clear c;cases G;let⟨r,w,A⟩:=ob I;obtain⟨q,n,rfl⟩:=Qq w;refine Hq (rd:=[l,k]) ?_ A;have j:av H (TV.psl l e.sz none)=.psl l e.sz s.length:=by simp only[av,g,eY]
        have m:obj? (aB H) l=.arr e.sz (s.map e.enc):=by rw[kV,g];rfl
        simp only[aP,aC,B,i,p,u,bZ,v,F,j,m];rw[if_pos ⟨xM f,trivial,trivial,by simp only[qAi];exact qAd _,by simp only[qAi];exact q,by simp only[qAi];exact n,F7 (NS e) _,F7 (NS e) _⟩];simp only[Cj,GU,wrH,g,gV,jW];rw[YC (by rw[qAT];exact G9 f)];simp only[qBj,qAe,qAi,qCg (qBm (show(List.map e.enc s).length=s.length from qAi e.enc))]
       cases c
      cases c
     cases c
    cases h
   cases h
  cases h
 cases h
def azh{tt:TypeId}{m key:Operand}{ok:Bool}(h:dS (TI.of P) θ up k d t H (.lookup tt m key ok) K=some b):rX P H t k (op' d (.lookup tt m key ok) ty ps aft gd) K b:=by
 simp only[dS]at h;split at h
 ·rename_i j l s c f g;have c:uK P tt=some j:=c;split at h
  ·rename_i e x z n i;have i:NP P j=some z:=i;rcases bD h with⟨o,h⟩|⟨_,h⟩
   ·have key:∀v,av H v=ED ((dn x s).map e.one) ok z->K [l] (fP d v)=some b->rX P H t k (op' d (.lookup tt m key ok) ty ps aft gd) K b:=λv p h=>by
     refine Hq (rd:=[l]) (ws:=fP d v) ?_ h;simp only[aP,aC,c,bZ,f,g,av,kr,kV,n,gV,i,jW,p,ahs]
    unfold mel at h;split at h
    ·rename_i y a;cases ok
     ·exact key (e.seg y) (by rw[a];exact apM H e y) h
     exact key (.tup [e.seg y,.lf .b true]) (by rw[a];simp only[av,aU,apM,qAx,ED,kr]) h
    rename_i a;cases ok
    ·exact key (acg z) (by rw[a];simp only[qBS,ED,avC (H:=H) o]) h
    exact key (.tup [acg z,.lf .b false]) (by rw[a];simp only[av,aU,avC (H:=H) o,qBS,ED,kr]) h
   cases h
  cases h
 cases h
def aEi{e:ET}{x:e.D}{xs:An}{a:AV}(c:eO a=some xs)(h2:Cvs true (e.enc x) xs)(h:e.sc=true->xs=[a]):uN a=e.one x:=by
 have f:=arb h2;have l:xs.length=e.sz:=by rw[<-h2.len,LW]
 have k:e.sc=false->uN a=.agg (e.enc x):=λd=>by
  have h2:2<=e.sz:=by cases e<;>first|(cases d;done)|(simp[ET.sz])
  cases a with
  |agg j=>cases c;simp only[uN,f]
  |unk=>cases c
  |tup j=>cases c
  |_=>cases c;simp at l;omega
 cases e with
 |i=>have:=h rfl;subst this;cases h2 with|cons g _=>cases g;rfl
 |u=>have:=h rfl;subst this;cases h2 with|cons g _=>cases g;rfl
 |s=>have:=h rfl;subst this;cases h2 with|cons g _=>cases g;rfl
 |b=>have:=h rfl;subst this;cases h2 with|cons g _=>cases g;rfl
 |vals=>have:=h rfl;subst this;cases h2 with|cons g _=>cases g<;>rfl
 |tms=>have:=h rfl;subst this;cases h2 with|cons g _=>cases g<;>rfl
 |_=>exact k rfl
def ap6{tt:TypeId}{m key x:Operand}(h:dS (TI.of P) θ up k d t H (.mapUpdate tt m key x) K=some b):rX P H t k (op' d (.mapUpdate tt m key x) ty ps aft gd) K b:=by
 simp only[dS]at h;split at h
 ·rename_i j l s c f g;have c:uK P tt=some j:=c;split at h
  ·rename_i e z n;let⟨y,A,o,p,q,u⟩:=anV h;let⟨r,a,v⟩:=ob o;unfold yG at a;split at a
   ·rename_i i;cases a;refine Hq (rd:=[l]) ?_ v;have w:=aEi p q u;simp only[aP,c,bZ,f,g,av,kr,kV,n,gV,qAi,i,Cj,jW,w,alk];rfl
   cases a
  cases h
 cases h
end
end Abs
end Go.Proofs.YtneeginmfjageaaGreat

/-
  Environments: Lookup and With of the program and of the document come to the same plain answers; the law TypingEnvs. Conditions: none; lemmas without a program.
-/
import Derived.Test.YtkopaeklihhdlaaGreatCP2oxfa253e
set_option linter.all false
namespace Go.Proofs.YtkopaeklihhdlaaGreat
namespace Abs
open Go
def Dk(s:Str):Ty:=.mk 3 s []
def MO(t:Ty):Ty:=.mk 5 [] [t]
def VP(env:Env):List (Str×Ty):=(env.names.map fun d=>(d.name,d.ty))++((env.carriers.map fun c=>(c.name,MO (Dk c.name)))++env.carriers.flatMap fun c=>c.elems.map fun e=>(e,Dk c.name))
def look(env:Env)(s:Str):Option Ty:=eX (VP env) s
end Abs
end Go.Proofs.YtkopaeklihhdlaaGreat

/-
Letters: the plain law, and letters in memory. No walk.
-/
import Derived.Test.YtogcnfhmcpkdcaaGreatLine9
namespace Go.Proofs.YtogcnfhmcpkdcaaGreat
open Go.RowKit
set_option linter.unusedVariables false
set_option linter.unusedSimpArgs false
structure ax where
 k:Int
 t:Int
 a:Int
 u:Int
 o:Int
 y:Bool
 its:List ar
 b:List UInt8
def fH(x z:ax):Bool:=decide (x.its=z.its) && ((x.k==z.k) && ((x.t==z.t) && ((x.a==z.a) && ((x.u==z.u) && ((x.o==z.o) && ((x.y==z.y) && decide (x.b=z.b)))))))
theorem kJ(x z:ax):fH x z=true↔x=z:=by
 obtain⟨k,t,a,u,o,y,m,b⟩:=x;obtain⟨s,q,a',p,r,n,l,v⟩:=z;simp[fH];constructor
 ·rintro⟨j,i,h,g,f,e,d,c⟩;exact⟨i,h,g,f,e,d,j,c⟩
 ·rintro⟨i,h,g,f,e,d,j,c⟩;exact⟨j,i,h,g,f,e,d,c⟩
def dI(x:ax):ax:=
 if x.k=1 then⟨x.k,x.t,x.a,x.u,0,false,[],[]⟩
 else if x.k=2 then⟨x.k,x.t,0,0,0,x.y,[],[]⟩
 else if x.k=3 then⟨x.k,x.t,x.a,x.u,x.o,false,x.its,[]⟩
 else if x.k=4 then⟨x.k,x.t,x.a,0,x.o,x.y,[],[]⟩
 else if x.k=5 then⟨x.k,x.t,x.a,x.u,0,false,[],x.b⟩
 else⟨x.k,x.t,0,0,0,false,[],[]⟩
def rI(n:Int):Bool:=decide (0<=n) && decide (n<=1099511627776)
def aO(x:ax):Bool:=(decide (1<=x.k) && (decide (x.k<=5) && rI x.t)) && ((rI x.a && rI x.u && rI x.o) && ((decide (x.its.length<=16) && decide (x.b.length<=65536)) && (!(x.its.any fun it=> !bj it) && fH x (dI x))))
abbrev aF (x:ax) (ia:Option Addr) (n ic:Nat) (ba:Option Addr) (bc:Nat):Array Value:=#[.int .i64 x.k, .int .i64 x.t, .int .i64 x.a, .int .i64 x.u, .int .i64 x.o, .bool x.y, .slice ia n ic, .slice ba x.b.length bc]
structure fo (w:World) (B:Nat) (x:ax) (ia:Option Addr) (ic:Nat) (ms:List af) (ba:Option Addr) (bc:Nat):Prop where
 its:bd w B ia ms.length ic ms
 eq:ms.map af.it=x.its
 b:aM w B ba x.b.length bc x.b
theorem fo.below{w w':World}{B e:Nat}{x:ax}{c:Option Addr}{a:Nat}{ms:List af}{ba:Option Addr}{d:Nat}(h:fo w B x c a ms ba d)(hb:Below e w w')(hB:B<=e):fo w' B x c a ms ba d:=⟨h.its.below hb hB,h.eq,h.b.below hb hB⟩
theorem fo.mono{w:World}{B e:Nat}{x:ax}{c:Option Addr}{a:Nat}{ms:List af}{ba:Option Addr}{d:Nat}(h:fo w B x c a ms ba d)(hB:B<=e):fo w e x c a ms ba d:=⟨h.its.mono hB,h.eq,h.b.mono hB⟩
theorem fo.len{w:World}{B:Nat}{x:ax}{b:Option Addr}{a:Nat}{ms:List af}{ba:Option Addr}{c:Nat}(h:fo w B x b a ms ba c):ms.length=x.its.length:=by rw[<-h.eq];simp
theorem aq{W:World}{g:Nat}{x:ax}{d:Option Addr}{n c:Nat}{ba:Option Addr}{e:Nat}(h:W.heap[g]? =some (.cells (aF x d n c ba e) 32 (0,0))):
  W.cell? ⟨g,0,none⟩=some (.int .i64 x.k)/\W.cell? ⟨g,1,none⟩=some (.int .i64 x.t)/\W.cell? ⟨g,2,none⟩=some (.int .i64 x.a)/\W.cell? ⟨g,3,none⟩=some (.int .i64 x.u)/\W.cell? ⟨g,4,none⟩=some (.int .i64 x.o)/\W.cell? ⟨g,5,none⟩=some (.bool x.y)/\W.cell? ⟨g,6,none⟩=some (.slice d n c)/\W.cell? ⟨g,7,none⟩=some (.slice ba x.b.length e):=
 ⟨cell_of_row W g 0 _ _ _ h,cell_of_row W g 1 _ _ _ h,cell_of_row W g 2 _ _ _ h,cell_of_row W g 3 _ _ _ h,cell_of_row W g 4 _ _ _ h,cell_of_row W g 5 _ _ _ h,cell_of_row W g 6 _ _ _ h,cell_of_row W g 7 _ _ _ h⟩
end Go.Proofs.YtogcnfhmcpkdcaaGreat

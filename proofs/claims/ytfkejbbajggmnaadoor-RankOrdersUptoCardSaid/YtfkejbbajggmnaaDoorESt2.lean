/- Layer 9: words in order: merges of a row in its place; the stable sort. Conditions: none. (Printed by a program of this project's own.) -/
import Derived.Test.YtfkejbbajggmnaaDoorESt1
import Derived.KernelRfl
set_option linter.unusedVariables false
set_option linter.unusedSimpArgs false
set_option maxRecDepth 100000
set_option maxHeartbeats 0
namespace Go.EA
open F
structure SeA (l:List Wd) (a m b i j:Nat):Prop where
  mi:m≤i
  ij:i≤j
  jb:j≤b
  lo:∀ h,m≤h→h < i→ltW (l.getD h ([],0)) (l.getD a ([],0))=true
  hi:∀ h,j≤h→h < b→ltW (l.getD h ([],0)) (l.getD a ([],0))=false
structure SeB (l:List Wd) (a m i j:Nat):Prop where
  mi:a≤i
  ij:i≤j
  jb:j≤m
  lo:∀ h,a≤h→h < i→ltW (l.getD m ([],0)) (l.getD h ([],0))=false
  hi:∀ h,j≤h→h < m→ltW (l.getD m ([],0)) (l.getD h ([],0))=true
structure SeC (l:List Wd) (lo hi p i j:Nat):Prop where
  mi:lo≤i
  ij:i≤j
  jb:j≤hi
  lo:∀ c,lo≤c→c < i→ltW (l.getD (p - c) ([],0)) (l.getD c ([],0))=false
  hi:∀ c,j≤c→c < hi→ltW (l.getD (p - c) ([],0)) (l.getD c ([],0))=true
end Go.EA

/- Walks of Go functions: each is shown to answer as the Lean function beside it tells, under the conditions that its theorem names. -/
import Derived.Test.YtjgfpgoaabppbaaProg
import Derived.KernelRfl
import Derived.Below
import Derived.Deep.Draws
import Derived.Deep.AppendLies
import Derived.Maps.AppendAt
import Derived.OwnWalk
import Derived.Laws.BytesArg
import Derived.Laws.MakeOwn
import Derived.Laws.OwnMore
import Derived.Deep.OwnRows
import Derived.Tactics
import Derived.Lib.ConvBytes
import Derived.Laws.Slices
import Derived.WalkKit
import Derived.RowKit3
import Derived.Deep.LoopGhost
import Derived.Deep.QuietTactic
import Derived.BigQuiet
import Derived.WideLaws
import Derived.Deep.DeepCutAuto
import Derived.Deep.CutBlock
import Derived.Deep.RegionHeld3
import Derived.Laws.Rows
import Derived.Lib.AppendStr
import Derived.ArgAppend
import Derived.Laws.IdiomCopy
import Derived.OrdersHeld
import Derived.Laws.BitsLemmas
import Derived.RowKit
import Derived.Laws.StructEq
import Derived.Lib.SliceRun
import Derived.WalkSpells
import Derived.ChangeArms
import Derived.ChangeSlices
import Derived.Deep.Slices
import Derived.Attr
import Derived.Laws.Append
import Derived.Laws.AppendOwn
import Derived.Laws.Entries
import Derived.Calls
import Derived.Laws.Sem
import Derived.Test.YtjgfpgoaabppbaaKWafb4986ab3
import Derived.Test.YtjgfpgoaabppbaaKD802d6baaa2
section
namespace Go.Proofs.Ytjgfpgoaabppbaa.PA
open Go Go.Abs Go.RowKit Go.Proofs Go.Proofs.YtjgfpgoaabppbaaW.PrintWords Go.Proofs.YtjgfpgoaabppbaaW.PrintLast Go.Proofs.YtjgfpgoaabppbaaW.PrintMore
set_option maxRecDepth 100000
theorem K3 : tkAt Try.prog 3 = some (.int .i64) := by kernel_rfl
theorem Z3 : szAt Try.prog 3 = some 1 := by kernel_rfl
theorem T3 : tiOf Try.prog 3 = some ⟨(.int .i64), 1, 8, [.int .i64 0], []⟩ := by kernel_rfl
theorem K4 : tkAt Try.prog 4 = some .bool := by kernel_rfl
theorem Z4 : szAt Try.prog 4 = some 1 := by kernel_rfl
theorem T4 : tiOf Try.prog 4 = some ⟨.bool, 1, 1, [.bool false], []⟩ := by kernel_rfl
theorem K22 : tkAt Try.prog 22 = some (.slice 3) := by kernel_rfl
theorem Z22 : szAt Try.prog 22 = some 1 := by kernel_rfl
theorem T22 : tiOf Try.prog 22 = some ⟨(.slice 3), 1, 24, [.slice none 0 0], []⟩ := by kernel_rfl
theorem K31 : tkAt Try.prog 31 = some (.slice 22) := by kernel_rfl
theorem Z31 : szAt Try.prog 31 = some 1 := by kernel_rfl
theorem T31 : tiOf Try.prog 31 = some ⟨(.slice 22), 1, 24, [.slice none 0 0], []⟩ := by kernel_rfl
theorem K33 : tkAt Try.prog 33 = some .strct := by kernel_rfl
theorem Z33 : szAt Try.prog 33 = some 2 := by kernel_rfl
theorem T33 : tiOf Try.prog 33 = some ⟨.strct, 2, 32, [.int .i64 0, .slice none 0 0], [⟨0, 1, (.int .i64)⟩, ⟨1, 1, (.slice 22)⟩]⟩ := by kernel_rfl
theorem K34 : tkAt Try.prog 34 = some (.slice 217) := by kernel_rfl
theorem Z34 : szAt Try.prog 34 = some 1 := by kernel_rfl
theorem T34 : tiOf Try.prog 34 = some ⟨(.slice 217), 1, 24, [.slice none 0 0], []⟩ := by kernel_rfl
theorem K36 : tkAt Try.prog 36 = some .strct := by kernel_rfl
theorem Z36 : szAt Try.prog 36 = some 2 := by kernel_rfl
theorem T36 : tiOf Try.prog 36 = some ⟨.strct, 2, 32, [.int .i64 0, .slice none 0 0], [⟨0, 1, (.int .i64)⟩, ⟨1, 1, (.slice 217)⟩]⟩ := by kernel_rfl
theorem K40 : tkAt Try.prog 40 = some .strct := by kernel_rfl
theorem Z40 : szAt Try.prog 40 = some 2 := by kernel_rfl
theorem T40 : tiOf Try.prog 40 = some ⟨.strct, 2, 32, [.int .i64 0, .slice none 0 0], [⟨0, 1, (.int .i64)⟩, ⟨1, 1, (.slice 22)⟩]⟩ := by kernel_rfl
theorem K42 : tkAt Try.prog 42 = some (.slice 137) := by kernel_rfl
theorem Z42 : szAt Try.prog 42 = some 1 := by kernel_rfl
theorem T42 : tiOf Try.prog 42 = some ⟨(.slice 137), 1, 24, [.slice none 0 0], []⟩ := by kernel_rfl
theorem K44 : tkAt Try.prog 44 = some .strct := by kernel_rfl
theorem Z44 : szAt Try.prog 44 = some 2 := by kernel_rfl
theorem T44 : tiOf Try.prog 44 = some ⟨.strct, 2, 32, [.int .i64 0, .slice none 0 0], [⟨0, 1, (.int .i64)⟩, ⟨1, 1, (.slice 137)⟩]⟩ := by kernel_rfl
theorem K54 : tkAt Try.prog 54 = some (.slice 151) := by kernel_rfl
theorem Z54 : szAt Try.prog 54 = some 1 := by kernel_rfl
theorem T54 : tiOf Try.prog 54 = some ⟨(.slice 151), 1, 24, [.slice none 0 0], []⟩ := by kernel_rfl
theorem K58 : tkAt Try.prog 58 = some (.slice 149) := by kernel_rfl
theorem Z58 : szAt Try.prog 58 = some 1 := by kernel_rfl
theorem T58 : tiOf Try.prog 58 = some ⟨(.slice 149), 1, 24, [.slice none 0 0], []⟩ := by kernel_rfl
theorem K66 : tkAt Try.prog 66 = some .strct := by kernel_rfl
theorem Z66 : szAt Try.prog 66 = some 3 := by kernel_rfl
theorem T66 : tiOf Try.prog 66 = some ⟨.strct, 3, 56, [.slice none 0 0, .int .i64 0, .slice none 0 0], [⟨0, 1, (.slice 22)⟩, ⟨1, 1, (.int .i64)⟩, ⟨2, 1, (.slice 22)⟩]⟩ := by kernel_rfl
theorem K67 : tkAt Try.prog 67 = some (.slice 165) := by kernel_rfl
theorem Z67 : szAt Try.prog 67 = some 1 := by kernel_rfl
theorem T67 : tiOf Try.prog 67 = some ⟨(.slice 165), 1, 24, [.slice none 0 0], []⟩ := by kernel_rfl
theorem K71 : tkAt Try.prog 71 = some .strct := by kernel_rfl
theorem Z71 : szAt Try.prog 71 = some 3 := by kernel_rfl
theorem T71 : tiOf Try.prog 71 = some ⟨.strct, 3, 56, [.slice none 0 0, .int .i64 0, .slice none 0 0], [⟨0, 1, (.slice 22)⟩, ⟨1, 1, (.int .i64)⟩, ⟨2, 1, (.slice 22)⟩]⟩ := by kernel_rfl
theorem K73 : tkAt Try.prog 73 = some (.slice 162) := by kernel_rfl
theorem Z73 : szAt Try.prog 73 = some 1 := by kernel_rfl
theorem T73 : tiOf Try.prog 73 = some ⟨(.slice 162), 1, 24, [.slice none 0 0], []⟩ := by kernel_rfl
theorem K80 : tkAt Try.prog 80 = some (.slice 245) := by kernel_rfl
theorem Z80 : szAt Try.prog 80 = some 1 := by kernel_rfl
theorem T80 : tiOf Try.prog 80 = some ⟨(.slice 245), 1, 24, [.slice none 0 0], []⟩ := by kernel_rfl
theorem K81 : tkAt Try.prog 81 = some (.slice 239) := by kernel_rfl
theorem Z81 : szAt Try.prog 81 = some 1 := by kernel_rfl
theorem T81 : tiOf Try.prog 81 = some ⟨(.slice 239), 1, 24, [.slice none 0 0], []⟩ := by kernel_rfl
theorem K83 : tkAt Try.prog 83 = some .strct := by kernel_rfl
theorem Z83 : szAt Try.prog 83 = some 2 := by kernel_rfl
theorem T83 : tiOf Try.prog 83 = some ⟨.strct, 2, 48, [.slice none 0 0, .slice none 0 0], [⟨0, 1, (.slice 245)⟩, ⟨1, 1, (.slice 239)⟩]⟩ := by kernel_rfl
theorem K84 : tkAt Try.prog 84 = some (.slice 171) := by kernel_rfl
theorem Z84 : szAt Try.prog 84 = some 1 := by kernel_rfl
theorem T84 : tiOf Try.prog 84 = some ⟨(.slice 171), 1, 24, [.slice none 0 0], []⟩ := by kernel_rfl
theorem K88 : tkAt Try.prog 88 = some (.slice 243) := by kernel_rfl
theorem Z88 : szAt Try.prog 88 = some 1 := by kernel_rfl
theorem T88 : tiOf Try.prog 88 = some ⟨(.slice 243), 1, 24, [.slice none 0 0], []⟩ := by kernel_rfl
theorem K89 : tkAt Try.prog 89 = some (.slice 247) := by kernel_rfl
theorem Z89 : szAt Try.prog 89 = some 1 := by kernel_rfl
theorem T89 : tiOf Try.prog 89 = some ⟨(.slice 247), 1, 24, [.slice none 0 0], []⟩ := by kernel_rfl
theorem K91 : tkAt Try.prog 91 = some .strct := by kernel_rfl
theorem Z91 : szAt Try.prog 91 = some 2 := by kernel_rfl
theorem T91 : tiOf Try.prog 91 = some ⟨.strct, 2, 48, [.slice none 0 0, .slice none 0 0], [⟨0, 1, (.slice 243)⟩, ⟨1, 1, (.slice 247)⟩]⟩ := by kernel_rfl
theorem K93 : tkAt Try.prog 93 = some (.slice 176) := by kernel_rfl
theorem Z93 : szAt Try.prog 93 = some 1 := by kernel_rfl
theorem T93 : tiOf Try.prog 93 = some ⟨(.slice 176), 1, 24, [.slice none 0 0], []⟩ := by kernel_rfl
theorem K98 : tkAt Try.prog 98 = some (.slice 260) := by kernel_rfl
theorem Z98 : szAt Try.prog 98 = some 1 := by kernel_rfl
theorem T98 : tiOf Try.prog 98 = some ⟨(.slice 260), 1, 24, [.slice none 0 0], []⟩ := by kernel_rfl
theorem K100 : tkAt Try.prog 100 = some .strct := by kernel_rfl
theorem Z100 : szAt Try.prog 100 = some 2 := by kernel_rfl
theorem T100 : tiOf Try.prog 100 = some ⟨.strct, 2, 32, [.int .i64 0, .slice none 0 0], [⟨0, 1, (.int .i64)⟩, ⟨1, 1, (.slice 260)⟩]⟩ := by kernel_rfl
theorem K102 : tkAt Try.prog 102 = some (.slice 256) := by kernel_rfl
theorem Z102 : szAt Try.prog 102 = some 1 := by kernel_rfl
theorem T102 : tiOf Try.prog 102 = some ⟨(.slice 256), 1, 24, [.slice none 0 0], []⟩ := by kernel_rfl
theorem K104 : tkAt Try.prog 104 = some .strct := by kernel_rfl
theorem Z104 : szAt Try.prog 104 = some 2 := by kernel_rfl
theorem T104 : tiOf Try.prog 104 = some ⟨.strct, 2, 32, [.int .i64 0, .slice none 0 0], [⟨0, 1, (.int .i64)⟩, ⟨1, 1, (.slice 256)⟩]⟩ := by kernel_rfl
theorem K116 : tkAt Try.prog 116 = some .func := by kernel_rfl
theorem Z116 : szAt Try.prog 116 = some 1 := by kernel_rfl
theorem T116 : tiOf Try.prog 116 = some ⟨.func, 1, 8, [.nilFunc], []⟩ := by kernel_rfl
theorem K130 : tkAt Try.prog 130 = some (.slice 4) := by kernel_rfl
theorem Z130 : szAt Try.prog 130 = some 1 := by kernel_rfl
theorem T130 : tiOf Try.prog 130 = some ⟨(.slice 4), 1, 24, [.slice none 0 0], []⟩ := by kernel_rfl
theorem K137 : tkAt Try.prog 137 = some .strct := by kernel_rfl
theorem Z137 : szAt Try.prog 137 = some 2 := by kernel_rfl
theorem T137 : tiOf Try.prog 137 = some ⟨.strct, 2, 16, [.int .i64 0, .int .i64 0], [⟨0, 1, (.int .i64)⟩, ⟨1, 1, (.int .i64)⟩]⟩ := by kernel_rfl
theorem K149 : tkAt Try.prog 149 = some .strct := by kernel_rfl
theorem Z149 : szAt Try.prog 149 = some 4 := by kernel_rfl
theorem T149 : tiOf Try.prog 149 = some ⟨.strct, 4, 32, [.int .i64 0, .int .i64 0, .int .i64 0, .int .i64 0], [⟨0, 1, (.int .i64)⟩, ⟨1, 1, (.int .i64)⟩, ⟨2, 1, (.int .i64)⟩, ⟨3, 1, (.int .i64)⟩]⟩ := by kernel_rfl
theorem K151 : tkAt Try.prog 151 = some .strct := by kernel_rfl
theorem Z151 : szAt Try.prog 151 = some 4 := by kernel_rfl
theorem T151 : tiOf Try.prog 151 = some ⟨.strct, 4, 32, [.int .i64 0, .int .i64 0, .int .i64 0, .int .i64 0], [⟨0, 1, (.int .i64)⟩, ⟨1, 1, (.int .i64)⟩, ⟨2, 1, (.int .i64)⟩, ⟨3, 1, (.int .i64)⟩]⟩ := by kernel_rfl
theorem K160 : tkAt Try.prog 160 = some (.slice 130) := by kernel_rfl
theorem Z160 : szAt Try.prog 160 = some 1 := by kernel_rfl
theorem T160 : tiOf Try.prog 160 = some ⟨(.slice 130), 1, 24, [.slice none 0 0], []⟩ := by kernel_rfl
theorem K162 : tkAt Try.prog 162 = some .strct := by kernel_rfl
theorem Z162 : szAt Try.prog 162 = some 4 := by kernel_rfl
theorem T162 : tiOf Try.prog 162 = some ⟨.strct, 4, 32, [.int .i64 0, .int .i64 0, .int .i64 0, .int .i64 0], [⟨0, 1, (.int .i64)⟩, ⟨1, 1, (.int .i64)⟩, ⟨2, 1, (.int .i64)⟩, ⟨3, 1, (.int .i64)⟩]⟩ := by kernel_rfl
theorem K165 : tkAt Try.prog 165 = some .strct := by kernel_rfl
theorem Z165 : szAt Try.prog 165 = some 4 := by kernel_rfl
theorem T165 : tiOf Try.prog 165 = some ⟨.strct, 4, 32, [.int .i64 0, .int .i64 0, .int .i64 0, .int .i64 0], [⟨0, 1, (.int .i64)⟩, ⟨1, 1, (.int .i64)⟩, ⟨2, 1, (.int .i64)⟩, ⟨3, 1, (.int .i64)⟩]⟩ := by kernel_rfl
theorem K171 : tkAt Try.prog 171 = some (.slice 251) := by kernel_rfl
theorem Z171 : szAt Try.prog 171 = some 1 := by kernel_rfl
theorem T171 : tiOf Try.prog 171 = some ⟨(.slice 251), 1, 24, [.slice none 0 0], []⟩ := by kernel_rfl
theorem K176 : tkAt Try.prog 176 = some (.slice 249) := by kernel_rfl
theorem Z176 : szAt Try.prog 176 = some 1 := by kernel_rfl
theorem T176 : tiOf Try.prog 176 = some ⟨(.slice 249), 1, 24, [.slice none 0 0], []⟩ := by kernel_rfl
theorem K211 : tkAt Try.prog 211 = some .func := by kernel_rfl
theorem Z211 : szAt Try.prog 211 = some 1 := by kernel_rfl
theorem T211 : tiOf Try.prog 211 = some ⟨.func, 1, 8, [.nilFunc], []⟩ := by kernel_rfl
theorem K215 : tkAt Try.prog 215 = some .func := by kernel_rfl
theorem Z215 : szAt Try.prog 215 = some 1 := by kernel_rfl
theorem T215 : tiOf Try.prog 215 = some ⟨.func, 1, 8, [.nilFunc], []⟩ := by kernel_rfl
theorem K217 : tkAt Try.prog 217 = some .strct := by kernel_rfl
theorem Z217 : szAt Try.prog 217 = some 2 := by kernel_rfl
theorem T217 : tiOf Try.prog 217 = some ⟨.strct, 2, 16, [.int .i64 0, .int .i64 0], [⟨0, 1, (.int .i64)⟩, ⟨1, 1, (.int .i64)⟩]⟩ := by kernel_rfl
theorem K234 : tkAt Try.prog 234 = some .func := by kernel_rfl
theorem Z234 : szAt Try.prog 234 = some 1 := by kernel_rfl
theorem T234 : tiOf Try.prog 234 = some ⟨.func, 1, 8, [.nilFunc], []⟩ := by kernel_rfl
theorem K239 : tkAt Try.prog 239 = some .strct := by kernel_rfl
theorem Z239 : szAt Try.prog 239 = some 3 := by kernel_rfl
theorem T239 : tiOf Try.prog 239 = some ⟨.strct, 3, 72, [.slice none 0 0, .slice none 0 0, .slice none 0 0], [⟨0, 1, (.slice 251)⟩, ⟨1, 1, (.slice 3)⟩, ⟨2, 1, (.slice 171)⟩]⟩ := by kernel_rfl
theorem K243 : tkAt Try.prog 243 = some .strct := by kernel_rfl
theorem Z243 : szAt Try.prog 243 = some 3 := by kernel_rfl
theorem T243 : tiOf Try.prog 243 = some ⟨.strct, 3, 24, [.int .i64 0, .int .i64 0, .int .i64 0], [⟨0, 1, (.int .i64)⟩, ⟨1, 1, (.int .i64)⟩, ⟨2, 1, (.int .i64)⟩]⟩ := by kernel_rfl
theorem K245 : tkAt Try.prog 245 = some .strct := by kernel_rfl
theorem Z245 : szAt Try.prog 245 = some 3 := by kernel_rfl
theorem T245 : tiOf Try.prog 245 = some ⟨.strct, 3, 24, [.int .i64 0, .int .i64 0, .int .i64 0], [⟨0, 1, (.int .i64)⟩, ⟨1, 1, (.int .i64)⟩, ⟨2, 1, (.int .i64)⟩]⟩ := by kernel_rfl
theorem K247 : tkAt Try.prog 247 = some .strct := by kernel_rfl
theorem Z247 : szAt Try.prog 247 = some 3 := by kernel_rfl
theorem T247 : tiOf Try.prog 247 = some ⟨.strct, 3, 72, [.slice none 0 0, .slice none 0 0, .slice none 0 0], [⟨0, 1, (.slice 249)⟩, ⟨1, 1, (.slice 3)⟩, ⟨2, 1, (.slice 176)⟩]⟩ := by kernel_rfl
theorem K249 : tkAt Try.prog 249 = some .strct := by kernel_rfl
theorem Z249 : szAt Try.prog 249 = some 4 := by kernel_rfl
theorem T249 : tiOf Try.prog 249 = some ⟨.strct, 4, 32, [.int .i64 0, .int .i64 0, .int .i64 0, .int .i64 0], [⟨0, 1, (.int .i64)⟩, ⟨1, 1, (.int .i64)⟩, ⟨2, 1, (.int .i64)⟩, ⟨3, 1, (.int .i64)⟩]⟩ := by kernel_rfl
theorem K251 : tkAt Try.prog 251 = some .strct := by kernel_rfl
theorem Z251 : szAt Try.prog 251 = some 4 := by kernel_rfl
theorem T251 : tiOf Try.prog 251 = some ⟨.strct, 4, 32, [.int .i64 0, .int .i64 0, .int .i64 0, .int .i64 0], [⟨0, 1, (.int .i64)⟩, ⟨1, 1, (.int .i64)⟩, ⟨2, 1, (.int .i64)⟩, ⟨3, 1, (.int .i64)⟩]⟩ := by kernel_rfl
theorem K256 : tkAt Try.prog 256 = some .strct := by kernel_rfl
theorem Z256 : szAt Try.prog 256 = some 3 := by kernel_rfl
theorem T256 : tiOf Try.prog 256 = some ⟨.strct, 3, 24, [.int .i64 0, .int .i64 0, .int .i64 0], [⟨0, 1, (.int .i64)⟩, ⟨1, 1, (.int .i64)⟩, ⟨2, 1, (.int .i64)⟩]⟩ := by kernel_rfl
theorem K260 : tkAt Try.prog 260 = some .strct := by kernel_rfl
theorem Z260 : szAt Try.prog 260 = some 3 := by kernel_rfl
theorem T260 : tiOf Try.prog 260 = some ⟨.strct, 3, 24, [.int .i64 0, .int .i64 0, .int .i64 0], [⟨0, 1, (.int .i64)⟩, ⟨1, 1, (.int .i64)⟩, ⟨2, 1, (.int .i64)⟩]⟩ := by kernel_rfl
theorem K276 : tkAt Try.prog 276 = some .func := by kernel_rfl
theorem Z276 : szAt Try.prog 276 = some 1 := by kernel_rfl
theorem T276 : tiOf Try.prog 276 = some ⟨.func, 1, 8, [.nilFunc], []⟩ := by kernel_rfl
theorem K280 : tkAt Try.prog 280 = some .func := by kernel_rfl
theorem Z280 : szAt Try.prog 280 = some 1 := by kernel_rfl
theorem T280 : tiOf Try.prog 280 = some ⟨.func, 1, 8, [.nilFunc], []⟩ := by kernel_rfl
theorem K300 : tkAt Try.prog 300 = some .func := by kernel_rfl
theorem Z300 : szAt Try.prog 300 = some 1 := by kernel_rfl
theorem T300 : tiOf Try.prog 300 = some ⟨.func, 1, 8, [.nilFunc], []⟩ := by kernel_rfl
theorem O149 : structOffs Try.prog 149 = some [0, 1, 2, 3] := by kernel_rfl
def cLVar : Cd LVar := cIso (cPair (cInt .i64) (cPair (cInt .i64) (cInt .i64))) (fun x => (x.f0, x.f1, x.f2))
theorem cLVar_R {x : LVar} {c : List PV} (h : cLVar.R x c) : c = [.lit (.int .i64 x.f0), .lit (.int .i64 x.f1), .lit (.int .i64 x.f2)] := by
  obtain ⟨p0, q0, e0, g0, r0⟩ := h
  obtain ⟨p1, q1, e1, g1, r1⟩ := r0
  have g0' : p0 = _ := g0
  have g1' : p1 = _ := g1
  have g2' : q1 = _ := r1
  rw [e0, g0', e1, g1', g2']; rfl
def cLTerm : Cd LTerm := cIso (cPair (cInt .i64) (cPair (cInt .i64) (cPair (cInt .i64) (cInt .i64)))) (fun x => (x.f0, x.f1, x.f2, x.f3))
theorem cLTerm_R {x : LTerm} {c : List PV} (h : cLTerm.R x c) : c = [.lit (.int .i64 x.f0), .lit (.int .i64 x.f1), .lit (.int .i64 x.f2), .lit (.int .i64 x.f3)] := by
  obtain ⟨p0, q0, e0, g0, r0⟩ := h
  obtain ⟨p1, q1, e1, g1, r1⟩ := r0
  obtain ⟨p2, q2, e2, g2, r2⟩ := r1
  have g0' : p0 = _ := g0
  have g1' : p1 = _ := g1
  have g2' : p2 = _ := g2
  have g3' : q2 = _ := r2
  rw [e0, g0', e1, g1', e2, g2', g3']; rfl
def cLRule : Cd LRule := cIso (cPair (cSl cLTerm) (cPair (cSl (cInt .i64)) (cSl (cSl cLTerm)))) (fun x => (x.f0, x.f1, x.f2))
theorem cLRule_R {x : LRule} {c : List PV} (h : cLRule.R x c) : ∃ v0 v1 v2, c = [v0, v1, v2] ∧ Sl cLTerm x.f0 v0 ∧ Sl (cInt .i64) x.f1 v1 ∧ Sl (cSl cLTerm) x.f2 v2 := by
  obtain ⟨p0, q0, e0, g0, r0⟩ := h
  obtain ⟨p1, q1, e1, g1, r1⟩ := r0
  obtain ⟨v0, g0', s0⟩ := g0
  obtain ⟨v1, g1', s1⟩ := g1
  obtain ⟨v2, g2', s2⟩ := r1
  exact ⟨v0, v1, v2, by rw [e0, g0', e1, g1', g2']; rfl, s0, s1, s2⟩
def cLSystem : Cd LSystem := cIso (cPair (cSl cLVar) (cSl cLRule)) (fun x => (x.f0, x.f1))
theorem cLSystem_R {x : LSystem} {c : List PV} (h : cLSystem.R x c) : ∃ v0 v1, c = [v0, v1] ∧ Sl cLVar x.f0 v0 ∧ Sl cLRule x.f1 v1 := by
  obtain ⟨p0, q0, e0, g0, r0⟩ := h
  obtain ⟨v0, g0', s0⟩ := g0
  obtain ⟨v1, g1', s1⟩ := r0
  exact ⟨v0, v1, by rw [e0, g0', g1']; rfl, s0, s1⟩
def cITime : Cd ITime := cIso (cPair (cInt .i64) (cPair (cInt .i64) (cPair (cInt .i64) (cInt .i64)))) (fun x => (x.f0, x.f1, x.f2, x.f3))
theorem cITime_R {x : ITime} {c : List PV} (h : cITime.R x c) : c = [.lit (.int .i64 x.f0), .lit (.int .i64 x.f1), .lit (.int .i64 x.f2), .lit (.int .i64 x.f3)] := by
  obtain ⟨p0, q0, e0, g0, r0⟩ := h
  obtain ⟨p1, q1, e1, g1, r1⟩ := r0
  obtain ⟨p2, q2, e2, g2, r2⟩ := r1
  have g0' : p0 = _ := g0
  have g1' : p1 = _ := g1
  have g2' : p2 = _ := g2
  have g3' : q2 = _ := r2
  rw [e0, g0', e1, g1', e2, g2', g3']; rfl
theorem cITime_mk {a0 : Int} {a1 : Int} {a2 : Int} {a3 : Int}  : cITime.R ⟨a0, a1, a2, a3⟩ [.lit (.int .i64 a0), .lit (.int .i64 a1), .lit (.int .i64 a2), .lit (.int .i64 a3)] := ⟨_, _, rfl, rfl, ⟨_, _, rfl, rfl, ⟨_, _, rfl, rfl, rfl⟩⟩⟩
theorem cITime_z : cITime.R zITime (([.int .i64 0, .int .i64 0, .int .i64 0, .int .i64 0] : List Value).map .lit) := ⟨_, _, rfl, rfl, ⟨_, _, rfl, rfl, ⟨_, _, rfl, rfl, rfl⟩⟩⟩
def cLTime : Cd LTime := cIso (cPair (cInt .i64) (cPair (cInt .i64) (cPair (cInt .i64) (cInt .i64)))) (fun x => (x.f0, x.f1, x.f2, x.f3))
theorem cLTime_R {x : LTime} {c : List PV} (h : cLTime.R x c) : c = [.lit (.int .i64 x.f0), .lit (.int .i64 x.f1), .lit (.int .i64 x.f2), .lit (.int .i64 x.f3)] := by
  obtain ⟨p0, q0, e0, g0, r0⟩ := h
  obtain ⟨p1, q1, e1, g1, r1⟩ := r0
  obtain ⟨p2, q2, e2, g2, r2⟩ := r1
  have g0' : p0 = _ := g0
  have g1' : p1 = _ := g1
  have g2' : p2 = _ := g2
  have g3' : q2 = _ := r2
  rw [e0, g0', e1, g1', e2, g2', g3']; rfl
def cIVar : Cd IVar := cIso (cPair (cInt .i64) (cPair (cInt .i64) (cInt .i64))) (fun x => (x.f0, x.f1, x.f2))
theorem cIVar_R {x : IVar} {c : List PV} (h : cIVar.R x c) : c = [.lit (.int .i64 x.f0), .lit (.int .i64 x.f1), .lit (.int .i64 x.f2)] := by
  obtain ⟨p0, q0, e0, g0, r0⟩ := h
  obtain ⟨p1, q1, e1, g1, r1⟩ := r0
  have g0' : p0 = _ := g0
  have g1' : p1 = _ := g1
  have g2' : q1 = _ := r1
  rw [e0, g0', e1, g1', g2']; rfl
theorem cIVar_mk {a0 : Int} {a1 : Int} {a2 : Int}  : cIVar.R ⟨a0, a1, a2⟩ [.lit (.int .i64 a0), .lit (.int .i64 a1), .lit (.int .i64 a2)] := ⟨_, _, rfl, rfl, ⟨_, _, rfl, rfl, rfl⟩⟩
theorem cIVar_z : cIVar.R zIVar (([.int .i64 0, .int .i64 0, .int .i64 0] : List Value).map .lit) := ⟨_, _, rfl, rfl, ⟨_, _, rfl, rfl, rfl⟩⟩
def cITerm : Cd ITerm := cIso (cPair (cInt .i64) (cPair (cInt .i64) (cPair (cInt .i64) (cInt .i64)))) (fun x => (x.f0, x.f1, x.f2, x.f3))
theorem cITerm_R {x : ITerm} {c : List PV} (h : cITerm.R x c) : c = [.lit (.int .i64 x.f0), .lit (.int .i64 x.f1), .lit (.int .i64 x.f2), .lit (.int .i64 x.f3)] := by
  obtain ⟨p0, q0, e0, g0, r0⟩ := h
  obtain ⟨p1, q1, e1, g1, r1⟩ := r0
  obtain ⟨p2, q2, e2, g2, r2⟩ := r1
  have g0' : p0 = _ := g0
  have g1' : p1 = _ := g1
  have g2' : p2 = _ := g2
  have g3' : q2 = _ := r2
  rw [e0, g0', e1, g1', e2, g2', g3']; rfl
theorem cITerm_mk {a0 : Int} {a1 : Int} {a2 : Int} {a3 : Int}  : cITerm.R ⟨a0, a1, a2, a3⟩ [.lit (.int .i64 a0), .lit (.int .i64 a1), .lit (.int .i64 a2), .lit (.int .i64 a3)] := ⟨_, _, rfl, rfl, ⟨_, _, rfl, rfl, ⟨_, _, rfl, rfl, rfl⟩⟩⟩
theorem cITerm_z : cITerm.R zITerm (([.int .i64 0, .int .i64 0, .int .i64 0, .int .i64 0] : List Value).map .lit) := ⟨_, _, rfl, rfl, ⟨_, _, rfl, rfl, ⟨_, _, rfl, rfl, rfl⟩⟩⟩
def cIRule : Cd IRule := cIso (cPair (cSl cITerm) (cPair (cSl (cInt .i64)) (cSl (cSl cITerm)))) (fun x => (x.f0, x.f1, x.f2))
theorem cIRule_R {x : IRule} {c : List PV} (h : cIRule.R x c) : ∃ v0 v1 v2, c = [v0, v1, v2] ∧ Sl cITerm x.f0 v0 ∧ Sl (cInt .i64) x.f1 v1 ∧ Sl (cSl cITerm) x.f2 v2 := by
  obtain ⟨p0, q0, e0, g0, r0⟩ := h
  obtain ⟨p1, q1, e1, g1, r1⟩ := r0
  obtain ⟨v0, g0', s0⟩ := g0
  obtain ⟨v1, g1', s1⟩ := g1
  obtain ⟨v2, g2', s2⟩ := r1
  exact ⟨v0, v1, v2, by rw [e0, g0', e1, g1', g2']; rfl, s0, s1, s2⟩
theorem cIRule_mk  {l0 : List ITerm} {v0 : PV} (h0 : Sl cITerm l0 v0) {l1 : List Int} {v1 : PV} (h1 : Sl (cInt .i64) l1 v1) {l2 : List (List ITerm)} {v2 : PV} (h2 : Sl (cSl cITerm) l2 v2) : cIRule.R ⟨l0, l1, l2⟩ [v0, v1, v2] := ⟨_, _, rfl, ⟨_, rfl, h0⟩, ⟨_, _, rfl, ⟨_, rfl, h1⟩, ⟨_, rfl, h2⟩⟩⟩
theorem cIRule_z : cIRule.R zIRule (([.slice none 0 0, .slice none 0 0, .slice none 0 0] : List Value).map .lit) := ⟨_, _, rfl, ⟨_, rfl, .nil⟩, ⟨_, _, rfl, ⟨_, rfl, .nil⟩, ⟨_, rfl, .nil⟩⟩⟩
attribute [go_sem] K3 Z3 T3 K4 Z4 T4 K22 Z22 T22 K31 Z31 T31 K33 Z33 T33 K34 Z34 T34 K36 Z36 T36 K40 Z40 T40 K42 Z42 T42 K44 Z44 T44 K54 Z54 T54 K58 Z58 T58 K66 Z66 T66 K67 Z67 T67 K71 Z71 T71 K73 Z73 T73 K80 Z80 T80 K81 Z81 T81 K83 Z83 T83 K84 Z84 T84 K88 Z88 T88 K89 Z89 T89 K91 Z91 T91 K93 Z93 T93 K98 Z98 T98 K100 Z100 T100 K102 Z102 T102 K104 Z104 T104 K116 Z116 T116 K130 Z130 T130 K137 Z137 T137 K149 Z149 T149 K151 Z151 T151 K160 Z160 T160 K162 Z162 T162 K165 Z165 T165 K171 Z171 T171 K176 Z176 T176 K211 Z211 T211 K215 Z215 T215 K217 Z217 T217 K234 Z234 T234 K239 Z239 T239 K243 Z243 T243 K245 Z245 T245 K247 Z247 T247 K249 Z249 T249 K251 Z251 T251 K256 Z256 T256 K260 Z260 T260 K276 Z276 T276 K280 Z280 T280 K300 Z300 T300
end Go.Proofs.Ytjgfpgoaabppbaa.PA
end
section
namespace Go.Proofs.Ytjgfpgoaabppbaa.PA
open Go Go.Abs Go.RowKit Go.Proofs Go.Proofs.YtjgfpgoaabppbaaW.PrintWords Go.Proofs.YtjgfpgoaabppbaaW.PrintLast Go.Proofs.YtjgfpgoaabppbaaW.PrintMore
set_option maxRecDepth 100000
set_option maxHeartbeats 4000000
set_option linter.unusedVariables false
set_option linter.unusedSimpArgs false
theorem impl_in.ev {a0 : Int} {a1 : Int} {a2 : Int} {r : Bool} (H : impl_in.f a0 a1 a2 = some r) : Ret Try.prog 76 [.lit (.int .i64 a0), .lit (.int .i64 a1), .lit (.int .i64 a2)] fun v S => v = .lit (.bool r) := by
 unfold impl_in.f at H
 refine Ret.intro Try.func76 rfl (Nat.le_of_ble_eq_true rfl) rfl ?_
 rw [tm3]
 refine Evr.seq (Evr.regionN rfl (Opl.one rfl rfl (by simp only [go_sem]; rfl) (Opl.nil (Evr.seq (Evr.regionN rfl (Opl.one rfl rfl (by simp only [go_sem]; rfl) (Opl.one rfl rfl (by simp only [go_sem]; rfl) (Opl.one rfl rfl (by simp only [go_sem]; rfl) (Opl.one rfl rfl (by simp only [go_sem]; rfl) ?_)))))))))
 by_cases c1 : a0 ≥ a1
 case neg =>
  rw [if_neg c1] at H
  have e2 : (decide (a0 ≥ a1)) = false := by simpa using c1
  try rw [e2]
  refine Opl.skp rfl (Opl.skp rfl (Opl.skp rfl (Opl.one rfl rfl (by simp only [go_sem]; rfl) (Opl.one rfl rfl (by simp only [go_sem]; rfl) (Opl.nil ?_)))))
  obtain rfl := Option.some.inj H
  refine Evr.ret1 Try.func76 rfl ?_
  show (.lit (.bool false) : PV) = _
  first | rfl | (simp only [go_sem]; rfl)
 rw [if_pos c1] at H
 have e1 : (decide (a0 ≥ a1)) = true := by simpa using c1
 try rw [e1]
 refine Opl.one rfl rfl (by simp only [go_sem]; rfl) (Opl.one rfl rfl (by simp only [go_sem]; rfl) (Opl.one rfl rfl (by simp only [go_sem]; rfl) (Opl.one rfl rfl (by simp only [go_sem]; rfl) (Opl.one rfl rfl (by simp only [go_sem]; rfl) (Opl.nil ?_)))))
 obtain rfl := Option.some.inj H
 refine Evr.ret1 Try.func76 rfl ?_
 show (.lit (.bool (decide (a0 ≤ a2))) : PV) = _
 first | rfl | (simp only [go_sem]; rfl)
theorem impl_TimesValid.ev {k : Nat} {l0 : List ITime} {v0 : PV} (hv0 : Sl cITime l0 v0) {a1 : Int} {r : Bool} (H : impl_TimesValid.f k l0 a1 = some r) : Ret Try.prog 213 [v0, .lit (.int .i64 a1)] fun v S => v = .lit (.bool r) := by
 unfold impl_TimesValid.f at H
 refine Ret.intro Try.func213 rfl (Nat.le_of_ble_eq_true rfl) rfl ?_
 rw [tm2]
 refine Evr.seq (Evr.regionN rfl (Opl.one rfl rfl (by simp only [go_sem]; rfl) (Opl.nil (Evr.seq (Evr.seq ?_)))))
 refine Evr.join (fun tm S => ∃ (kq1 : Nat) (x16_1 : Bool), impl_TimesValid.j0 kq1 l0 a1 x16_1 = some r ∧ Has tm [(0, v0), (1, .lit (.int .i64 a1)), (16, .lit (.bool x16_1))]) ?_ fun hk1 => ?_
 ·
  rintro tm S ⟨kq1, x16_1, H, hh⟩
  rw [hh.eq]
  obtain _ | k1 := kq1
  · simp [impl_TimesValid.j0] at H
  simp only [impl_TimesValid.j0] at H
  by_cases c1 : x16_1 = true
  case pos =>
   rw [if_pos c1] at H
   obtain rfl : x16_1 = true := by simpa using c1
   refine Evr.condT rfl (Evr.seq (Evr.regionN rfl (Opl.one rfl rfl (by simp only [go_sem]; rfl) (Opl.nil ?_))))
   obtain rfl := Option.some.inj H
   refine Evr.ret1 Try.func213 rfl ?_
   show (.lit (.bool false) : PV) = _
   first | rfl | (simp only [go_sem]; rfl)
  rw [if_neg c1] at H
  obtain rfl : x16_1 = false := by simpa using c1
  refine Evr.condF rfl (Evr.skip (Evr.seq (Evr.seq (Evr.regionN rfl (Opl.one rfl rfl (by simp only [go_sem]; rfl) (Opl.len (xs := l0) (by exact hv0) K58 rfl rfl rfl rfl (Opl.one rfl rfl (by simp only [go_sem]; rfl) (Opl.nil (Evr.block ?_)))))))))
  refine Evr.loop (Evr.rounds (n := k1) (Inv := fun n tm S => n ≤ k1 ∧ ∃ (x19_1 : Int), impl_TimesValid.l0 n a1 l0 (l0.length : Int) x19_1 = some r ∧ Has tm [(1, .lit (.int .i64 a1)), (17, v0), (18, .lit (.int .i64 (l0.length : Int))), (19, .lit (.int .i64 x19_1))]) ?_ ?_ ?_)
  · exact ⟨Nat.le_refl _, _, H, ⟨rfl, rfl, rfl, rfl, trivial⟩⟩
  ·
   rintro tm S ⟨_, _, H, -⟩
   simp [impl_TimesValid.l0] at H
  ·
   rintro n1 ih1 tm S ⟨hle, x19_1, H, hh⟩
   simp only [impl_TimesValid.l0] at H
   rw [hh.eq]
   refine Evr.seq (Evr.regionN rfl (Opl.one rfl rfl (by simp only [go_sem]; rfl) (Opl.nil (Evr.seq ?_))))
   by_cases c2 : x19_1 < (l0.length : Int)
   case neg =>
    rw [if_neg c2] at H
    have e16 : (decide (x19_1 < (l0.length : Int))) = false := by simpa using c2
    try rw [e16]
    refine Evr.condF rfl (Evr.exit rfl (Evr.seq (Evr.regionN rfl (Opl.one rfl rfl (by simp only [go_sem]; rfl) (Opl.nil ?_)))))
    obtain rfl := Option.some.inj H
    refine Evr.ret1 Try.func213 rfl ?_
    show (.lit (.bool true) : PV) = _
    first | rfl | (simp only [go_sem]; rfl)
   rw [if_pos c2] at H
   have e1 : (decide (x19_1 < (l0.length : Int))) = true := by simpa using c2
   try rw [e1]
   refine Evr.condT rfl (Evr.skip (Evr.seq (Evr.block (Evr.seq (Evr.regionN rfl (Opl.one rfl rfl (by simp only [go_sem]; rfl) ?_))))))
   obtain ⟨c3, H⟩ := peel H
   obtain ⟨c4, H⟩ := peel H
   refine Opl.idx (M := cITime) (xs := l0) (j := x19_1) zITime (by exact hv0) rfl (by first | omega | (simp only [List.length_set] at *; omega)) (by first | omega | (simp only [List.length_set] at *; omega)) K58 Z149 rfl rfl ?_
   rintro p1 q1 h1
   obtain rfl := cITime_R (x := (rd_ITime l0 x19_1)) h1
   refine Opl.lda (.agg [.lit (.int .i64 ((rd_ITime l0 x19_1).f0)), .lit (.int .i64 ((rd_ITime l0 x19_1).f1)), .lit (.int .i64 ((rd_ITime l0 x19_1).f2)), .lit (.int .i64 ((rd_ITime l0 x19_1).f3))]) rfl T149 rfl rfl rfl rfl (Opl.alloc T149 rfl rfl rfl ?_)
   rintro i1 S h2 u1 w1
   refine Opl.one rfl rfl (by simp only [go_sem]; rfl) (Opl.stb (vs := [.lit (.int .i64 ((rd_ITime l0 x19_1).f0)), .lit (.int .i64 ((rd_ITime l0 x19_1).f1)), .lit (.int .i64 ((rd_ITime l0 x19_1).f2)), .lit (.int .i64 ((rd_ITime l0 x19_1).f3))]) h2 rfl rfl Z149 rfl (Nat.le_of_ble_eq_true rfl) rfl rfl rfl rfl ?_)
   rintro S (h3 : Box (.ptr i1 0) [.lit (.int .i64 ((rd_ITime l0 x19_1).f0)), .lit (.int .i64 ((rd_ITime l0 x19_1).f1)), .lit (.int .i64 ((rd_ITime l0 x19_1).f2)), .lit (.int .i64 ((rd_ITime l0 x19_1).f3))] _) u2
   refine Opl.nil (Evr.seq (Evr.regionN rfl (Opl.one (v := .ptr i1 0) rfl rfl (by simp only [go_sem]; rfl) (Opl.ldb (v := .lit (.int .i64 ((rd_ITime l0 x19_1).f0))) h3 rfl T3 rfl rfl rfl rfl ?_))))
   obtain ⟨t904, h_t904, H⟩ := Option.bind_eq_some_iff.1 H
   refine Opl.callc (impl_in.ev h_t904) rfl rfl rfl rfl ⟨(.lit _), (.lit _), (.lit _), trivial⟩ (by decide) (Opl.one rfl rfl (by simp only [go_sem]; rfl) (Opl.nil (Evr.seq (Evr.seq (Evr.regionN rfl (Opl.one (v := .ptr i1 0) rfl rfl (by simp only [go_sem]; rfl) (Opl.ldb (v := .lit (.int .i64 ((rd_ITime l0 x19_1).f0))) h3 rfl T3 rfl rfl rfl rfl (Opl.nil (Evr.block (Evr.seq (Evr.regionN rfl (Opl.one rfl rfl (by simp only [go_sem]; rfl) (Opl.one rfl rfl (by simp only [go_sem]; rfl) (Opl.nil ?_))))))))))))))
   refine Evr.join (fun tm S => ∃ (kq2 : Nat) (x7_1 : Bool), impl_TimesValid.j2 kq2 a1 x7_1 l0 (l0.length : Int) x19_1 = some r ∧ kq2 ≤ n1 ∧ Has tm [(1, .lit (.int .i64 a1)), (7, .lit (.bool x7_1)), (17, v0), (18, .lit (.int .i64 (l0.length : Int))), (19, .lit (.int .i64 x19_1))]) ?_ fun hk2 => ?_
   ·
    rintro tm S ⟨kq2, x7_1, H, hle, hh⟩
    rw [hh.eq]
    refine Evr.inBlock (Evr.seq (Evr.regionN rfl (Opl.one rfl rfl (by simp only [go_sem]; rfl) (Opl.one rfl rfl (by simp only [go_sem]; rfl) (Opl.nil ?_)))))
    obtain _ | k2 := kq2
    · simp [impl_TimesValid.j2] at H
    simp only [impl_TimesValid.j2] at H
    by_cases c5 : x7_1 = true
    case pos =>
     rw [if_pos c5] at H
     have e2 : (!x7_1) = false := by simpa using c5
     try rw [e2]
     refine Evr.condF rfl (Evr.skip (Evr.inBlock (Evr.regionN rfl (Opl.one rfl rfl (by simp only [go_sem]; rfl) (Opl.one rfl rfl (by simp only [go_sem]; rfl) (Opl.nil ?_))))))
     exact ih1 _ (by omega) _ _ ⟨by omega, _, H, ⟨rfl, rfl, rfl, rfl, trivial⟩⟩
    rw [if_neg c5] at H
    have e3 : (!x7_1) = true := by simpa using c5
    try rw [e3]
    refine Evr.condT rfl (Evr.seq (Evr.regionN rfl (Opl.one rfl rfl (by simp only [go_sem]; rfl) (Opl.nil ?_))))
    obtain rfl := Option.some.inj H
    refine Evr.ret1 Try.func213 rfl ?_
    show (.lit (.bool false) : PV) = _
    first | rfl | (simp only [go_sem]; rfl)
   ·
    by_cases c6 : ((rd_ITime l0 x19_1).f0) = 0
    case pos =>
     rw [if_pos c6] at H
     have e4 : (((rd_ITime l0 x19_1).f0) == 0) = true := by simpa using c6
     try rw [e4]
     refine Evr.condT rfl (Evr.regionN rfl (Opl.ldb (v := .agg [.lit (.int .i64 ((rd_ITime l0 x19_1).f0)), .lit (.int .i64 ((rd_ITime l0 x19_1).f1)), .lit (.int .i64 ((rd_ITime l0 x19_1).f2)), .lit (.int .i64 ((rd_ITime l0 x19_1).f3))]) h3 rfl T149 rfl rfl rfl rfl (Opl.one (v := .agg [.lit (.int .i64 0), .lit (.int .i64 0), .lit (.int .i64 0), .lit (.int .i64 0)]) rfl rfl (by simp only [go_sem]; rfl) (Opl.eqs (b := (((rd_ITime l0 x19_1).f0) == 0 && (((rd_ITime l0 x19_1).f1) == 0 && (((rd_ITime l0 x19_1).f2) == 0 && (((rd_ITime l0 x19_1).f3) == 0 && true))))) O149 K149 rfl rfl rfl rfl rfl (Opl.one rfl rfl (by simp only [go_sem]; rfl) (Opl.nil ?_))))))
     exact hk2 _ _ ⟨_, _, H, by omega, ⟨rfl, (by first | rfl | (show PV.lit (.bool _) = _; congr 2; simp_all)), rfl, rfl, rfl, trivial⟩⟩
    rw [if_neg c6] at H
    have e5 : (((rd_ITime l0 x19_1).f0) == 0) = false := by simpa using c6
    try rw [e5]
    refine Evr.condF rfl (Evr.seq (Evr.regionN rfl (Opl.one rfl rfl (by simp only [go_sem]; rfl) (Opl.one rfl rfl (by simp only [go_sem]; rfl) (Opl.nil ?_)))))
    refine Evr.join (fun tm S => ∃ (kq3 : Nat) (x7_2 : Bool), impl_TimesValid.j2 kq3 a1 x7_2 l0 (l0.length : Int) x19_1 = some r ∧ kq3 ≤ n1 ∧ Has tm [(1, .lit (.int .i64 a1)), (7, .lit (.bool x7_2)), (17, v0), (18, .lit (.int .i64 (l0.length : Int))), (19, .lit (.int .i64 x19_1))]) ?_ fun hk3 => ?_
    ·
     rintro tm S ⟨kq3, x7_2, H, hle, hh⟩
     rw [hh.eq]
     exact hk2 _ _ ⟨_, _, H, by omega, ⟨rfl, (by first | rfl | (show PV.lit (.bool _) = _; congr 2; simp_all)), rfl, rfl, rfl, trivial⟩⟩
    ·
     by_cases c7 : ((rd_ITime l0 x19_1).f0) = 1
     case pos =>
      rw [if_pos c7] at H
      have e6 : (((rd_ITime l0 x19_1).f0) == 1) = true := by simpa using c7
      try rw [e6]
      refine Evr.condT rfl ?_
      refine Evr.join (fun tm S => ∃ (kq4 : Nat) (x7_3 : Bool), impl_TimesValid.j2 kq4 a1 x7_3 l0 (l0.length : Int) x19_1 = some r ∧ kq4 ≤ n1 ∧ Has tm [(1, .lit (.int .i64 a1)), (7, .lit (.bool x7_3)), (17, v0), (18, .lit (.int .i64 (l0.length : Int))), (19, .lit (.int .i64 x19_1))]) ?_ fun hk4 => ?_
      ·
       rintro tm S ⟨kq4, x7_3, H, hle, hh⟩
       rw [hh.eq]
       exact hk3 _ _ ⟨_, _, H, by omega, ⟨rfl, (by first | rfl | (show PV.lit (.bool _) = _; congr 2; simp_all)), rfl, rfl, rfl, trivial⟩⟩
      ·
       refine Evr.regionN rfl (Opl.one (v := .ptr i1 1) rfl rfl (by simp only [go_sem]; rfl) (Opl.ldb (v := .lit (.int .i64 ((rd_ITime l0 x19_1).f1))) h3 rfl T3 rfl rfl rfl rfl (Opl.one rfl rfl (by simp only [go_sem]; rfl) (Opl.one rfl rfl (by simp only [go_sem]; rfl) ?_))))
       obtain ⟨t905, h_t905, H⟩ := Option.bind_eq_some_iff.1 H
       refine Opl.callc (impl_in.ev h_t905) rfl rfl rfl rfl ⟨(.lit _), (.lit _), (.lit _), trivial⟩ (by decide) (Opl.one rfl rfl (by simp only [go_sem]; rfl) ?_)
       by_cases c8 : t905 = true
       case neg =>
        rw [if_neg c8] at H
        obtain rfl : t905 = false := by simpa using c8
        refine Opl.skp rfl (Opl.skp rfl (Opl.skp rfl (Opl.one rfl rfl (by simp only [go_sem]; rfl) (Opl.one rfl rfl (by simp only [go_sem]; rfl) (Opl.skp rfl (Opl.skp rfl (Opl.skp rfl (Opl.one rfl rfl (by simp only [go_sem]; rfl) (Opl.one rfl rfl (by simp only [go_sem]; rfl) (Opl.nil ?_))))))))))
        exact hk4 _ _ ⟨_, _, H, by omega, ⟨rfl, (by first | rfl | (show PV.lit (.bool _) = _; congr 2; simp_all)), rfl, rfl, rfl, trivial⟩⟩
       rw [if_pos c8] at H
       obtain rfl : t905 = true := by simpa using c8
       refine Opl.one (v := .ptr i1 2) rfl rfl (by simp only [go_sem]; rfl) (Opl.ldb (v := .lit (.int .i64 ((rd_ITime l0 x19_1).f2))) h3 rfl T3 rfl rfl rfl rfl (Opl.one rfl rfl (by simp only [go_sem]; rfl) (Opl.one rfl rfl (by simp only [go_sem]; rfl) (Opl.one rfl rfl (by simp only [go_sem]; rfl) ?_))))
       by_cases c9 : ((rd_ITime l0 x19_1).f2) = 0
       case neg =>
        rw [if_neg c9] at H
        have e8 : (((rd_ITime l0 x19_1).f2) == 0) = false := by simpa using c9
        try rw [e8]
        refine Opl.skp rfl (Opl.skp rfl (Opl.skp rfl (Opl.one rfl rfl (by simp only [go_sem]; rfl) (Opl.one rfl rfl (by simp only [go_sem]; rfl) (Opl.nil ?_)))))
        exact hk4 _ _ ⟨_, _, H, by omega, ⟨rfl, (by first | rfl | (show PV.lit (.bool _) = _; congr 2; simp_all)), rfl, rfl, rfl, trivial⟩⟩
       rw [if_pos c9] at H
       have e7 : (((rd_ITime l0 x19_1).f2) == 0) = true := by simpa using c9
       try rw [e7]
       refine Opl.one (v := .ptr i1 3) rfl rfl (by simp only [go_sem]; rfl) (Opl.ldb (v := .lit (.int .i64 ((rd_ITime l0 x19_1).f3))) h3 rfl T3 rfl rfl rfl rfl (Opl.one rfl rfl (by simp only [go_sem]; rfl) (Opl.one rfl rfl (by simp only [go_sem]; rfl) (Opl.one rfl rfl (by simp only [go_sem]; rfl) (Opl.nil ?_)))))
       exact hk4 _ _ ⟨_, _, H, by omega, ⟨rfl, (by first | rfl | (show PV.lit (.bool _) = _; congr 2; simp_all)), rfl, rfl, rfl, trivial⟩⟩
     rw [if_neg c7] at H
     have e9 : (((rd_ITime l0 x19_1).f0) == 1) = false := by simpa using c7
     try rw [e9]
     refine Evr.condF rfl ?_
     refine Evr.join (fun tm S => ∃ (kq5 : Nat) (x7_4 : Bool), impl_TimesValid.j2 kq5 a1 x7_4 l0 (l0.length : Int) x19_1 = some r ∧ kq5 ≤ n1 ∧ Has tm [(1, .lit (.int .i64 a1)), (7, .lit (.bool x7_4)), (17, v0), (18, .lit (.int .i64 (l0.length : Int))), (19, .lit (.int .i64 x19_1))]) ?_ fun hk5 => ?_
     ·
      rintro tm S ⟨kq5, x7_4, H, hle, hh⟩
      rw [hh.eq]
      exact hk3 _ _ ⟨_, _, H, by omega, ⟨rfl, (by first | rfl | (show PV.lit (.bool _) = _; congr 2; simp_all)), rfl, rfl, rfl, trivial⟩⟩
     ·
      refine Evr.regionN rfl (Opl.one rfl rfl (by simp only [go_sem]; rfl) (Opl.one rfl rfl (by simp only [go_sem]; rfl) ?_))
      by_cases c10 : t904 = true
      case neg =>
       rw [if_neg c10] at H
       obtain rfl : t904 = false := by simpa using c10
       refine Opl.skp rfl (Opl.skp rfl (Opl.skp rfl (Opl.one rfl rfl (by simp only [go_sem]; rfl) (Opl.one rfl rfl (by simp only [go_sem]; rfl) (Opl.skp rfl (Opl.skp rfl (Opl.skp rfl (Opl.skp rfl (Opl.skp rfl (Opl.one rfl rfl (by simp only [go_sem]; rfl) (Opl.one rfl rfl (by simp only [go_sem]; rfl) (Opl.skp rfl (Opl.skp rfl (Opl.skp rfl (Opl.skp rfl (Opl.skp rfl (Opl.one rfl rfl (by simp only [go_sem]; rfl) (Opl.one rfl rfl (by simp only [go_sem]; rfl) (Opl.skp rfl (Opl.skp rfl (Opl.skp rfl (Opl.skp rfl (Opl.skp rfl (Opl.skp rfl (Opl.skp rfl (Opl.skp rfl (Opl.skp rfl (Opl.skp rfl (Opl.skp rfl (Opl.skp rfl (Opl.skp rfl (Opl.skp rfl (Opl.skp rfl (Opl.one rfl rfl (by simp only [go_sem]; rfl) (Opl.one rfl rfl (by simp only [go_sem]; rfl) (Opl.nil ?_))))))))))))))))))))))))))))))))))))
       exact hk5 _ _ ⟨_, _, H, by omega, ⟨rfl, (by first | rfl | (show PV.lit (.bool _) = _; congr 2; simp_all)), rfl, rfl, rfl, trivial⟩⟩
      rw [if_pos c10] at H
      obtain rfl : t904 = true := by simpa using c10
      refine Opl.one (v := .ptr i1 1) rfl rfl (by simp only [go_sem]; rfl) (Opl.ldb (v := .lit (.int .i64 ((rd_ITime l0 x19_1).f1))) h3 rfl T3 rfl rfl rfl rfl (Opl.one rfl rfl (by simp only [go_sem]; rfl) (Opl.one rfl rfl (by simp only [go_sem]; rfl) (Opl.one rfl rfl (by simp only [go_sem]; rfl) ?_))))
      by_cases c11 : ((rd_ITime l0 x19_1).f1) = 0
      case neg =>
       rw [if_neg c11] at H
       have e15 : (((rd_ITime l0 x19_1).f1) == 0) = false := by simpa using c11
       try rw [e15]
       refine Opl.skp rfl (Opl.skp rfl (Opl.skp rfl (Opl.skp rfl (Opl.skp rfl (Opl.one rfl rfl (by simp only [go_sem]; rfl) (Opl.one rfl rfl (by simp only [go_sem]; rfl) (Opl.skp rfl (Opl.skp rfl (Opl.skp rfl (Opl.skp rfl (Opl.skp rfl (Opl.one rfl rfl (by simp only [go_sem]; rfl) (Opl.one rfl rfl (by simp only [go_sem]; rfl) (Opl.skp rfl (Opl.skp rfl (Opl.skp rfl (Opl.skp rfl (Opl.skp rfl (Opl.skp rfl (Opl.skp rfl (Opl.skp rfl (Opl.skp rfl (Opl.skp rfl (Opl.skp rfl (Opl.skp rfl (Opl.skp rfl (Opl.skp rfl (Opl.skp rfl (Opl.one rfl rfl (by simp only [go_sem]; rfl) (Opl.one rfl rfl (by simp only [go_sem]; rfl) (Opl.nil ?_)))))))))))))))))))))))))))))))
       exact hk5 _ _ ⟨_, _, H, by omega, ⟨rfl, (by first | rfl | (show PV.lit (.bool _) = _; congr 2; simp_all)), rfl, rfl, rfl, trivial⟩⟩
      rw [if_pos c11] at H
      have e10 : (((rd_ITime l0 x19_1).f1) == 0) = true := by simpa using c11
      try rw [e10]
      refine Opl.one (v := .ptr i1 2) rfl rfl (by simp only [go_sem]; rfl) (Opl.ldb (v := .lit (.int .i64 ((rd_ITime l0 x19_1).f2))) h3 rfl T3 rfl rfl rfl rfl (Opl.one rfl rfl (by simp only [go_sem]; rfl) (Opl.one rfl rfl (by simp only [go_sem]; rfl) ?_)))
      obtain ⟨t906, h_t906, H⟩ := Option.bind_eq_some_iff.1 H
      refine Opl.callc (impl_in.ev h_t906) rfl rfl rfl rfl ⟨(.lit _), (.lit _), (.lit _), trivial⟩ (by decide) (Opl.one rfl rfl (by simp only [go_sem]; rfl) (Opl.one rfl rfl (by simp only [go_sem]; rfl) ?_))
      by_cases c12 : t906 = true
      case neg =>
       rw [if_neg c12] at H
       obtain rfl : t906 = false := by simpa using c12
       refine Opl.skp rfl (Opl.skp rfl (Opl.skp rfl (Opl.skp rfl (Opl.skp rfl (Opl.one rfl rfl (by simp only [go_sem]; rfl) (Opl.one rfl rfl (by simp only [go_sem]; rfl) (Opl.skp rfl (Opl.skp rfl (Opl.skp rfl (Opl.skp rfl (Opl.skp rfl (Opl.skp rfl (Opl.skp rfl (Opl.skp rfl (Opl.skp rfl (Opl.skp rfl (Opl.skp rfl (Opl.skp rfl (Opl.skp rfl (Opl.skp rfl (Opl.skp rfl (Opl.one rfl rfl (by simp only [go_sem]; rfl) (Opl.one rfl rfl (by simp only [go_sem]; rfl) (Opl.nil ?_))))))))))))))))))))))))
       exact hk5 _ _ ⟨_, _, H, by omega, ⟨rfl, (by first | rfl | (show PV.lit (.bool _) = _; congr 2; simp_all)), rfl, rfl, rfl, trivial⟩⟩
      rw [if_pos c12] at H
      obtain rfl : t906 = true := by simpa using c12
      refine Opl.one (v := .ptr i1 3) rfl rfl (by simp only [go_sem]; rfl) (Opl.ldb (v := .lit (.int .i64 ((rd_ITime l0 x19_1).f3))) h3 rfl T3 rfl rfl rfl rfl (Opl.one rfl rfl (by simp only [go_sem]; rfl) (Opl.one rfl rfl (by simp only [go_sem]; rfl) ?_)))
      obtain ⟨t907, h_t907, H⟩ := Option.bind_eq_some_iff.1 H
      refine Opl.callc (impl_in.ev h_t907) rfl rfl rfl rfl ⟨(.lit _), (.lit _), (.lit _), trivial⟩ (by decide) (Opl.one rfl rfl (by simp only [go_sem]; rfl) (Opl.one rfl rfl (by simp only [go_sem]; rfl) ?_))
      by_cases c13 : t907 = true
      case neg =>
       rw [if_neg c13] at H
       obtain rfl : t907 = false := by simpa using c13
       refine Opl.skp rfl (Opl.skp rfl (Opl.skp rfl (Opl.skp rfl (Opl.skp rfl (Opl.skp rfl (Opl.skp rfl (Opl.skp rfl (Opl.skp rfl (Opl.skp rfl (Opl.skp rfl (Opl.skp rfl (Opl.skp rfl (Opl.skp rfl (Opl.skp rfl (Opl.one rfl rfl (by simp only [go_sem]; rfl) (Opl.one rfl rfl (by simp only [go_sem]; rfl) (Opl.nil ?_)))))))))))))))))
       exact hk5 _ _ ⟨_, _, H, by omega, ⟨rfl, (by first | rfl | (show PV.lit (.bool _) = _; congr 2; simp_all)), rfl, rfl, rfl, trivial⟩⟩
      rw [if_pos c13] at H
      obtain rfl : t907 = true := by simpa using c13
      refine Opl.one (v := .ptr i1 2) rfl rfl (by simp only [go_sem]; rfl) (Opl.ldb (v := .lit (.int .i64 ((rd_ITime l0 x19_1).f2))) h3 rfl T3 rfl rfl rfl rfl (Opl.one (v := .ptr i1 3) rfl rfl (by simp only [go_sem]; rfl) (Opl.ldb (v := .lit (.int .i64 ((rd_ITime l0 x19_1).f3))) h3 rfl T3 rfl rfl rfl rfl (Opl.one rfl rfl (by simp only [go_sem]; rfl) (Opl.one rfl rfl (by simp only [go_sem]; rfl) ?_)))))
      by_cases c14 : ((rd_ITime l0 x19_1).f2) = ((rd_ITime l0 x19_1).f3)
      case pos =>
       rw [if_pos c14] at H
       have e11 : (((rd_ITime l0 x19_1).f2) == ((rd_ITime l0 x19_1).f3)) = true := by simpa using c14
       try rw [e11]
       refine Opl.skp rfl (Opl.skp rfl (Opl.skp rfl (Opl.skp rfl (Opl.skp rfl (Opl.skp rfl (Opl.skp rfl (Opl.skp rfl (Opl.one rfl rfl (by simp only [go_sem]; rfl) (Opl.one rfl rfl (by simp only [go_sem]; rfl) (Opl.one rfl rfl (by simp only [go_sem]; rfl) (Opl.nil ?_)))))))))))
       exact hk5 _ _ ⟨_, _, H, by omega, ⟨rfl, (by first | rfl | (show PV.lit (.bool _) = _; congr 2; simp_all)), rfl, rfl, rfl, trivial⟩⟩
      rw [if_neg c14] at H
      have e12 : (((rd_ITime l0 x19_1).f2) == ((rd_ITime l0 x19_1).f3)) = false := by simpa using c14
      try rw [e12]
      refine Opl.one (v := .ptr i1 0) rfl rfl (by simp only [go_sem]; rfl) (Opl.ldb (v := .lit (.int .i64 ((rd_ITime l0 x19_1).f0))) h3 rfl T3 rfl rfl rfl rfl (Opl.one rfl rfl (by simp only [go_sem]; rfl) (Opl.one rfl rfl (by simp only [go_sem]; rfl) ?_)))
      by_cases c15 : ((rd_ITime l0 x19_1).f0) = 2
      case pos =>
       rw [if_pos c15] at H
       have e13 : (((rd_ITime l0 x19_1).f0) != 2) = false := by simpa using c15
       try rw [e13]
       refine Opl.skp rfl (Opl.skp rfl (Opl.skp rfl (Opl.one rfl rfl (by simp only [go_sem]; rfl) (Opl.one rfl rfl (by simp only [go_sem]; rfl) (Opl.one rfl rfl (by simp only [go_sem]; rfl) (Opl.one rfl rfl (by simp only [go_sem]; rfl) (Opl.nil ?_)))))))
       exact hk5 _ _ ⟨_, _, H, by omega, ⟨rfl, (by first | rfl | (show PV.lit (.bool _) = _; congr 2; simp_all)), rfl, rfl, rfl, trivial⟩⟩
      rw [if_neg c15] at H
      have e14 : (((rd_ITime l0 x19_1).f0) != 2) = true := by simpa using c15
      try rw [e14]
      refine Opl.one (v := .ptr i1 0) rfl rfl (by simp only [go_sem]; rfl) (Opl.ldb (v := .lit (.int .i64 ((rd_ITime l0 x19_1).f0))) h3 rfl T3 rfl rfl rfl rfl (Opl.one rfl rfl (by simp only [go_sem]; rfl) (Opl.one rfl rfl (by simp only [go_sem]; rfl) (Opl.one rfl rfl (by simp only [go_sem]; rfl) (Opl.one rfl rfl (by simp only [go_sem]; rfl) (Opl.one rfl rfl (by simp only [go_sem]; rfl) (Opl.nil ?_)))))))
      exact hk5 _ _ ⟨_, _, H, by omega, ⟨rfl, (by first | rfl | (show PV.lit (.bool _) = _; congr 2; simp_all)), rfl, rfl, rfl, trivial⟩⟩
 ·
  refine Evr.regionN rfl (Opl.one rfl rfl (by simp only [go_sem]; rfl) ?_)
  obtain ⟨t900, h_t900, H⟩ := Option.bind_eq_some_iff.1 H
  refine Opl.callc (impl_in.ev h_t900) rfl rfl rfl rfl ⟨(.lit _), (.lit _), (.lit _), trivial⟩ (by decide) (Opl.one rfl rfl (by simp only [go_sem]; rfl) (Opl.one rfl rfl (by simp only [go_sem]; rfl) ?_))
  by_cases c16 : t900 = true
  case neg =>
   rw [if_neg c16] at H
   have e18 : (!t900) = true := by simpa using c16
   try rw [e18]
   refine Opl.skp rfl (Opl.skp rfl (Opl.skp rfl (Opl.skp rfl (Opl.one rfl rfl (by simp only [go_sem]; rfl) (Opl.nil ?_)))))
   exact hk1 _ _ ⟨_, _, H, ⟨rfl, rfl, (by first | rfl | (show PV.lit (.bool _) = _; congr 2; simp_all)), trivial⟩⟩
  rw [if_pos c16] at H
  have e17 : (!t900) = false := by simpa using c16
  try rw [e17]
  refine Opl.one rfl rfl (by simp only [go_sem]; rfl) (Opl.len (xs := l0) (by exact hv0) K58 rfl rfl rfl rfl ?_)
  obtain ⟨t901, h_t901, H⟩ := Option.bind_eq_some_iff.1 H
  refine Opl.callc (impl_in.ev h_t901) rfl rfl rfl rfl ⟨(.lit _), (.lit _), (.lit _), trivial⟩ (by decide) (Opl.one rfl rfl (by simp only [go_sem]; rfl) (Opl.one rfl rfl (by simp only [go_sem]; rfl) (Opl.nil ?_)))
  exact hk1 _ _ ⟨_, _, H, ⟨rfl, rfl, (by first | rfl | (show PV.lit (.bool _) = _; congr 2; simp_all)), trivial⟩⟩
theorem impl_clone_int.ev {l0 : List Int} {v0 : PV} (hv0 : Sl (cInt .i64) l0 v0) {r : List Int} (H : impl_clone_int.f l0 = some r) : Ret Try.prog 128 [v0] fun v S => Vec (cInt .i64) r v S := by
 unfold impl_clone_int.f at H
 refine Ret.intro Try.func128 rfl (Nat.le_of_ble_eq_true rfl) rfl ?_
 rw [tm1]
 obtain ⟨c1, H⟩ := peel H
 obtain rfl := Option.some.inj H
 refine Evr.seq (Evr.regionN rfl (Opl.one rfl rfl (by simp only [go_sem]; rfl) (Opl.nil (Evr.seq (Evr.seq (Evr.regionN rfl (Opl.one rfl rfl (by simp only [go_sem]; rfl) (Opl.len (by exact hv0) K22 rfl rfl rfl rfl (Opl.one rfl rfl (by simp only [go_sem]; rfl) (Opl.nil ?_))))))))))
 by_cases c2 : (l0.length : Int) = 0
 · have e1 : ((l0.length : Int) == 0) = true := by simpa using c2
   try rw [e1]
   refine Evr.condT rfl (Evr.seq (Evr.regionN rfl (Opl.one rfl rfl (by simp only [go_sem]; rfl) (Opl.nil ?_))))
   obtain rfl : l0 = [] := List.eq_nil_of_length_eq_zero (by omega)
   refine Evr.ret1 Try.func128 rfl ?_
   exact .nil
 · have e1 : ((l0.length : Int) == 0) = false := by simpa using c2
   try rw [e1]
   refine Evr.condF rfl (Evr.skip (Evr.seq (Evr.regionN rfl (Opl.one rfl rfl (by simp only [go_sem]; rfl) (Opl.len (by exact hv0) K22 rfl rfl rfl rfl ?_)))))
   refine Opl.make (M := (cInt .i64)) (m := (l0.length : Int)) (0 : Int) (by exact rfl) rfl rfl K22 T3 rfl (by omega) (by show (_ : Nat) * 8 ≤ 281474976710656; omega) (by omega) rfl rfl rfl ?_
   rintro pv1 S h1 u1 w1
   refine Opl.one rfl rfl (by simp only [go_sem]; rfl) (Opl.nil (Evr.seq (Evr.regionN rfl (Opl.one rfl rfl (by simp only [go_sem]; rfl) (Opl.one rfl rfl (by simp only [go_sem]; rfl) ?_)))))
   refine Opl.copy (M := (cInt .i64)) (ys := l0) h1 (by exact hv0) (oInt .i64) rfl (by simp) (by simp; omega) K22 Z3 rfl rfl rfl rfl rfl ?_
   rintro S h2 u2
   refine Opl.nil (Evr.seq (Evr.regionN rfl (Opl.one rfl rfl (by simp only [go_sem]; rfl) (Opl.one rfl rfl (by simp only [go_sem]; rfl) (Opl.nil ?_)))))
   refine Evr.ret1 Try.func128 rfl ?_
   exact h2
theorem impl_guessed.ev {k : Nat} {l0 : List ITime} {v0 : PV} (hv0 : Sl cITime l0 v0) {a1 : Int} {r : (List Int) × Bool} (H : impl_guessed.f k l0 a1 = some r) : Ret Try.prog 122 [v0, .lit (.int .i64 a1)] fun v S => Out (fun q => ∃ q1 q2, q = .tup [q1, q2] ∧ Sl (cInt .i64) r.1 q1 ∧ q2 = .lit (.bool r.2)) v S := by
 unfold impl_guessed.f at H
 refine Ret.intro Try.func122 rfl (Nat.le_of_ble_eq_true rfl) rfl ?_
 rw [tm2]
 refine Evr.seq (Evr.regionN rfl (Opl.one rfl rfl (by simp only [go_sem]; rfl) (Opl.one rfl rfl (by simp only [go_sem]; rfl) (Opl.nil (Evr.seq (Evr.seq (Evr.regionN rfl (Opl.one rfl rfl (by simp only [go_sem]; rfl) (Opl.one rfl rfl (by simp only [go_sem]; rfl) ?_)))))))))
 obtain ⟨t908, h_t908, H⟩ := Option.bind_eq_some_iff.1 H
 refine Opl.callc (impl_TimesValid.ev hv0 h_t908) rfl rfl rfl rfl ⟨hv0.plain, (.lit _), trivial⟩ (by decide) (Opl.one rfl rfl (by simp only [go_sem]; rfl) (Opl.nil ?_))
 by_cases c1 : t908 = true
 case neg =>
  rw [if_neg c1] at H
  have e6 : (!t908) = true := by simpa using c1
  try rw [e6]
  refine Evr.condT rfl (Evr.seq (Evr.regionN rfl (Opl.one rfl rfl (by simp only [go_sem]; rfl) (Opl.one rfl rfl (by simp only [go_sem]; rfl) (Opl.nil ?_)))))
  obtain rfl := Option.some.inj H
  refine Evr.ret2 Try.func122 rfl ?_
  show Out _ (.tup [.lit (.slice none 0 0), .lit (.bool false)]) _
  exact .tup2 (.sl .nil) .lit
 rw [if_pos c1] at H
 have e1 : (!t908) = false := by simpa using c1
 try rw [e1]
 refine Evr.condF rfl (Evr.skip (Evr.seq (Evr.regionN rfl (Opl.one rfl rfl (by simp only [go_sem]; rfl) (Opl.nil (Evr.seq (Evr.seq (Evr.regionN rfl (Opl.one rfl rfl (by simp only [go_sem]; rfl) (Opl.len (xs := l0) (by exact hv0) K58 rfl rfl rfl rfl (Opl.one rfl rfl (by simp only [go_sem]; rfl) (Opl.nil (Evr.block ?_)))))))))))))
 refine Evr.loop (Evr.rounds (n := k) (Inv := fun n tm S => n ≤ k ∧ ∃ (x6_1 : List Int) (x15_1 : Int) (pv1 : PV), impl_guessed.l0 n a1 x6_1 l0 (l0.length : Int) x15_1 = some r ∧ Has tm [(1, .lit (.int .i64 a1)), (6, pv1), (13, v0), (14, .lit (.int .i64 (l0.length : Int))), (15, .lit (.int .i64 x15_1))] ∧ Vec (cInt .i64) x6_1 pv1 S) ?_ ?_ ?_)
 · exact ⟨Nat.le_refl _, _, _, _, H, ⟨rfl, rfl, rfl, rfl, rfl, trivial⟩, .nil⟩
 ·
  rintro tm S ⟨_, _, _, _, H, -⟩
  simp [impl_guessed.l0] at H
 ·
  rintro n1 ih1 tm S ⟨hle, x6_1, x15_1, pv1, H, hh, h1⟩
  simp only [impl_guessed.l0] at H
  rw [hh.eq]
  refine Evr.seq (Evr.regionN rfl (Opl.one rfl rfl (by simp only [go_sem]; rfl) (Opl.nil (Evr.seq ?_))))
  by_cases c2 : x15_1 < (l0.length : Int)
  case neg =>
   rw [if_neg c2] at H
   have e5 : (decide (x15_1 < (l0.length : Int))) = false := by simpa using c2
   try rw [e5]
   refine Evr.condF rfl (Evr.exit rfl (Evr.seq (Evr.regionN rfl (Opl.one rfl rfl (by simp only [go_sem]; rfl) ?_))))
   obtain ⟨t914, h_t914, H⟩ := Option.bind_eq_some_iff.1 H
   obtain ⟨pv5, h14, -, h15⟩ := Out.vec h1
   refine Opl.callv (sInt .i64) (impl_clone_int.ev h15 h_t914) rfl rfl rfl (.cons h14 .nil) ⟨h15.plain, trivial⟩ (by decide) ?_
   rintro pv6 h16
   refine Opl.one rfl rfl (by simp only [go_sem]; rfl) (Opl.one rfl rfl (by simp only [go_sem]; rfl) (Opl.lenv (xs := x6_1) (by exact h1) K22 rfl rfl rfl rfl (Opl.one rfl rfl (by simp only [go_sem]; rfl) (Opl.leq (a := (wrap64 (a1 + (x6_1.length : Int)))) (b := 7) K3 rfl rfl rfl rfl (Opl.one rfl rfl (by simp only [go_sem]; rfl) (Opl.one rfl rfl (by simp only [go_sem]; rfl) (Opl.nil ?_)))))))
   obtain rfl := Option.some.inj H
   refine Evr.ret2 Try.func122 rfl ?_
   show Out _ (.tup [pv6, .lit (.bool (decide ((wrap64 (a1 + (x6_1.length : Int))) ≤ 7)))]) _
   exact .tup2 (.sl h16) .lit
  rw [if_pos c2] at H
  have e2 : (decide (x15_1 < (l0.length : Int))) = true := by simpa using c2
  try rw [e2]
  refine Evr.condT rfl (Evr.skip (Evr.seq (Evr.block (Evr.seq (Evr.regionN rfl (Opl.one rfl rfl (by simp only [go_sem]; rfl) ?_))))))
  obtain ⟨c3, H⟩ := peel H
  obtain ⟨c4, H⟩ := peel H
  refine Opl.idx (M := cITime) (xs := l0) (j := x15_1) zITime (by exact hv0) rfl (by first | omega | (simp only [List.length_set] at *; omega)) (by first | omega | (simp only [List.length_set] at *; omega)) K58 Z149 rfl rfl ?_
  rintro p1 q1 h2
  obtain rfl := cITime_R (x := (rd_ITime l0 x15_1)) h2
  refine Opl.lda (.agg [.lit (.int .i64 ((rd_ITime l0 x15_1).f0)), .lit (.int .i64 ((rd_ITime l0 x15_1).f1)), .lit (.int .i64 ((rd_ITime l0 x15_1).f2)), .lit (.int .i64 ((rd_ITime l0 x15_1).f3))]) rfl T149 rfl rfl rfl rfl (Opl.alloc T149 rfl rfl rfl ?_)
  rintro i1 S h3 u1 w1
  have ap1 := w1.vec h1
  have h4 := u1.vec h1 ap1
  refine Opl.one rfl rfl (by simp only [go_sem]; rfl) (Opl.stb (vs := [.lit (.int .i64 ((rd_ITime l0 x15_1).f0)), .lit (.int .i64 ((rd_ITime l0 x15_1).f1)), .lit (.int .i64 ((rd_ITime l0 x15_1).f2)), .lit (.int .i64 ((rd_ITime l0 x15_1).f3))]) h3 rfl rfl Z149 rfl (Nat.le_of_ble_eq_true rfl) rfl rfl rfl rfl ?_)
  rintro S (h5 : Box (.ptr i1 0) [.lit (.int .i64 ((rd_ITime l0 x15_1).f0)), .lit (.int .i64 ((rd_ITime l0 x15_1).f1)), .lit (.int .i64 ((rd_ITime l0 x15_1).f2)), .lit (.int .i64 ((rd_ITime l0 x15_1).f3))] _) u2
  have h6 := u2.vec h4 ap1
  refine Opl.nil (Evr.seq (Evr.regionN rfl (Opl.one (v := .ptr i1 0) rfl rfl (by simp only [go_sem]; rfl) (Opl.ldb (v := .lit (.int .i64 ((rd_ITime l0 x15_1).f0))) h5 rfl T3 rfl rfl rfl rfl (Opl.one rfl rfl (by simp only [go_sem]; rfl) (Opl.nil ?_))))))
  refine Evr.join (fun tm S => ∃ (kq1 : Nat) (x6_2 : List Int) (pv2 : PV), impl_guessed.l0 kq1 a1 x6_2 l0 (l0.length : Int) (wrap64 (x15_1 + 1)) = some r ∧ kq1 ≤ n1 ∧ Has tm [(1, .lit (.int .i64 a1)), (6, pv2), (13, v0), (14, .lit (.int .i64 (l0.length : Int))), (15, .lit (.int .i64 x15_1))] ∧ Vec (cInt .i64) x6_2 pv2 S) ?_ fun hk1 => ?_
  ·
   rintro tm S ⟨kq1, x6_2, pv2, H, hle, hh, h7⟩
   rw [hh.eq]
   refine Evr.inBlock (Evr.regionN rfl (Opl.one rfl rfl (by simp only [go_sem]; rfl) (Opl.one rfl rfl (by simp only [go_sem]; rfl) (Opl.nil ?_))))
   exact ih1 _ (by omega) _ _ ⟨by omega, _, _, _, H, ⟨rfl, rfl, rfl, rfl, rfl, trivial⟩, h7⟩
  ·
   by_cases c5 : ((rd_ITime l0 x15_1).f0) ≥ 5
   case neg =>
    rw [if_neg c5] at H
    have e4 : (decide (((rd_ITime l0 x15_1).f0) ≥ 5)) = false := by simpa using c5
    try rw [e4]
    refine Evr.condF rfl (Evr.skip ?_)
    exact hk1 _ _ ⟨_, _, _, H, by omega, ⟨rfl, rfl, rfl, rfl, rfl, trivial⟩, h6⟩
   rw [if_pos c5] at H
   have e3 : (decide (((rd_ITime l0 x15_1).f0) ≥ 5)) = true := by simpa using c5
   try rw [e3]
   refine Evr.condT rfl (Evr.regionN rfl (Opl.one rfl rfl (by simp only [go_sem]; rfl) (Opl.one rfl rfl (by simp only [go_sem]; rfl) (Opl.lits (M := (cInt .i64)) (ys := [x15_1]) [.tmp 24] K22 T3 rfl rfl rfl (by exact ⟨rfl, trivial⟩) rfl (by decide) rfl rfl rfl ?_))))
   rintro pv3 S h8 u3 w3
   have ap2 := w3.vec h6
   have h9 := u3.vec h6 ap2
   have ap3 := w3.box h5
   have h10 := u3.box h5 ap3
   obtain ⟨c6, H⟩ := peel H
   refine Opl.app (M := (cInt .i64)) (xs := x6_1) (ys := [x15_1]) (v := pv1) h9 (.vec h8) (oInt .i64) rfl rfl K22 T3 rfl rfl (by (try simp only [List.length_cons, List.length_nil]); omega) (by show (_ + _) * 8 ≤ 140737488355328; (try simp only [List.length_cons, List.length_nil]); omega) rfl rfl rfl rfl rfl ?_
   rintro pv4 S h11 u4 w4
   have ap4 := w4.box h10
   have h12 := u4.box h10 ap1.symm
   have ap5 := w4.vec h8
   have h13 := u4.vec h8 ap2.symm
   refine Opl.one rfl rfl (by simp only [go_sem]; rfl) (Opl.nil ?_)
   exact hk1 _ _ ⟨_, _, _, H, by omega, ⟨rfl, rfl, rfl, rfl, rfl, trivial⟩, h11⟩
theorem impl_GuessCount.ev {k : Nat} {l0 : List ITime} {v0 : PV} (hv0 : Sl cITime l0 v0) {a1 : Int} {r : Int} (H : impl_GuessCount.f k l0 a1 = some r) : Ret Try.prog 151 [v0, .lit (.int .i64 a1)] fun v S => v = .lit (.int .i64 r) := by
 unfold impl_GuessCount.f at H
 refine Ret.intro Try.func151 rfl (Nat.le_of_ble_eq_true rfl) rfl ?_
 rw [tm2]
 refine Evr.seq (Evr.regionN rfl (Opl.one rfl rfl (by simp only [go_sem]; rfl) (Opl.nil (Evr.seq (Evr.regionN rfl (Opl.one rfl rfl (by simp only [go_sem]; rfl) (Opl.one rfl rfl (by simp only [go_sem]; rfl) ?_)))))))
 obtain ⟨bt1398, h_bt1398, H⟩ := Option.bind_eq_some_iff.1 H
 refine Opl.call (impl_guessed.ev hv0 h_bt1398) rfl rfl rfl rfl ⟨hv0.plain, (.lit _), trivial⟩ (by decide) ?_
 rintro _ ⟨pv2, _, rfl, h2, rfl⟩
 refine Opl.one rfl rfl (by simp only [go_sem]; rfl) (Opl.one (v := pv2) rfl rfl (by simp only [go_sem]; rfl) (Opl.one (v := .lit (.bool bt1398.2)) rfl rfl (by simp only [go_sem]; rfl) (Opl.one rfl rfl (by simp only [go_sem]; rfl) (Opl.one rfl rfl (by simp only [go_sem]; rfl) (Opl.nil (Evr.seq (Evr.seq (Evr.regionN rfl (Opl.one rfl rfl (by simp only [go_sem]; rfl) (Opl.one rfl rfl (by simp only [go_sem]; rfl) (Opl.nil ?_)))))))))))
 by_cases c1 : bt1398.2 = true
 case neg =>
  rw [if_neg c1] at H
  have e2 : (!bt1398.2) = true := by simpa using c1
  try rw [e2]
  refine Evr.condT rfl (Evr.seq (Evr.regionN rfl (Opl.one rfl rfl (by simp only [go_sem]; rfl) (Opl.nil ?_))))
  obtain rfl := Option.some.inj H
  refine Evr.ret1 Try.func151 rfl ?_
  show (.lit (.int .i64 0) : PV) = _
  first | rfl | (simp only [go_sem]; rfl)
 rw [if_pos c1] at H
 have e1 : (!bt1398.2) = false := by simpa using c1
 try rw [e1]
 refine Evr.condF rfl (Evr.skip (Evr.seq (Evr.regionN rfl (Opl.one rfl rfl (by simp only [go_sem]; rfl) (Opl.one rfl rfl (by simp only [go_sem]; rfl) (Opl.len (xs := bt1398.1) (by exact h2) K22 rfl rfl rfl rfl (Opl.one rfl rfl (by simp only [go_sem]; rfl) ?_)))))))
 obtain ⟨c2, H⟩ := peel H
 refine Opl.one (v := .lit (.int .i64 (shl .i64 1 (wrap64 (a1 + (bt1398.1.length : Int)))))) rfl rfl (by simp only [go_sem]; rw [if_neg (by omega)]; simp only [shl, w64, IntKind.bits]; rfl) (Opl.one rfl rfl (by simp only [go_sem]; rfl) (Opl.nil ?_))
 obtain rfl := Option.some.inj H
 refine Evr.ret1 Try.func151 rfl ?_
 show (.lit (.int .i64 (shl .i64 1 (wrap64 (a1 + (bt1398.1.length : Int))))) : PV) = _
 first | rfl | (simp only [go_sem]; rfl)
theorem impl_size.ev {k : Nat} {l0 : List IVar} {v0 : PV} (hv0 : Sl cIVar l0 v0) {r : Int} (H : impl_size.f k l0 = some r) : Ret Try.prog 150 [v0] fun v S => v = .lit (.int .i64 r) := by
 unfold impl_size.f at H
 refine Ret.intro Try.func150 rfl (Nat.le_of_ble_eq_true rfl) rfl ?_
 rw [tm1]
 refine Evr.seq (Evr.regionN rfl (Opl.one rfl rfl (by simp only [go_sem]; rfl) (Opl.nil (Evr.seq (Evr.regionN rfl (Opl.one rfl rfl (by simp only [go_sem]; rfl) (Opl.nil (Evr.seq (Evr.seq (Evr.regionN rfl (Opl.one rfl rfl (by simp only [go_sem]; rfl) (Opl.len (xs := l0) (by exact hv0) K88 rfl rfl rfl rfl (Opl.one rfl rfl (by simp only [go_sem]; rfl) (Opl.nil (Evr.block ?_)))))))))))))))
 refine Evr.loop (Evr.rounds (n := k) (Inv := fun n tm S => n ≤ k ∧ ∃ (x3_1 : Int) (x8_1 : Int), impl_size.l0 n x3_1 l0 (l0.length : Int) x8_1 = some r ∧ Has tm [(3, .lit (.int .i64 x3_1)), (6, v0), (7, .lit (.int .i64 (l0.length : Int))), (8, .lit (.int .i64 x8_1))]) ?_ ?_ ?_)
 · exact ⟨Nat.le_refl _, _, _, H, ⟨rfl, rfl, rfl, rfl, trivial⟩⟩
 ·
  rintro tm S ⟨_, _, _, H, -⟩
  simp [impl_size.l0] at H
 ·
  rintro n1 ih1 tm S ⟨hle, x3_1, x8_1, H, hh⟩
  simp only [impl_size.l0] at H
  rw [hh.eq]
  refine Evr.seq (Evr.regionN rfl (Opl.one rfl rfl (by simp only [go_sem]; rfl) (Opl.nil (Evr.seq ?_))))
  by_cases c1 : x8_1 < (l0.length : Int)
  case neg =>
   rw [if_neg c1] at H
   have e2 : (decide (x8_1 < (l0.length : Int))) = false := by simpa using c1
   try rw [e2]
   refine Evr.condF rfl (Evr.exit rfl (Evr.seq (Evr.regionN rfl (Opl.one rfl rfl (by simp only [go_sem]; rfl) (Opl.one rfl rfl (by simp only [go_sem]; rfl) (Opl.nil ?_))))))
   obtain rfl := Option.some.inj H
   refine Evr.ret1 Try.func150 rfl ?_
   show (.lit (.int .i64 x3_1) : PV) = _
   first | rfl | (simp only [go_sem]; rfl)
  rw [if_pos c1] at H
  have e1 : (decide (x8_1 < (l0.length : Int))) = true := by simpa using c1
  try rw [e1]
  refine Evr.condT rfl (Evr.skip (Evr.seq (Evr.block (Evr.seq (Evr.regionN rfl ?_)))))
  obtain ⟨c2, H⟩ := peel H
  obtain ⟨c3, H⟩ := peel H
  refine Opl.idx (M := cIVar) (xs := l0) (j := x8_1) zIVar (by exact hv0) rfl (by first | omega | (simp only [List.length_set] at *; omega)) (by first | omega | (simp only [List.length_set] at *; omega)) K88 Z243 rfl rfl ?_
  rintro p1 q1 h1
  obtain rfl := cIVar_R (x := (rd_IVar l0 x8_1)) h1
  refine Opl.lda (.agg [.lit (.int .i64 ((rd_IVar l0 x8_1).f0)), .lit (.int .i64 ((rd_IVar l0 x8_1).f1)), .lit (.int .i64 ((rd_IVar l0 x8_1).f2))]) rfl T243 rfl rfl rfl rfl (Opl.alloc T243 rfl rfl rfl ?_)
  rintro i1 S h2 u1 w1
  refine Opl.stb (vs := [.lit (.int .i64 ((rd_IVar l0 x8_1).f0)), .lit (.int .i64 ((rd_IVar l0 x8_1).f1)), .lit (.int .i64 ((rd_IVar l0 x8_1).f2))]) h2 rfl rfl Z243 rfl (Nat.le_of_ble_eq_true rfl) rfl rfl rfl rfl ?_
  rintro S (h3 : Box (.ptr i1 0) [.lit (.int .i64 ((rd_IVar l0 x8_1).f0)), .lit (.int .i64 ((rd_IVar l0 x8_1).f1)), .lit (.int .i64 ((rd_IVar l0 x8_1).f2))] _) u2
  refine Opl.nil (Evr.regionN rfl (Opl.one rfl rfl (by simp only [go_sem]; rfl) (Opl.one (v := .ptr i1 1) rfl rfl (by simp only [go_sem]; rfl) (Opl.ldb (v := .lit (.int .i64 ((rd_IVar l0 x8_1).f1))) h3 rfl T3 rfl rfl rfl rfl (Opl.one (v := .ptr i1 0) rfl rfl (by simp only [go_sem]; rfl) (Opl.ldb (v := .lit (.int .i64 ((rd_IVar l0 x8_1).f0))) h3 rfl T3 rfl rfl rfl rfl (Opl.one rfl rfl (by simp only [go_sem]; rfl) (Opl.one rfl rfl (by simp only [go_sem]; rfl) (Opl.one rfl rfl (by simp only [go_sem]; rfl) (Opl.one rfl rfl (by simp only [go_sem]; rfl) (Opl.nil (Evr.inBlock (Evr.regionN rfl (Opl.one rfl rfl (by simp only [go_sem]; rfl) (Opl.one rfl rfl (by simp only [go_sem]; rfl) (Opl.nil ?_))))))))))))))))
  exact ih1 _ (by omega) _ _ ⟨by omega, _, _, H, ⟨rfl, rfl, rfl, rfl, trivial⟩⟩
theorem impl_varOk.ev {a0_0 : Int} {a0_1 : Int} {a0_2 : Int} {r : Bool} (H : impl_varOk.f a0_0 a0_1 a0_2 = some r) : Ret Try.prog 316 [.agg [.lit (.int .i64 a0_0), .lit (.int .i64 a0_1), .lit (.int .i64 a0_2)]] fun v S => v = .lit (.bool r) := by
 unfold impl_varOk.f at H
 refine Ret.intro Try.func316 rfl (Nat.le_of_ble_eq_true rfl) rfl ?_
 rw [tm1]
 refine Evr.seq (Evr.regionN rfl (Opl.box (cs := [.lit (.int .i64 a0_0), .lit (.int .i64 a0_1), .lit (.int .i64 a0_2)]) rfl rfl rfl rfl ?_))
 rintro i1 S h1 u1 w1
 refine Opl.one rfl rfl (by simp only [go_sem]; rfl) (Opl.nil (Evr.seq (Evr.regionN rfl (Opl.one (v := .ptr i1 0) rfl rfl (by simp only [go_sem]; rfl) (Opl.ldb (v := .lit (.int .i64 a0_0)) h1 rfl T3 rfl rfl rfl rfl ?_)))))
 obtain ⟨t1403, h_t1403, H⟩ := Option.bind_eq_some_iff.1 H
 refine Opl.callc (impl_in.ev h_t1403) rfl rfl rfl rfl ⟨(.lit _), (.lit _), (.lit _), trivial⟩ (by decide) (Opl.one rfl rfl (by simp only [go_sem]; rfl) ?_)
 by_cases c1 : t1403 = true
 case neg =>
  rw [if_neg c1] at H
  obtain rfl : t1403 = false := by simpa using c1
  refine Opl.skp rfl (Opl.skp rfl (Opl.skp rfl (Opl.skp rfl (Opl.skp rfl (Opl.one rfl rfl (by simp only [go_sem]; rfl) (Opl.one rfl rfl (by simp only [go_sem]; rfl) (Opl.skp rfl (Opl.skp rfl (Opl.skp rfl (Opl.skp rfl (Opl.skp rfl (Opl.skp rfl (Opl.one rfl rfl (by simp only [go_sem]; rfl) (Opl.one rfl rfl (by simp only [go_sem]; rfl) (Opl.skp rfl (Opl.skp rfl (Opl.skp rfl (Opl.skp rfl (Opl.skp rfl (Opl.skp rfl (Opl.skp rfl (Opl.one rfl rfl (by simp only [go_sem]; rfl) (Opl.one rfl rfl (by simp only [go_sem]; rfl) (Opl.nil ?_))))))))))))))))))))))))
  obtain rfl := Option.some.inj H
  refine Evr.ret1 Try.func316 rfl ?_
  show (.lit (.bool false) : PV) = _
  first | rfl | (simp only [go_sem]; rfl)
 rw [if_pos c1] at H
 obtain rfl : t1403 = true := by simpa using c1
 refine Opl.one (v := .ptr i1 1) rfl rfl (by simp only [go_sem]; rfl) (Opl.ldb (v := .lit (.int .i64 a0_1)) h1 rfl T3 rfl rfl rfl rfl (Opl.one (v := .ptr i1 0) rfl rfl (by simp only [go_sem]; rfl) (Opl.ldb (v := .lit (.int .i64 a0_0)) h1 rfl T3 rfl rfl rfl rfl ?_)))
 obtain ⟨t1404, h_t1404, H⟩ := Option.bind_eq_some_iff.1 H
 refine Opl.callc (impl_in.ev h_t1404) rfl rfl rfl rfl ⟨(.lit _), (.lit _), (.lit _), trivial⟩ (by decide) (Opl.one rfl rfl (by simp only [go_sem]; rfl) (Opl.one rfl rfl (by simp only [go_sem]; rfl) ?_))
 by_cases c2 : t1404 = true
 case neg =>
  rw [if_neg c2] at H
  obtain rfl : t1404 = false := by simpa using c2
  refine Opl.skp rfl (Opl.skp rfl (Opl.skp rfl (Opl.skp rfl (Opl.skp rfl (Opl.skp rfl (Opl.one rfl rfl (by simp only [go_sem]; rfl) (Opl.one rfl rfl (by simp only [go_sem]; rfl) (Opl.skp rfl (Opl.skp rfl (Opl.skp rfl (Opl.skp rfl (Opl.skp rfl (Opl.skp rfl (Opl.skp rfl (Opl.one rfl rfl (by simp only [go_sem]; rfl) (Opl.one rfl rfl (by simp only [go_sem]; rfl) (Opl.nil ?_)))))))))))))))))
  obtain rfl := Option.some.inj H
  refine Evr.ret1 Try.func316 rfl ?_
  show (.lit (.bool false) : PV) = _
  first | rfl | (simp only [go_sem]; rfl)
 rw [if_pos c2] at H
 obtain rfl : t1404 = true := by simpa using c2
 refine Opl.one (v := .ptr i1 1) rfl rfl (by simp only [go_sem]; rfl) (Opl.ldb (v := .lit (.int .i64 a0_1)) h1 rfl T3 rfl rfl rfl rfl (Opl.one (v := .ptr i1 0) rfl rfl (by simp only [go_sem]; rfl) (Opl.ldb (v := .lit (.int .i64 a0_0)) h1 rfl T3 rfl rfl rfl rfl (Opl.one rfl rfl (by simp only [go_sem]; rfl) (Opl.lss (a := (wrap64 (a0_1 - a0_0))) (b := 20) K3 rfl rfl rfl rfl (Opl.one rfl rfl (by simp only [go_sem]; rfl) (Opl.one rfl rfl (by simp only [go_sem]; rfl) ?_)))))))
 by_cases c3 : (wrap64 (a0_1 - a0_0)) < 20
 case neg =>
  rw [if_neg c3] at H
  have e2 : (decide ((wrap64 (a0_1 - a0_0)) < 20)) = false := by simpa using c3
  try rw [e2]
  refine Opl.skp rfl (Opl.skp rfl (Opl.skp rfl (Opl.skp rfl (Opl.skp rfl (Opl.skp rfl (Opl.skp rfl (Opl.one rfl rfl (by simp only [go_sem]; rfl) (Opl.one rfl rfl (by simp only [go_sem]; rfl) (Opl.nil ?_)))))))))
  obtain rfl := Option.some.inj H
  refine Evr.ret1 Try.func316 rfl ?_
  show (.lit (.bool false) : PV) = _
  first | rfl | (simp only [go_sem]; rfl)
 rw [if_pos c3] at H
 have e1 : (decide ((wrap64 (a0_1 - a0_0)) < 20)) = true := by simpa using c3
 try rw [e1]
 refine Opl.one (v := .ptr i1 2) rfl rfl (by simp only [go_sem]; rfl) (Opl.ldb (v := .lit (.int .i64 a0_2)) h1 rfl T3 rfl rfl rfl rfl (Opl.one (v := .ptr i1 0) rfl rfl (by simp only [go_sem]; rfl) (Opl.ldb (v := .lit (.int .i64 a0_0)) h1 rfl T3 rfl rfl rfl rfl (Opl.one (v := .ptr i1 1) rfl rfl (by simp only [go_sem]; rfl) (Opl.ldb (v := .lit (.int .i64 a0_1)) h1 rfl T3 rfl rfl rfl rfl ?_)))))
 obtain ⟨t1405, h_t1405, H⟩ := Option.bind_eq_some_iff.1 H
 refine Opl.callc (impl_in.ev h_t1405) rfl rfl rfl rfl ⟨(.lit _), (.lit _), (.lit _), trivial⟩ (by decide) (Opl.one rfl rfl (by simp only [go_sem]; rfl) (Opl.one rfl rfl (by simp only [go_sem]; rfl) (Opl.nil ?_)))
 obtain rfl := Option.some.inj H
 refine Evr.ret1 Try.func316 rfl ?_
 show (.lit (.bool t1405) : PV) = _
 first | rfl | (simp only [go_sem]; rfl)
theorem impl_SystemValid_1.ev {a0_0 : Int} {a0_1 : Int} {a0_2 : Int} {r : Bool} (H : impl_SystemValid_1.f a0_0 a0_1 a0_2 = some r) : Ret Try.prog 315 [.agg [.lit (.int .i64 a0_0), .lit (.int .i64 a0_1), .lit (.int .i64 a0_2)]] fun v S => v = .lit (.bool r) := by
 unfold impl_SystemValid_1.f at H
 refine Ret.intro Try.func315 rfl (Nat.le_of_ble_eq_true rfl) rfl ?_
 rw [tm1]
 refine Evr.seq (Evr.regionN rfl (Opl.box (cs := [.lit (.int .i64 a0_0), .lit (.int .i64 a0_1), .lit (.int .i64 a0_2)]) rfl rfl rfl rfl ?_))
 rintro i1 S h1 u1 w1
 refine Opl.one rfl rfl (by simp only [go_sem]; rfl) (Opl.nil (Evr.seq (Evr.regionN rfl (Opl.ldb (v := .agg [.lit (.int .i64 a0_0), .lit (.int .i64 a0_1), .lit (.int .i64 a0_2)]) h1 rfl T243 rfl rfl rfl rfl ?_))))
 obtain ⟨t1436, h_t1436, H⟩ := Option.bind_eq_some_iff.1 H
 refine Opl.callc (impl_varOk.ev h_t1436) rfl rfl rfl rfl ⟨(.aggL ⟨(.lit _), (.lit _), (.lit _), trivial⟩), trivial⟩ (by decide) (Opl.one rfl rfl (by simp only [go_sem]; rfl) (Opl.one rfl rfl (by simp only [go_sem]; rfl) (Opl.nil ?_)))
 obtain rfl := Option.some.inj H
 refine Evr.ret1 Try.func315 rfl ?_
 show (.lit (.bool (!t1436)) : PV) = _
 first | rfl | (simp only [go_sem]; rfl)
theorem slices_IndexFunc_at_impl_SystemValid_1.ev {k : Nat} {l0 : List IVar} {v0 : PV} (hv0 : Sl cIVar l0 v0) {r : Int} (H : slices_IndexFunc_at_impl_SystemValid_1.f k l0 = some r) : Ret Try.prog 329 [v0, .lit (.func (.func 315) #[] #[])] fun v S => v = .lit (.int .i64 r) := by
 unfold slices_IndexFunc_at_impl_SystemValid_1.f at H
 refine Ret.intro Try.func329 rfl (Nat.le_of_ble_eq_true rfl) rfl ?_
 rw [tm2]
 refine Evr.seq (Evr.regionN rfl (Opl.one rfl rfl (by simp only [go_sem]; rfl) (Opl.nil (Evr.seq (Evr.seq (Evr.regionN rfl (Opl.one rfl rfl (by simp only [go_sem]; rfl) (Opl.len (xs := l0) (by exact hv0) K88 rfl rfl rfl rfl (Opl.one rfl rfl (by simp only [go_sem]; rfl) (Opl.nil (Evr.block ?_)))))))))))
 refine Evr.loop (Evr.rounds (n := k) (Inv := fun n tm S => n ≤ k ∧ ∃ (x8_1 : Int), slices_IndexFunc_at_impl_SystemValid_1.l0 n l0 (l0.length : Int) x8_1 = some r ∧ Has tm [(0, v0), (1, .lit (.func (.func 315) #[] #[])), (7, .lit (.int .i64 (l0.length : Int))), (8, .lit (.int .i64 x8_1))]) ?_ ?_ ?_)
 · exact ⟨Nat.le_refl _, _, H, ⟨rfl, rfl, rfl, rfl, trivial⟩⟩
 ·
  rintro tm S ⟨_, _, H, -⟩
  simp [slices_IndexFunc_at_impl_SystemValid_1.l0] at H
 ·
  rintro n1 ih1 tm S ⟨hle, x8_1, H, hh⟩
  simp only [slices_IndexFunc_at_impl_SystemValid_1.l0] at H
  rw [hh.eq]
  refine Evr.seq (Evr.regionN rfl (Opl.one rfl rfl (by simp only [go_sem]; rfl) (Opl.nil (Evr.seq ?_))))
  by_cases c1 : x8_1 < (l0.length : Int)
  case neg =>
   rw [if_neg c1] at H
   have e2 : (decide (x8_1 < (l0.length : Int))) = false := by simpa using c1
   try rw [e2]
   refine Evr.condF rfl (Evr.exit rfl (Evr.seq (Evr.regionN rfl (Opl.one rfl rfl (by simp only [go_sem]; rfl) (Opl.nil ?_)))))
   obtain rfl := Option.some.inj H
   refine Evr.ret1 Try.func329 rfl ?_
   show (.lit (.int .i64 (-1)) : PV) = _
   first | rfl | (simp only [go_sem]; rfl)
  rw [if_pos c1] at H
  have e1 : (decide (x8_1 < (l0.length : Int))) = true := by simpa using c1
  try rw [e1]
  refine Evr.condT rfl (Evr.skip (Evr.seq (Evr.block (Evr.seq (Evr.regionN rfl (Opl.one rfl rfl (by simp only [go_sem]; rfl) (Opl.one rfl rfl (by simp only [go_sem]; rfl) (Opl.nil (Evr.seq (Evr.regionN rfl (Opl.one rfl rfl (by simp only [go_sem]; rfl) (Opl.one rfl rfl (by simp only [go_sem]; rfl) (Opl.one rfl rfl (by simp only [go_sem]; rfl) ?_)))))))))))))
  obtain ⟨c2, H⟩ := peel H
  obtain ⟨c3, H⟩ := peel H
  refine Opl.idx (M := cIVar) (xs := l0) (j := x8_1) zIVar (by exact hv0) rfl (by first | omega | (simp only [List.length_set] at *; omega)) (by first | omega | (simp only [List.length_set] at *; omega)) K88 Z243 rfl rfl ?_
  rintro p1 q1 h1
  obtain rfl := cIVar_R (x := (rd_IVar l0 x8_1)) h1
  refine Opl.lda (.agg [.lit (.int .i64 ((rd_IVar l0 x8_1).f0)), .lit (.int .i64 ((rd_IVar l0 x8_1).f1)), .lit (.int .i64 ((rd_IVar l0 x8_1).f2))]) rfl T243 rfl rfl rfl rfl ?_
  obtain ⟨t1438, h_t1438, H⟩ := Option.bind_eq_some_iff.1 H
  refine Opl.callc (impl_SystemValid_1.ev h_t1438) rfl rfl rfl rfl ⟨(.aggL ⟨(.lit _), (.lit _), (.lit _), trivial⟩), trivial⟩ (by decide) (Opl.nil ?_)
  by_cases c4 : t1438 = true
  case neg =>
   rw [if_neg c4] at H
   obtain rfl : t1438 = false := by simpa using c4
   refine Evr.condF rfl (Evr.skip (Evr.inBlock (Evr.regionN rfl (Opl.one rfl rfl (by simp only [go_sem]; rfl) (Opl.one rfl rfl (by simp only [go_sem]; rfl) (Opl.nil ?_))))))
   exact ih1 _ (by omega) _ _ ⟨by omega, _, H, ⟨rfl, rfl, rfl, rfl, trivial⟩⟩
  rw [if_pos c4] at H
  obtain rfl : t1438 = true := by simpa using c4
  refine Evr.condT rfl (Evr.seq (Evr.regionN rfl (Opl.one rfl rfl (by simp only [go_sem]; rfl) (Opl.one rfl rfl (by simp only [go_sem]; rfl) (Opl.nil ?_)))))
  obtain rfl := Option.some.inj H
  refine Evr.ret1 Try.func329 rfl ?_
  show (.lit (.int .i64 x8_1) : PV) = _
  first | rfl | (simp only [go_sem]; rfl)
theorem slices_ContainsFunc_at_impl_SystemValid_1.ev {k : Nat} {l0 : List IVar} {v0 : PV} (hv0 : Sl cIVar l0 v0) {r : Bool} (H : slices_ContainsFunc_at_impl_SystemValid_1.f k l0 = some r) : Ret Try.prog 314 [v0, .lit (.func (.func 315) #[] #[])] fun v S => v = .lit (.bool r) := by
 unfold slices_ContainsFunc_at_impl_SystemValid_1.f at H
 refine Ret.intro Try.func314 rfl (Nat.le_of_ble_eq_true rfl) rfl ?_
 rw [tm2]
 refine Evr.seq (Evr.regionN rfl (Opl.one rfl rfl (by simp only [go_sem]; rfl) (Opl.nil (Evr.seq (Evr.regionN rfl (Opl.one rfl rfl (by simp only [go_sem]; rfl) (Opl.one rfl rfl (by simp only [go_sem]; rfl) ?_)))))))
 obtain ⟨t1439, h_t1439, H⟩ := Option.bind_eq_some_iff.1 H
 refine Opl.callc (slices_IndexFunc_at_impl_SystemValid_1.ev hv0 h_t1439) rfl rfl rfl rfl ⟨hv0.plain, (.lit _), trivial⟩ (by decide) (Opl.one rfl rfl (by simp only [go_sem]; rfl) (Opl.one rfl rfl (by simp only [go_sem]; rfl) (Opl.nil ?_)))
 obtain rfl := Option.some.inj H
 refine Evr.ret1 Try.func314 rfl ?_
 show (.lit (.bool (decide (t1439 ≥ 0))) : PV) = _
 first | rfl | (simp only [go_sem]; rfl)
theorem impl_parts.ev {k : Nat} {a0 : Int} {r : Int × Int × Int} (H : impl_parts.f k a0 = some r) : Ret Try.prog 331 [.lit (.int .i64 a0)] fun v S => Out (fun q => ∃ q1 q2 q3, q = .tup [q1, q2, q3] ∧ q1 = .lit (.int .i64 r.1) ∧ q2 = .lit (.int .i64 r.2.1) ∧ q3 = .lit (.int .i64 r.2.2)) v S := by
 unfold impl_parts.f at H
 refine Ret.intro Try.func331 rfl (Nat.le_of_ble_eq_true rfl) rfl ?_
 rw [tm1]
 refine Evr.seq (Evr.regionN rfl (Opl.one rfl rfl (by simp only [go_sem]; rfl) (Opl.one rfl rfl (by simp only [go_sem]; rfl) (Opl.one rfl rfl (by simp only [go_sem]; rfl) (Opl.nil (Evr.seq (Evr.seq (Evr.regionN rfl (Opl.one rfl rfl (by simp only [go_sem]; rfl) (Opl.nil (Evr.block (Evr.seq (Evr.seq (Evr.regionN rfl (Opl.one rfl rfl (by simp only [go_sem]; rfl) (Opl.one rfl rfl (by simp only [go_sem]; rfl) (Opl.nil ?_)))))))))))))))))
 refine Evr.join (fun tm S => ∃ (kq1 : Nat) (x6_1 : Bool), impl_parts.j0 kq1 a0 x6_1 = some r ∧ Has tm [(5, .lit (.int .i64 a0)), (6, .lit (.bool x6_1))]) ?_ fun hk1 => ?_
 ·
  rintro tm S ⟨kq1, x6_1, H, hh⟩
  rw [hh.eq]
  obtain _ | k1 := kq1
  · simp [impl_parts.j0] at H
  simp only [impl_parts.j0] at H
  by_cases c1 : x6_1 = true
  case pos =>
   rw [if_pos c1] at H
   obtain rfl : x6_1 = true := by simpa using c1
   refine Evr.condT rfl (Evr.seq (Evr.regionN rfl (Opl.one rfl rfl (by simp only [go_sem]; rfl) (Opl.one rfl rfl (by simp only [go_sem]; rfl) (Opl.one rfl rfl (by simp only [go_sem]; rfl) (Opl.nil ?_))))))
   obtain rfl := Option.some.inj H
   refine Evr.ret3 Try.func331 rfl ?_
   show Out _ (.tup [.lit (.int .i64 2), .lit (.int .i64 1), .lit (.int .i64 1)]) _
   exact .tup3 .lit .lit .lit
  rw [if_neg c1] at H
  obtain rfl : x6_1 = false := by simpa using c1
  refine Evr.condF rfl (Evr.seq (Evr.seq (Evr.regionN rfl (Opl.one rfl rfl (by simp only [go_sem]; rfl) (Opl.one rfl rfl (by simp only [go_sem]; rfl) (Opl.nil ?_))))))
  refine Evr.join (fun tm S => ∃ (kq2 : Nat) (x10_1 : Bool), impl_parts.j1 kq2 a0 x10_1 = some r ∧ Has tm [(5, .lit (.int .i64 a0)), (10, .lit (.bool x10_1))]) ?_ fun hk2 => ?_
  ·
   rintro tm S ⟨kq2, x10_1, H, hh⟩
   rw [hh.eq]
   obtain _ | k2 := kq2
   · simp [impl_parts.j1] at H
   simp only [impl_parts.j1] at H
   by_cases c2 : x10_1 = true
   case pos =>
    rw [if_pos c2] at H
    obtain rfl : x10_1 = true := by simpa using c2
    refine Evr.condT rfl (Evr.seq (Evr.regionN rfl (Opl.one rfl rfl (by simp only [go_sem]; rfl) (Opl.one rfl rfl (by simp only [go_sem]; rfl) (Opl.one rfl rfl (by simp only [go_sem]; rfl) (Opl.nil ?_))))))
    obtain rfl := Option.some.inj H
    refine Evr.ret3 Try.func331 rfl ?_
    show Out _ (.tup [.lit (.int .i64 2), .lit (.int .i64 1), .lit (.int .i64 2)]) _
    exact .tup3 .lit .lit .lit
   rw [if_neg c2] at H
   obtain rfl : x10_1 = false := by simpa using c2
   refine Evr.condF rfl (Evr.seq (Evr.regionN rfl (Opl.one rfl rfl (by simp only [go_sem]; rfl) (Opl.one rfl rfl (by simp only [go_sem]; rfl) (Opl.nil ?_)))))
   by_cases c3 : a0 = 7
   case pos =>
    rw [if_pos c3] at H
    have e1 : (a0 == 7) = true := by simpa using c3
    try rw [e1]
    refine Evr.condT rfl (Evr.seq (Evr.regionN rfl (Opl.one rfl rfl (by simp only [go_sem]; rfl) (Opl.one rfl rfl (by simp only [go_sem]; rfl) (Opl.one rfl rfl (by simp only [go_sem]; rfl) (Opl.nil ?_))))))
    obtain rfl := Option.some.inj H
    refine Evr.ret3 Try.func331 rfl ?_
    show Out _ (.tup [.lit (.int .i64 1), .lit (.int .i64 2), .lit (.int .i64 2)]) _
    exact .tup3 .lit .lit .lit
   rw [if_neg c3] at H
   have e2 : (a0 == 7) = false := by simpa using c3
   try rw [e2]
   refine Evr.condF rfl (Evr.seq (Evr.seq (Evr.regionN rfl (Opl.one rfl rfl (by simp only [go_sem]; rfl) (Opl.one rfl rfl (by simp only [go_sem]; rfl) (Opl.nil ?_))))))
   refine Evr.join (fun tm S => ∃ (kq3 : Nat) (x15_1 : Bool), impl_parts.j2 kq3 x15_1 = some r ∧ Has tm [(15, .lit (.bool x15_1))]) ?_ fun hk3 => ?_
   ·
    rintro tm S ⟨kq3, x15_1, H, hh⟩
    rw [hh.eq]
    obtain _ | k3 := kq3
    · simp [impl_parts.j2] at H
    simp only [impl_parts.j2] at H
    by_cases c4 : x15_1 = true
    case pos =>
     rw [if_pos c4] at H
     obtain rfl : x15_1 = true := by simpa using c4
     refine Evr.condT rfl (Evr.seq (Evr.regionN rfl (Opl.one rfl rfl (by simp only [go_sem]; rfl) (Opl.one rfl rfl (by simp only [go_sem]; rfl) (Opl.one rfl rfl (by simp only [go_sem]; rfl) (Opl.nil ?_))))))
     obtain rfl := Option.some.inj H
     refine Evr.ret3 Try.func331 rfl ?_
     show Out _ (.tup [.lit (.int .i64 2), .lit (.int .i64 2), .lit (.int .i64 2)]) _
     exact .tup3 .lit .lit .lit
    rw [if_neg c4] at H
    obtain rfl : x15_1 = false := by simpa using c4
    refine Evr.condF rfl (Evr.skip (Evr.inBlock (Evr.seq (Evr.regionN rfl (Opl.one rfl rfl (by simp only [go_sem]; rfl) (Opl.one rfl rfl (by simp only [go_sem]; rfl) (Opl.one rfl rfl (by simp only [go_sem]; rfl) (Opl.nil ?_))))))))
    obtain rfl := Option.some.inj H
    refine Evr.ret3 Try.func331 rfl ?_
    show Out _ (.tup [.lit (.int .i64 0), .lit (.int .i64 0), .lit (.int .i64 1)]) _
    exact .tup3 .lit .lit .lit
   ·
    by_cases c5 : a0 = 8
    case pos =>
     rw [if_pos c5] at H
     have e3 : (a0 == 8) = true := by simpa using c5
     try rw [e3]
     refine Evr.condT rfl (Evr.skip ?_)
     exact hk3 _ _ ⟨_, _, H, ⟨(by first | rfl | (show PV.lit (.bool _) = _; congr 2; simp_all)), trivial⟩⟩
    rw [if_neg c5] at H
    have e4 : (a0 == 8) = false := by simpa using c5
    try rw [e4]
    refine Evr.condF rfl (Evr.regionN rfl (Opl.one rfl rfl (by simp only [go_sem]; rfl) (Opl.one rfl rfl (by simp only [go_sem]; rfl) (Opl.nil ?_))))
    exact hk3 _ _ ⟨_, _, H, ⟨(by first | rfl | (show PV.lit (.bool _) = _; congr 2; simp_all)), trivial⟩⟩
  ·
   by_cases c6 : a0 = 5
   case pos =>
    rw [if_pos c6] at H
    have e5 : (a0 == 5) = true := by simpa using c6
    try rw [e5]
    refine Evr.condT rfl (Evr.skip ?_)
    exact hk2 _ _ ⟨_, _, H, ⟨rfl, (by first | rfl | (show PV.lit (.bool _) = _; congr 2; simp_all)), trivial⟩⟩
   rw [if_neg c6] at H
   have e6 : (a0 == 5) = false := by simpa using c6
   try rw [e6]
   refine Evr.condF rfl (Evr.regionN rfl (Opl.one rfl rfl (by simp only [go_sem]; rfl) (Opl.one rfl rfl (by simp only [go_sem]; rfl) (Opl.nil ?_))))
   exact hk2 _ _ ⟨_, _, H, ⟨rfl, (by first | rfl | (show PV.lit (.bool _) = _; congr 2; simp_all)), trivial⟩⟩
 ·
  by_cases c7 : a0 = 2
  case pos =>
   rw [if_pos c7] at H
   have e7 : (a0 == 2) = true := by simpa using c7
   try rw [e7]
   refine Evr.condT rfl (Evr.skip ?_)
   exact hk1 _ _ ⟨_, _, H, ⟨rfl, (by first | rfl | (show PV.lit (.bool _) = _; congr 2; simp_all)), trivial⟩⟩
  rw [if_neg c7] at H
  have e8 : (a0 == 2) = false := by simpa using c7
  try rw [e8]
  refine Evr.condF rfl (Evr.seq (Evr.regionN rfl (Opl.one rfl rfl (by simp only [go_sem]; rfl) (Opl.one rfl rfl (by simp only [go_sem]; rfl) (Opl.nil ?_)))))
  refine Evr.join (fun tm S => ∃ (kq4 : Nat) (x6_2 : Bool), impl_parts.j0 kq4 a0 x6_2 = some r ∧ Has tm [(5, .lit (.int .i64 a0)), (6, .lit (.bool x6_2))]) ?_ fun hk4 => ?_
  ·
   rintro tm S ⟨kq4, x6_2, H, hh⟩
   rw [hh.eq]
   exact hk1 _ _ ⟨_, _, H, ⟨rfl, (by first | rfl | (show PV.lit (.bool _) = _; congr 2; simp_all)), trivial⟩⟩
  ·
   by_cases c8 : a0 = 3
   case pos =>
    rw [if_pos c8] at H
    have e9 : (a0 == 3) = true := by simpa using c8
    try rw [e9]
    refine Evr.condT rfl (Evr.skip ?_)
    exact hk4 _ _ ⟨_, _, H, ⟨rfl, (by first | rfl | (show PV.lit (.bool _) = _; congr 2; simp_all)), trivial⟩⟩
   rw [if_neg c8] at H
   have e10 : (a0 == 3) = false := by simpa using c8
   try rw [e10]
   refine Evr.condF rfl (Evr.regionN rfl (Opl.one rfl rfl (by simp only [go_sem]; rfl) (Opl.one rfl rfl (by simp only [go_sem]; rfl) (Opl.nil ?_))))
   exact hk4 _ _ ⟨_, _, H, ⟨rfl, (by first | rfl | (show PV.lit (.bool _) = _; congr 2; simp_all)), trivial⟩⟩
theorem impl_kindsOf.ev {k : Nat} {l0 : List ITerm} {v0 : PV} (hv0 : Sl cITerm l0 v0) {a1 : Int} {r : (List Int)} (H : impl_kindsOf.f k l0 a1 = some r) : Ret Try.prog 321 [v0, .lit (.int .i64 a1)] fun v S => Vec (cInt .i64) r v S ∧ (r = [] → v = .lit (.slice none 0 0)) := by
 unfold impl_kindsOf.f at H
 refine Ret.intro Try.func321 rfl (Nat.le_of_ble_eq_true rfl) rfl ?_
 rw [tm2]
 refine Evr.seq (Evr.regionN rfl (Opl.one rfl rfl (by simp only [go_sem]; rfl) (Opl.nil (Evr.seq (Evr.seq ?_)))))
 refine Evr.join (fun tm S => ∃ (kq1 : Nat) (x20_1 : Bool), impl_kindsOf.j0 kq1 l0 a1 x20_1 = some r ∧ Has tm [(0, v0), (1, .lit (.int .i64 a1)), (20, .lit (.bool x20_1))]) ?_ fun hk1 => ?_
 ·
  rintro tm S ⟨kq1, x20_1, H, hh⟩
  rw [hh.eq]
  obtain _ | k1 := kq1
  · simp [impl_kindsOf.j0] at H
  simp only [impl_kindsOf.j0] at H
  by_cases c1 : x20_1 = true
  case pos =>
   rw [if_pos c1] at H
   obtain rfl : x20_1 = true := by simpa using c1
   refine Evr.condT rfl (Evr.seq (Evr.regionN rfl (Opl.one rfl rfl (by simp only [go_sem]; rfl) (Opl.nil ?_))))
   obtain rfl := Option.some.inj H
   refine Evr.ret1 Try.func321 rfl ?_
   show Vec _ _ (.lit (.slice none 0 0)) _ ∧ _
   exact ⟨.nil, by intro e; first | rfl | (have := congrArg List.length e; simp only [List.length_nil] at this; omega)⟩
  rw [if_neg c1] at H
  obtain rfl : x20_1 = false := by simpa using c1
  refine Evr.condF rfl (Evr.skip (Evr.seq (Evr.regionN rfl (Opl.one rfl rfl (by simp only [go_sem]; rfl) (Opl.len (xs := l0) (by exact hv0) K176 rfl rfl rfl rfl ?_)))))
  obtain ⟨c2, H⟩ := peel H
  obtain ⟨c3, H⟩ := peel H
  refine Opl.make0 (M := (cInt .i64)) (m := (l0.length : Int)) rfl rfl K22 T3 rfl rfl (by omega) (by show ((l0.length : Int)).toNat * 8 ≤ 281474976710656; omega) (by omega) rfl rfl rfl ?_
  rintro pv2 S h1 u1 w1
  refine Opl.one rfl rfl (by simp only [go_sem]; rfl) (Opl.nil (Evr.seq (Evr.seq (Evr.regionN rfl (Opl.one rfl rfl (by simp only [go_sem]; rfl) (Opl.len (xs := l0) (by exact hv0) K176 rfl rfl rfl rfl (Opl.one rfl rfl (by simp only [go_sem]; rfl) (Opl.nil (Evr.block ?_)))))))))
  refine Evr.loop (Evr.rounds (n := k1) (Inv := fun n tm S => n ≤ k1 ∧ ∃ (x5_1 : List Int) (x26_1 : Int) (pv3 : PV), impl_kindsOf.l0 n a1 x5_1 l0 (l0.length : Int) x26_1 = some r ∧ Has tm [(1, .lit (.int .i64 a1)), (5, pv3), (24, v0), (25, .lit (.int .i64 (l0.length : Int))), (26, .lit (.int .i64 x26_1))] ∧ Vec (cInt .i64) x5_1 pv3 S) ?_ ?_ ?_)
  · exact ⟨Nat.le_refl _, _, _, _, H, ⟨rfl, rfl, rfl, rfl, rfl, trivial⟩, h1⟩
  ·
   rintro tm S ⟨_, _, _, _, H, -⟩
   simp [impl_kindsOf.l0] at H
  ·
   rintro n1 ih1 tm S ⟨hle, x5_1, x26_1, pv3, H, hh, h2⟩
   simp only [impl_kindsOf.l0] at H
   rw [hh.eq]
   refine Evr.seq (Evr.regionN rfl (Opl.one rfl rfl (by simp only [go_sem]; rfl) (Opl.nil (Evr.seq ?_))))
   by_cases c4 : x26_1 < (l0.length : Int)
   case neg =>
    rw [if_neg c4] at H
    have e20 : (decide (x26_1 < (l0.length : Int))) = false := by simpa using c4
    try rw [e20]
    refine Evr.condF rfl (Evr.exit rfl (Evr.seq (Evr.regionN rfl (Opl.one rfl rfl (by simp only [go_sem]; rfl) (Opl.one rfl rfl (by simp only [go_sem]; rfl) (Opl.nil ?_))))))
    obtain ⟨c26, H⟩ := peel H
    obtain rfl := Option.some.inj H
    refine Evr.ret1 Try.func321 rfl ?_
    show Vec _ _ pv3 _ ∧ _
    exact ⟨h2, by intro e; first | rfl | (have := congrArg List.length e; simp only [List.length_nil] at this; omega)⟩
   rw [if_pos c4] at H
   have e1 : (decide (x26_1 < (l0.length : Int))) = true := by simpa using c4
   try rw [e1]
   refine Evr.condT rfl (Evr.skip (Evr.seq (Evr.block (Evr.seq (Evr.regionN rfl (Opl.one rfl rfl (by simp only [go_sem]; rfl) ?_))))))
   obtain ⟨c5, H⟩ := peel H
   obtain ⟨c6, H⟩ := peel H
   refine Opl.idx (M := cITerm) (xs := l0) (j := x26_1) zITerm (by exact hv0) rfl (by first | omega | (simp only [List.length_set] at *; omega)) (by first | omega | (simp only [List.length_set] at *; omega)) K176 Z249 rfl rfl ?_
   rintro p1 q1 h3
   obtain rfl := cITerm_R (x := (rd_ITerm l0 x26_1)) h3
   refine Opl.lda (.agg [.lit (.int .i64 ((rd_ITerm l0 x26_1).f0)), .lit (.int .i64 ((rd_ITerm l0 x26_1).f1)), .lit (.int .i64 ((rd_ITerm l0 x26_1).f2)), .lit (.int .i64 ((rd_ITerm l0 x26_1).f3))]) rfl T249 rfl rfl rfl rfl (Opl.alloc T249 rfl rfl rfl ?_)
   rintro i1 S h4 u2 w2
   have ap1 := w2.vec h2
   have h5 := u2.vec h2 ap1
   refine Opl.one rfl rfl (by simp only [go_sem]; rfl) (Opl.stb (vs := [.lit (.int .i64 ((rd_ITerm l0 x26_1).f0)), .lit (.int .i64 ((rd_ITerm l0 x26_1).f1)), .lit (.int .i64 ((rd_ITerm l0 x26_1).f2)), .lit (.int .i64 ((rd_ITerm l0 x26_1).f3))]) h4 rfl rfl Z249 rfl (Nat.le_of_ble_eq_true rfl) rfl rfl rfl rfl ?_)
   rintro S (h6 : Box (.ptr i1 0) [.lit (.int .i64 ((rd_ITerm l0 x26_1).f0)), .lit (.int .i64 ((rd_ITerm l0 x26_1).f1)), .lit (.int .i64 ((rd_ITerm l0 x26_1).f2)), .lit (.int .i64 ((rd_ITerm l0 x26_1).f3))] _) u3
   have h7 := u3.vec h5 ap1
   refine Opl.nil (Evr.seq (Evr.regionN rfl (Opl.one (v := .ptr i1 0) rfl rfl (by simp only [go_sem]; rfl) (Opl.ldb (v := .lit (.int .i64 ((rd_ITerm l0 x26_1).f0))) h6 rfl T3 rfl rfl rfl rfl ?_))))
   obtain ⟨bt1413, h_bt1413, H⟩ := Option.bind_eq_some_iff.1 H
   refine Opl.call (impl_parts.ev h_bt1413) rfl rfl rfl rfl ⟨(.lit _), trivial⟩ (by decide) ?_
   rintro _ ⟨_, _, _, rfl, rfl, rfl, rfl⟩
   refine Opl.one rfl rfl (by simp only [go_sem]; rfl) (Opl.one (v := .lit (.int .i64 bt1413.1)) rfl rfl (by simp only [go_sem]; rfl) (Opl.one (v := .lit (.int .i64 bt1413.2.1)) rfl rfl (by simp only [go_sem]; rfl) (Opl.one (v := .lit (.int .i64 bt1413.2.2)) rfl rfl (by simp only [go_sem]; rfl) (Opl.one rfl rfl (by simp only [go_sem]; rfl) (Opl.one rfl rfl (by simp only [go_sem]; rfl) (Opl.one rfl rfl (by simp only [go_sem]; rfl) (Opl.nil (Evr.seq (Evr.regionN rfl (Opl.one (v := .ptr i1 0) rfl rfl (by simp only [go_sem]; rfl) (Opl.ldb (v := .lit (.int .i64 ((rd_ITerm l0 x26_1).f0))) h6 rfl T3 rfl rfl rfl rfl ?_)))))))))))
   obtain ⟨t1416, h_t1416, H⟩ := Option.bind_eq_some_iff.1 H
   refine Opl.callc (impl_in.ev h_t1416) rfl rfl rfl rfl ⟨(.lit _), (.lit _), (.lit _), trivial⟩ (by decide) (Opl.one rfl rfl (by simp only [go_sem]; rfl) (Opl.nil (Evr.seq (Evr.block (Evr.seq (Evr.regionN rfl (Opl.one (v := .ptr i1 0) rfl rfl (by simp only [go_sem]; rfl) (Opl.ldb (v := .lit (.int .i64 ((rd_ITerm l0 x26_1).f0))) h6 rfl T3 rfl rfl rfl rfl (Opl.one rfl rfl (by simp only [go_sem]; rfl) (Opl.one rfl rfl (by simp only [go_sem]; rfl) (Opl.nil ?_)))))))))))
   refine Evr.join (fun tm S => ∃ (kq2 : Nat) (x11_1 : Bool) (pv5 : PV), impl_kindsOf.j2 kq2 a1 x5_1 bt1413.2.2 x11_1 l0 (l0.length : Int) x26_1 = some r ∧ kq2 ≤ n1 ∧ Has tm [(1, .lit (.int .i64 a1)), (5, pv5), (10, .lit (.int .i64 bt1413.2.2)), (11, .lit (.bool x11_1)), (24, v0), (25, .lit (.int .i64 (l0.length : Int))), (26, .lit (.int .i64 x26_1))] ∧ Vec (cInt .i64) x5_1 pv5 S) ?_ fun hk2 => ?_
   ·
    rintro tm S ⟨kq2, x11_1, pv5, H, hle, hh, h9⟩
    rw [hh.eq]
    refine Evr.inBlock (Evr.seq (Evr.seq (Evr.regionN rfl (Opl.one rfl rfl (by simp only [go_sem]; rfl) (Opl.one rfl rfl (by simp only [go_sem]; rfl) (Opl.nil ?_))))))
    obtain _ | k2 := kq2
    · simp [impl_kindsOf.j2] at H
    simp only [impl_kindsOf.j2] at H
    by_cases c7 : x11_1 = true
    case neg =>
     rw [if_neg c7] at H
     have e3 : (!x11_1) = true := by simpa using c7
     try rw [e3]
     refine Evr.condT rfl (Evr.seq (Evr.regionN rfl (Opl.one rfl rfl (by simp only [go_sem]; rfl) (Opl.nil ?_))))
     obtain rfl := Option.some.inj H
     refine Evr.ret1 Try.func321 rfl ?_
     show Vec _ _ (.lit (.slice none 0 0)) _ ∧ _
     exact ⟨.nil, by intro e; first | rfl | (have := congrArg List.length e; simp only [List.length_nil] at this; omega)⟩
    rw [if_pos c7] at H
    have e2 : (!x11_1) = false := by simpa using c7
    try rw [e2]
    refine Evr.condF rfl (Evr.skip (Evr.regionN rfl (Opl.one rfl rfl (by simp only [go_sem]; rfl) (Opl.one rfl rfl (by simp only [go_sem]; rfl) (Opl.lits (M := (cInt .i64)) (ys := [bt1413.2.2]) [.tmp 128] K22 T3 rfl rfl rfl (by exact ⟨rfl, trivial⟩) rfl (by decide) rfl rfl rfl ?_)))))
    rintro pv6 S h10 u4 w4
    have ap2 := w4.vec h9
    have h11 := u4.vec h9 ap2
    obtain ⟨c8, H⟩ := peel H
    refine Opl.app (M := (cInt .i64)) (xs := x5_1) (ys := [bt1413.2.2]) (v := pv5) h11 (.vec h10) (oInt .i64) rfl rfl K22 T3 rfl rfl (by (try simp only [List.length_cons, List.length_nil]); omega) (by show (_ + _) * 8 ≤ 140737488355328; (try simp only [List.length_cons, List.length_nil]); omega) rfl rfl rfl rfl rfl ?_
    rintro pv7 S h12 u5 w5
    have ap3 := w5.vec h10
    have h13 := u5.vec h10 ap2.symm
    refine Opl.one rfl rfl (by simp only [go_sem]; rfl) (Opl.nil (Evr.inBlock (Evr.regionN rfl (Opl.one rfl rfl (by simp only [go_sem]; rfl) (Opl.one rfl rfl (by simp only [go_sem]; rfl) (Opl.nil ?_))))))
    exact ih1 _ (by omega) _ _ ⟨by omega, _, _, _, H, ⟨rfl, rfl, rfl, rfl, rfl, trivial⟩, h12⟩
   ·
    by_cases c9 : ((rd_ITerm l0 x26_1).f0) = 0
    case pos =>
     rw [if_pos c9] at H
     have e4 : (((rd_ITerm l0 x26_1).f0) == 0) = true := by simpa using c9
     try rw [e4]
     refine Evr.condT rfl ?_
     refine Evr.join (fun tm S => ∃ (kq3 : Nat) (x11_2 : Bool) (pv8 : PV), impl_kindsOf.j2 kq3 a1 x5_1 bt1413.2.2 x11_2 l0 (l0.length : Int) x26_1 = some r ∧ kq3 ≤ n1 ∧ Has tm [(1, .lit (.int .i64 a1)), (5, pv8), (10, .lit (.int .i64 bt1413.2.2)), (11, .lit (.bool x11_2)), (24, v0), (25, .lit (.int .i64 (l0.length : Int))), (26, .lit (.int .i64 x26_1))] ∧ Vec (cInt .i64) x5_1 pv8 S) ?_ fun hk3 => ?_
     ·
      rintro tm S ⟨kq3, x11_2, pv8, H, hle, hh, h14⟩
      rw [hh.eq]
      exact hk2 _ _ ⟨_, _, _, H, by omega, ⟨rfl, rfl, rfl, (by first | rfl | (show PV.lit (.bool _) = _; congr 2; simp_all)), rfl, rfl, rfl, trivial⟩, h14⟩
     ·
      refine Evr.regionN rfl (Opl.one (v := .ptr i1 1) rfl rfl (by simp only [go_sem]; rfl) (Opl.ldb (v := .lit (.int .i64 ((rd_ITerm l0 x26_1).f1))) h6 rfl T3 rfl rfl rfl rfl ?_))
      obtain ⟨t1417, h_t1417, H⟩ := Option.bind_eq_some_iff.1 H
      refine Opl.callc (impl_in.ev h_t1417) rfl rfl rfl rfl ⟨(.lit _), (.lit _), (.lit _), trivial⟩ (by decide) (Opl.one rfl rfl (by simp only [go_sem]; rfl) ?_)
      by_cases c10 : t1417 = true
      case neg =>
       rw [if_neg c10] at H
       obtain rfl : t1417 = false := by simpa using c10
       refine Opl.skp rfl (Opl.skp rfl (Opl.skp rfl (Opl.one rfl rfl (by simp only [go_sem]; rfl) (Opl.one rfl rfl (by simp only [go_sem]; rfl) (Opl.skp rfl (Opl.skp rfl (Opl.skp rfl (Opl.one rfl rfl (by simp only [go_sem]; rfl) (Opl.one rfl rfl (by simp only [go_sem]; rfl) (Opl.nil ?_))))))))))
       exact hk3 _ _ ⟨_, _, _, H, by omega, ⟨rfl, rfl, rfl, (by first | rfl | (show PV.lit (.bool _) = _; congr 2; simp_all)), rfl, rfl, rfl, trivial⟩, h7⟩
      rw [if_pos c10] at H
      obtain rfl : t1417 = true := by simpa using c10
      refine Opl.one (v := .ptr i1 2) rfl rfl (by simp only [go_sem]; rfl) (Opl.ldb (v := .lit (.int .i64 ((rd_ITerm l0 x26_1).f2))) h6 rfl T3 rfl rfl rfl rfl (Opl.one rfl rfl (by simp only [go_sem]; rfl) (Opl.one rfl rfl (by simp only [go_sem]; rfl) (Opl.one rfl rfl (by simp only [go_sem]; rfl) ?_))))
      by_cases c11 : ((rd_ITerm l0 x26_1).f2) = 0
      case neg =>
       rw [if_neg c11] at H
       have e6 : (((rd_ITerm l0 x26_1).f2) == 0) = false := by simpa using c11
       try rw [e6]
       refine Opl.skp rfl (Opl.skp rfl (Opl.skp rfl (Opl.one rfl rfl (by simp only [go_sem]; rfl) (Opl.one rfl rfl (by simp only [go_sem]; rfl) (Opl.nil ?_)))))
       exact hk3 _ _ ⟨_, _, _, H, by omega, ⟨rfl, rfl, rfl, (by first | rfl | (show PV.lit (.bool _) = _; congr 2; simp_all)), rfl, rfl, rfl, trivial⟩, h7⟩
      rw [if_pos c11] at H
      have e5 : (((rd_ITerm l0 x26_1).f2) == 0) = true := by simpa using c11
      try rw [e5]
      refine Opl.one (v := .ptr i1 3) rfl rfl (by simp only [go_sem]; rfl) (Opl.ldb (v := .lit (.int .i64 ((rd_ITerm l0 x26_1).f3))) h6 rfl T3 rfl rfl rfl rfl (Opl.one rfl rfl (by simp only [go_sem]; rfl) (Opl.one rfl rfl (by simp only [go_sem]; rfl) (Opl.one rfl rfl (by simp only [go_sem]; rfl) (Opl.nil ?_)))))
      exact hk3 _ _ ⟨_, _, _, H, by omega, ⟨rfl, rfl, rfl, (by first | rfl | (show PV.lit (.bool _) = _; congr 2; simp_all)), rfl, rfl, rfl, trivial⟩, h7⟩
    rw [if_neg c9] at H
    have e7 : (((rd_ITerm l0 x26_1).f0) == 0) = false := by simpa using c9
    try rw [e7]
    refine Evr.condF rfl (Evr.seq (Evr.regionN rfl (Opl.one (v := .ptr i1 0) rfl rfl (by simp only [go_sem]; rfl) (Opl.ldb (v := .lit (.int .i64 ((rd_ITerm l0 x26_1).f0))) h6 rfl T3 rfl rfl rfl rfl (Opl.one rfl rfl (by simp only [go_sem]; rfl) (Opl.one rfl rfl (by simp only [go_sem]; rfl) (Opl.nil ?_)))))))
    refine Evr.join (fun tm S => ∃ (kq4 : Nat) (x11_3 : Bool) (pv9 : PV), impl_kindsOf.j2 kq4 a1 x5_1 bt1413.2.2 x11_3 l0 (l0.length : Int) x26_1 = some r ∧ kq4 ≤ n1 ∧ Has tm [(1, .lit (.int .i64 a1)), (5, pv9), (10, .lit (.int .i64 bt1413.2.2)), (11, .lit (.bool x11_3)), (24, v0), (25, .lit (.int .i64 (l0.length : Int))), (26, .lit (.int .i64 x26_1))] ∧ Vec (cInt .i64) x5_1 pv9 S) ?_ fun hk4 => ?_
    ·
     rintro tm S ⟨kq4, x11_3, pv9, H, hle, hh, h15⟩
     rw [hh.eq]
     exact hk2 _ _ ⟨_, _, _, H, by omega, ⟨rfl, rfl, rfl, (by first | rfl | (show PV.lit (.bool _) = _; congr 2; simp_all)), rfl, rfl, rfl, trivial⟩, h15⟩
    ·
     by_cases c12 : ((rd_ITerm l0 x26_1).f0) = 1
     case pos =>
      rw [if_pos c12] at H
      have e8 : (((rd_ITerm l0 x26_1).f0) == 1) = true := by simpa using c12
      try rw [e8]
      refine Evr.condT rfl ?_
      refine Evr.join (fun tm S => ∃ (kq5 : Nat) (x11_4 : Bool) (pv10 : PV), impl_kindsOf.j2 kq5 a1 x5_1 bt1413.2.2 x11_4 l0 (l0.length : Int) x26_1 = some r ∧ kq5 ≤ n1 ∧ Has tm [(1, .lit (.int .i64 a1)), (5, pv10), (10, .lit (.int .i64 bt1413.2.2)), (11, .lit (.bool x11_4)), (24, v0), (25, .lit (.int .i64 (l0.length : Int))), (26, .lit (.int .i64 x26_1))] ∧ Vec (cInt .i64) x5_1 pv10 S) ?_ fun hk5 => ?_
      ·
       rintro tm S ⟨kq5, x11_4, pv10, H, hle, hh, h16⟩
       rw [hh.eq]
       exact hk4 _ _ ⟨_, _, _, H, by omega, ⟨rfl, rfl, rfl, (by first | rfl | (show PV.lit (.bool _) = _; congr 2; simp_all)), rfl, rfl, rfl, trivial⟩, h16⟩
      ·
       refine Evr.regionN rfl (Opl.one (v := .ptr i1 1) rfl rfl (by simp only [go_sem]; rfl) (Opl.ldb (v := .lit (.int .i64 ((rd_ITerm l0 x26_1).f1))) h6 rfl T3 rfl rfl rfl rfl (Opl.one rfl rfl (by simp only [go_sem]; rfl) (Opl.one rfl rfl (by simp only [go_sem]; rfl) ?_))))
       obtain ⟨t1418, h_t1418, H⟩ := Option.bind_eq_some_iff.1 H
       refine Opl.callc (impl_in.ev h_t1418) rfl rfl rfl rfl ⟨(.lit _), (.lit _), (.lit _), trivial⟩ (by decide) (Opl.one rfl rfl (by simp only [go_sem]; rfl) ?_)
       by_cases c13 : t1418 = true
       case neg =>
        rw [if_neg c13] at H
        obtain rfl : t1418 = false := by simpa using c13
        refine Opl.skp rfl (Opl.skp rfl (Opl.skp rfl (Opl.one rfl rfl (by simp only [go_sem]; rfl) (Opl.one rfl rfl (by simp only [go_sem]; rfl) (Opl.skp rfl (Opl.skp rfl (Opl.skp rfl (Opl.one rfl rfl (by simp only [go_sem]; rfl) (Opl.one rfl rfl (by simp only [go_sem]; rfl) (Opl.nil ?_))))))))))
        exact hk5 _ _ ⟨_, _, _, H, by omega, ⟨rfl, rfl, rfl, (by first | rfl | (show PV.lit (.bool _) = _; congr 2; simp_all)), rfl, rfl, rfl, trivial⟩, h7⟩
       rw [if_pos c13] at H
       obtain rfl : t1418 = true := by simpa using c13
       refine Opl.one (v := .ptr i1 2) rfl rfl (by simp only [go_sem]; rfl) (Opl.ldb (v := .lit (.int .i64 ((rd_ITerm l0 x26_1).f2))) h6 rfl T3 rfl rfl rfl rfl (Opl.one rfl rfl (by simp only [go_sem]; rfl) (Opl.one rfl rfl (by simp only [go_sem]; rfl) (Opl.one rfl rfl (by simp only [go_sem]; rfl) ?_))))
       by_cases c14 : ((rd_ITerm l0 x26_1).f2) = 0
       case neg =>
        rw [if_neg c14] at H
        have e10 : (((rd_ITerm l0 x26_1).f2) == 0) = false := by simpa using c14
        try rw [e10]
        refine Opl.skp rfl (Opl.skp rfl (Opl.skp rfl (Opl.one rfl rfl (by simp only [go_sem]; rfl) (Opl.one rfl rfl (by simp only [go_sem]; rfl) (Opl.nil ?_)))))
        exact hk5 _ _ ⟨_, _, _, H, by omega, ⟨rfl, rfl, rfl, (by first | rfl | (show PV.lit (.bool _) = _; congr 2; simp_all)), rfl, rfl, rfl, trivial⟩, h7⟩
       rw [if_pos c14] at H
       have e9 : (((rd_ITerm l0 x26_1).f2) == 0) = true := by simpa using c14
       try rw [e9]
       refine Opl.one (v := .ptr i1 3) rfl rfl (by simp only [go_sem]; rfl) (Opl.ldb (v := .lit (.int .i64 ((rd_ITerm l0 x26_1).f3))) h6 rfl T3 rfl rfl rfl rfl (Opl.one rfl rfl (by simp only [go_sem]; rfl) (Opl.one rfl rfl (by simp only [go_sem]; rfl) (Opl.one rfl rfl (by simp only [go_sem]; rfl) (Opl.nil ?_)))))
       exact hk5 _ _ ⟨_, _, _, H, by omega, ⟨rfl, rfl, rfl, (by first | rfl | (show PV.lit (.bool _) = _; congr 2; simp_all)), rfl, rfl, rfl, trivial⟩, h7⟩
     rw [if_neg c12] at H
     have e11 : (((rd_ITerm l0 x26_1).f0) == 1) = false := by simpa using c12
     try rw [e11]
     refine Evr.condF rfl (Evr.seq (Evr.regionN rfl (Opl.one rfl rfl (by simp only [go_sem]; rfl) (Opl.one rfl rfl (by simp only [go_sem]; rfl) (Opl.nil ?_)))))
     refine Evr.join (fun tm S => ∃ (kq6 : Nat) (x11_5 : Bool) (pv11 : PV), impl_kindsOf.j2 kq6 a1 x5_1 bt1413.2.2 x11_5 l0 (l0.length : Int) x26_1 = some r ∧ kq6 ≤ n1 ∧ Has tm [(1, .lit (.int .i64 a1)), (5, pv11), (10, .lit (.int .i64 bt1413.2.2)), (11, .lit (.bool x11_5)), (24, v0), (25, .lit (.int .i64 (l0.length : Int))), (26, .lit (.int .i64 x26_1))] ∧ Vec (cInt .i64) x5_1 pv11 S) ?_ fun hk6 => ?_
     ·
      rintro tm S ⟨kq6, x11_5, pv11, H, hle, hh, h17⟩
      rw [hh.eq]
      exact hk4 _ _ ⟨_, _, _, H, by omega, ⟨rfl, rfl, rfl, (by first | rfl | (show PV.lit (.bool _) = _; congr 2; simp_all)), rfl, rfl, rfl, trivial⟩, h17⟩
     ·
      by_cases c15 : t1416 = true
      case neg =>
       rw [if_neg c15] at H
       obtain rfl : t1416 = false := by simpa using c15
       refine Evr.condF rfl (Evr.skip ?_)
       exact hk6 _ _ ⟨_, _, _, H, by omega, ⟨rfl, rfl, rfl, (by first | rfl | (show PV.lit (.bool _) = _; congr 2; simp_all)), rfl, rfl, rfl, trivial⟩, h7⟩
      rw [if_pos c15] at H
      obtain rfl : t1416 = true := by simpa using c15
      refine Evr.condT rfl ?_
      refine Evr.join (fun tm S => ∃ (kq7 : Nat) (x11_6 : Bool) (pv12 : PV), impl_kindsOf.j2 kq7 a1 x5_1 bt1413.2.2 x11_6 l0 (l0.length : Int) x26_1 = some r ∧ kq7 ≤ n1 ∧ Has tm [(1, .lit (.int .i64 a1)), (5, pv12), (10, .lit (.int .i64 bt1413.2.2)), (11, .lit (.bool x11_6)), (24, v0), (25, .lit (.int .i64 (l0.length : Int))), (26, .lit (.int .i64 x26_1))] ∧ Vec (cInt .i64) x5_1 pv12 S) ?_ fun hk7 => ?_
      ·
       rintro tm S ⟨kq7, x11_6, pv12, H, hle, hh, h18⟩
       rw [hh.eq]
       exact hk6 _ _ ⟨_, _, _, H, by omega, ⟨rfl, rfl, rfl, (by first | rfl | (show PV.lit (.bool _) = _; congr 2; simp_all)), rfl, rfl, rfl, trivial⟩, h18⟩
      ·
       refine Evr.regionN rfl (Opl.one (v := .ptr i1 1) rfl rfl (by simp only [go_sem]; rfl) (Opl.ldb (v := .lit (.int .i64 ((rd_ITerm l0 x26_1).f1))) h6 rfl T3 rfl rfl rfl rfl (Opl.one rfl rfl (by simp only [go_sem]; rfl) (Opl.one rfl rfl (by simp only [go_sem]; rfl) ?_))))
       by_cases c16 : ((rd_ITerm l0 x26_1).f1) = 0
       case neg =>
        rw [if_neg c16] at H
        have e19 : (((rd_ITerm l0 x26_1).f1) == 0) = false := by simpa using c16
        try rw [e19]
        refine Opl.skp rfl (Opl.skp rfl (Opl.skp rfl (Opl.skp rfl (Opl.skp rfl (Opl.one rfl rfl (by simp only [go_sem]; rfl) (Opl.one rfl rfl (by simp only [go_sem]; rfl) (Opl.skp rfl (Opl.skp rfl (Opl.skp rfl (Opl.skp rfl (Opl.skp rfl (Opl.one rfl rfl (by simp only [go_sem]; rfl) (Opl.one rfl rfl (by simp only [go_sem]; rfl) (Opl.skp rfl (Opl.skp rfl (Opl.skp rfl (Opl.skp rfl (Opl.skp rfl (Opl.skp rfl (Opl.skp rfl (Opl.one rfl rfl (by simp only [go_sem]; rfl) (Opl.one rfl rfl (by simp only [go_sem]; rfl) (Opl.skp rfl (Opl.skp rfl (Opl.skp rfl (Opl.skp rfl (Opl.skp rfl (Opl.skp rfl (Opl.skp rfl (Opl.one rfl rfl (by simp only [go_sem]; rfl) (Opl.one rfl rfl (by simp only [go_sem]; rfl) (Opl.skp rfl (Opl.skp rfl (Opl.skp rfl (Opl.skp rfl (Opl.skp rfl (Opl.skp rfl (Opl.skp rfl (Opl.skp rfl (Opl.skp rfl (Opl.one rfl rfl (by simp only [go_sem]; rfl) (Opl.one rfl rfl (by simp only [go_sem]; rfl) (Opl.nil ?_)))))))))))))))))))))))))))))))))))))))))))
        exact hk7 _ _ ⟨_, _, _, H, by omega, ⟨rfl, rfl, rfl, (by first | rfl | (show PV.lit (.bool _) = _; congr 2; simp_all)), rfl, rfl, rfl, trivial⟩, h7⟩
       rw [if_pos c16] at H
       have e12 : (((rd_ITerm l0 x26_1).f1) == 0) = true := by simpa using c16
       try rw [e12]
       refine Opl.one (v := .ptr i1 2) rfl rfl (by simp only [go_sem]; rfl) (Opl.ldb (v := .lit (.int .i64 ((rd_ITerm l0 x26_1).f2))) h6 rfl T3 rfl rfl rfl rfl (Opl.one rfl rfl (by simp only [go_sem]; rfl) (Opl.one rfl rfl (by simp only [go_sem]; rfl) ?_)))
       obtain ⟨t1419, h_t1419, H⟩ := Option.bind_eq_some_iff.1 H
       refine Opl.callc (impl_in.ev h_t1419) rfl rfl rfl rfl ⟨(.lit _), (.lit _), (.lit _), trivial⟩ (by decide) (Opl.one rfl rfl (by simp only [go_sem]; rfl) (Opl.one rfl rfl (by simp only [go_sem]; rfl) ?_))
       by_cases c17 : t1419 = true
       case neg =>
        rw [if_neg c17] at H
        obtain rfl : t1419 = false := by simpa using c17
        refine Opl.skp rfl (Opl.skp rfl (Opl.skp rfl (Opl.skp rfl (Opl.skp rfl (Opl.one rfl rfl (by simp only [go_sem]; rfl) (Opl.one rfl rfl (by simp only [go_sem]; rfl) (Opl.skp rfl (Opl.skp rfl (Opl.skp rfl (Opl.skp rfl (Opl.skp rfl (Opl.skp rfl (Opl.skp rfl (Opl.one rfl rfl (by simp only [go_sem]; rfl) (Opl.one rfl rfl (by simp only [go_sem]; rfl) (Opl.skp rfl (Opl.skp rfl (Opl.skp rfl (Opl.skp rfl (Opl.skp rfl (Opl.skp rfl (Opl.skp rfl (Opl.one rfl rfl (by simp only [go_sem]; rfl) (Opl.one rfl rfl (by simp only [go_sem]; rfl) (Opl.skp rfl (Opl.skp rfl (Opl.skp rfl (Opl.skp rfl (Opl.skp rfl (Opl.skp rfl (Opl.skp rfl (Opl.skp rfl (Opl.skp rfl (Opl.one rfl rfl (by simp only [go_sem]; rfl) (Opl.one rfl rfl (by simp only [go_sem]; rfl) (Opl.nil ?_))))))))))))))))))))))))))))))))))))
        exact hk7 _ _ ⟨_, _, _, H, by omega, ⟨rfl, rfl, rfl, (by first | rfl | (show PV.lit (.bool _) = _; congr 2; simp_all)), rfl, rfl, rfl, trivial⟩, h7⟩
       rw [if_pos c17] at H
       obtain rfl : t1419 = true := by simpa using c17
       refine Opl.one (v := .ptr i1 3) rfl rfl (by simp only [go_sem]; rfl) (Opl.ldb (v := .lit (.int .i64 ((rd_ITerm l0 x26_1).f3))) h6 rfl T3 rfl rfl rfl rfl (Opl.one rfl rfl (by simp only [go_sem]; rfl) (Opl.one rfl rfl (by simp only [go_sem]; rfl) ?_)))
       obtain ⟨t1420, h_t1420, H⟩ := Option.bind_eq_some_iff.1 H
       refine Opl.callc (impl_in.ev h_t1420) rfl rfl rfl rfl ⟨(.lit _), (.lit _), (.lit _), trivial⟩ (by decide) (Opl.one rfl rfl (by simp only [go_sem]; rfl) (Opl.one rfl rfl (by simp only [go_sem]; rfl) ?_))
       by_cases c18 : t1420 = true
       case neg =>
        rw [if_neg c18] at H
        obtain rfl : t1420 = false := by simpa using c18
        refine Opl.skp rfl (Opl.skp rfl (Opl.skp rfl (Opl.skp rfl (Opl.skp rfl (Opl.skp rfl (Opl.skp rfl (Opl.one rfl rfl (by simp only [go_sem]; rfl) (Opl.one rfl rfl (by simp only [go_sem]; rfl) (Opl.skp rfl (Opl.skp rfl (Opl.skp rfl (Opl.skp rfl (Opl.skp rfl (Opl.skp rfl (Opl.skp rfl (Opl.one rfl rfl (by simp only [go_sem]; rfl) (Opl.one rfl rfl (by simp only [go_sem]; rfl) (Opl.skp rfl (Opl.skp rfl (Opl.skp rfl (Opl.skp rfl (Opl.skp rfl (Opl.skp rfl (Opl.skp rfl (Opl.skp rfl (Opl.skp rfl (Opl.one rfl rfl (by simp only [go_sem]; rfl) (Opl.one rfl rfl (by simp only [go_sem]; rfl) (Opl.nil ?_)))))))))))))))))))))))))))))
        exact hk7 _ _ ⟨_, _, _, H, by omega, ⟨rfl, rfl, rfl, (by first | rfl | (show PV.lit (.bool _) = _; congr 2; simp_all)), rfl, rfl, rfl, trivial⟩, h7⟩
       rw [if_pos c18] at H
       obtain rfl : t1420 = true := by simpa using c18
       refine Opl.one rfl rfl (by simp only [go_sem]; rfl) (Opl.one (v := .ptr i1 2) rfl rfl (by simp only [go_sem]; rfl) (Opl.ldb (v := .lit (.int .i64 ((rd_ITerm l0 x26_1).f2))) h6 rfl T3 rfl rfl rfl rfl ?_))
       obtain ⟨c19, H⟩ := peel H
       obtain ⟨c20, H⟩ := peel H
       refine Opl.idv (M := (cInt .i64)) (xs := x5_1) (j := ((rd_ITerm l0 x26_1).f2)) (v := pv3) h7 rfl rfl (by first | omega | (simp only [List.length_set] at *; omega)) (by first | omega | (simp only [List.length_set] at *; omega)) K22 Z3 rfl rfl ?_
       rintro d1 z1 q2 h19 h20
       refine Opl.ldv (M := (cInt .i64)) (xs := x5_1) (j := ((rd_ITerm l0 x26_1).f2)) (0 : Int) h19 h20 (by first | omega | (simp only [List.length_set] at *; omega)) (by first | omega | (simp only [List.length_set] at *; omega)) rfl T3 rfl rfl rfl ?_
       rintro p2 q3 h21
       obtain rfl : p2 = [.lit (.int .i64 (rd x5_1 ((rd_ITerm l0 x26_1).f2)))] := h21
       refine ⟨.lit (.int .i64 (rd x5_1 ((rd_ITerm l0 x26_1).f2))), rfl, ?_⟩
       refine Opl.one rfl rfl (by simp only [go_sem]; rfl) (Opl.one rfl rfl (by simp only [go_sem]; rfl) (Opl.one rfl rfl (by simp only [go_sem]; rfl) (Opl.one rfl rfl (by simp only [go_sem]; rfl) ?_)))
       by_cases c21 : (rd x5_1 ((rd_ITerm l0 x26_1).f2)) = bt1413.2.1
       case neg =>
        rw [if_neg c21] at H
        have e18 : ((rd x5_1 ((rd_ITerm l0 x26_1).f2)) == bt1413.2.1) = false := by simpa using c21
        try rw [e18]
        refine Opl.skp rfl (Opl.skp rfl (Opl.skp rfl (Opl.skp rfl (Opl.skp rfl (Opl.skp rfl (Opl.skp rfl (Opl.one rfl rfl (by simp only [go_sem]; rfl) (Opl.one rfl rfl (by simp only [go_sem]; rfl) (Opl.skp rfl (Opl.skp rfl (Opl.skp rfl (Opl.skp rfl (Opl.skp rfl (Opl.skp rfl (Opl.skp rfl (Opl.skp rfl (Opl.skp rfl (Opl.one rfl rfl (by simp only [go_sem]; rfl) (Opl.one rfl rfl (by simp only [go_sem]; rfl) (Opl.nil ?_))))))))))))))))))))
        exact hk7 _ _ ⟨_, _, _, H, by omega, ⟨rfl, rfl, rfl, (by first | rfl | (show PV.lit (.bool _) = _; congr 2; simp_all)), rfl, rfl, rfl, trivial⟩, h7⟩
       rw [if_pos c21] at H
       have e13 : ((rd x5_1 ((rd_ITerm l0 x26_1).f2)) == bt1413.2.1) = true := by simpa using c21
       try rw [e13]
       refine Opl.one rfl rfl (by simp only [go_sem]; rfl) (Opl.one (v := .ptr i1 3) rfl rfl (by simp only [go_sem]; rfl) (Opl.ldb (v := .lit (.int .i64 ((rd_ITerm l0 x26_1).f3))) h6 rfl T3 rfl rfl rfl rfl ?_))
       obtain ⟨c22, H⟩ := peel H
       obtain ⟨c23, H⟩ := peel H
       refine Opl.idv (M := (cInt .i64)) (xs := x5_1) (j := ((rd_ITerm l0 x26_1).f3)) (v := pv3) h7 rfl rfl (by first | omega | (simp only [List.length_set] at *; omega)) (by first | omega | (simp only [List.length_set] at *; omega)) K22 Z3 rfl rfl ?_
       rintro d2 z2 q4 h22 h23
       refine Opl.ldv (M := (cInt .i64)) (xs := x5_1) (j := ((rd_ITerm l0 x26_1).f3)) (0 : Int) h22 h23 (by first | omega | (simp only [List.length_set] at *; omega)) (by first | omega | (simp only [List.length_set] at *; omega)) rfl T3 rfl rfl rfl ?_
       rintro p3 q5 h24
       obtain rfl : p3 = [.lit (.int .i64 (rd x5_1 ((rd_ITerm l0 x26_1).f3)))] := h24
       refine ⟨.lit (.int .i64 (rd x5_1 ((rd_ITerm l0 x26_1).f3))), rfl, ?_⟩
       refine Opl.one rfl rfl (by simp only [go_sem]; rfl) (Opl.one rfl rfl (by simp only [go_sem]; rfl) (Opl.one rfl rfl (by simp only [go_sem]; rfl) (Opl.one rfl rfl (by simp only [go_sem]; rfl) ?_)))
       by_cases c24 : (rd x5_1 ((rd_ITerm l0 x26_1).f3)) = bt1413.2.1
       case neg =>
        rw [if_neg c24] at H
        have e17 : ((rd x5_1 ((rd_ITerm l0 x26_1).f3)) == bt1413.2.1) = false := by simpa using c24
        try rw [e17]
        refine Opl.skp rfl (Opl.skp rfl (Opl.skp rfl (Opl.skp rfl (Opl.skp rfl (Opl.skp rfl (Opl.skp rfl (Opl.skp rfl (Opl.skp rfl (Opl.one rfl rfl (by simp only [go_sem]; rfl) (Opl.one rfl rfl (by simp only [go_sem]; rfl) (Opl.nil ?_)))))))))))
        exact hk7 _ _ ⟨_, _, _, H, by omega, ⟨rfl, rfl, rfl, (by first | rfl | (show PV.lit (.bool _) = _; congr 2; simp_all)), rfl, rfl, rfl, trivial⟩, h7⟩
       rw [if_pos c24] at H
       have e14 : ((rd x5_1 ((rd_ITerm l0 x26_1).f3)) == bt1413.2.1) = true := by simpa using c24
       try rw [e14]
       refine Opl.one rfl rfl (by simp only [go_sem]; rfl) (Opl.one rfl rfl (by simp only [go_sem]; rfl) (Opl.one rfl rfl (by simp only [go_sem]; rfl) ?_))
       by_cases c25 : bt1413.1 = 2
       case pos =>
        rw [if_pos c25] at H
        have e15 : (bt1413.1 == 2) = true := by simpa using c25
        try rw [e15]
        refine Opl.skp rfl (Opl.skp rfl (Opl.skp rfl (Opl.skp rfl (Opl.skp rfl (Opl.one rfl rfl (by simp only [go_sem]; rfl) (Opl.one rfl rfl (by simp only [go_sem]; rfl) (Opl.one rfl rfl (by simp only [go_sem]; rfl) (Opl.nil ?_))))))))
        exact hk7 _ _ ⟨_, _, _, H, by omega, ⟨rfl, rfl, rfl, (by first | rfl | (show PV.lit (.bool _) = _; congr 2; simp_all)), rfl, rfl, rfl, trivial⟩, h7⟩
       rw [if_neg c25] at H
       have e16 : (bt1413.1 == 2) = false := by simpa using c25
       try rw [e16]
       refine Opl.one (v := .ptr i1 2) rfl rfl (by simp only [go_sem]; rfl) (Opl.ldb (v := .lit (.int .i64 ((rd_ITerm l0 x26_1).f2))) h6 rfl T3 rfl rfl rfl rfl (Opl.one (v := .ptr i1 3) rfl rfl (by simp only [go_sem]; rfl) (Opl.ldb (v := .lit (.int .i64 ((rd_ITerm l0 x26_1).f3))) h6 rfl T3 rfl rfl rfl rfl (Opl.one rfl rfl (by simp only [go_sem]; rfl) (Opl.one rfl rfl (by simp only [go_sem]; rfl) (Opl.one rfl rfl (by simp only [go_sem]; rfl) (Opl.one rfl rfl (by simp only [go_sem]; rfl) (Opl.nil ?_))))))))
       exact hk7 _ _ ⟨_, _, _, H, by omega, ⟨rfl, rfl, rfl, (by first | rfl | (show PV.lit (.bool _) = _; congr 2; simp_all)), rfl, rfl, rfl, trivial⟩, h7⟩
 ·
  refine Evr.regionN rfl (Opl.one rfl rfl (by simp only [go_sem]; rfl) ?_)
  obtain ⟨t1406, h_t1406, H⟩ := Option.bind_eq_some_iff.1 H
  refine Opl.callc (impl_in.ev h_t1406) rfl rfl rfl rfl ⟨(.lit _), (.lit _), (.lit _), trivial⟩ (by decide) (Opl.one rfl rfl (by simp only [go_sem]; rfl) (Opl.one rfl rfl (by simp only [go_sem]; rfl) ?_))
  by_cases c27 : t1406 = true
  case neg =>
   rw [if_neg c27] at H
   have e22 : (!t1406) = true := by simpa using c27
   try rw [e22]
   refine Opl.skp rfl (Opl.skp rfl (Opl.skp rfl (Opl.skp rfl (Opl.one rfl rfl (by simp only [go_sem]; rfl) (Opl.nil ?_)))))
   exact hk1 _ _ ⟨_, _, H, ⟨rfl, rfl, (by first | rfl | (show PV.lit (.bool _) = _; congr 2; simp_all)), trivial⟩⟩
  rw [if_pos c27] at H
  have e21 : (!t1406) = false := by simpa using c27
  try rw [e21]
  refine Opl.one rfl rfl (by simp only [go_sem]; rfl) (Opl.len (xs := l0) (by exact hv0) K176 rfl rfl rfl rfl ?_)
  obtain ⟨t1407, h_t1407, H⟩ := Option.bind_eq_some_iff.1 H
  refine Opl.callc (impl_in.ev h_t1407) rfl rfl rfl rfl ⟨(.lit _), (.lit _), (.lit _), trivial⟩ (by decide) (Opl.one rfl rfl (by simp only [go_sem]; rfl) (Opl.one rfl rfl (by simp only [go_sem]; rfl) (Opl.nil ?_)))
  exact hk1 _ _ ⟨_, _, H, ⟨rfl, rfl, (by first | rfl | (show PV.lit (.bool _) = _; congr 2; simp_all)), trivial⟩⟩
theorem impl_kindOf.ev {k : Nat} {l0 : List ITerm} {v0 : PV} (hv0 : Sl cITerm l0 v0) {a1 : Int} {r : Int} (H : impl_kindOf.f k l0 a1 = some r) : Ret Try.prog 289 [v0, .lit (.int .i64 a1)] fun v S => v = .lit (.int .i64 r) := by
 unfold impl_kindOf.f at H
 refine Ret.intro Try.func289 rfl (Nat.le_of_ble_eq_true rfl) rfl ?_
 rw [tm2]
 refine Evr.seq (Evr.regionN rfl (Opl.one rfl rfl (by simp only [go_sem]; rfl) (Opl.nil (Evr.seq (Evr.regionN rfl (Opl.one rfl rfl (by simp only [go_sem]; rfl) (Opl.one rfl rfl (by simp only [go_sem]; rfl) ?_)))))))
 obtain ⟨t, h_t, H⟩ := Option.bind_eq_some_iff.1 H
 refine Opl.call ((impl_kindsOf.ev hv0 h_t).mono fun _ _ h => Out.vecn h) rfl rfl rfl rfl ⟨hv0.plain, (.lit _), trivial⟩ (by decide) ?_
 rintro pv1 ⟨h1, h2⟩
 refine Opl.one rfl rfl (by simp only [go_sem]; rfl) (Opl.nil (Evr.seq (Evr.seq (Evr.regionN rfl (Opl.one rfl rfl (by simp only [go_sem]; rfl) ?_)))))
 by_cases c1 : t = []
 case pos =>
  rw [if_pos c1] at H
  refine Opl.eqnil (by exact h2 c1) K22 rfl rfl (Opl.nil (Evr.condT rfl (Evr.seq (Evr.regionN rfl (Opl.one rfl rfl (by simp only [go_sem]; rfl) (Opl.nil ?_))))))
  obtain rfl := Option.some.inj H
  refine Evr.ret1 Try.func289 rfl ?_
  show (.lit (.int .i64 0) : PV) = _
  first | rfl | (simp only [go_sem]; rfl)
 rw [if_neg c1] at H
 refine Opl.eqsome (by exact h1) c1 K22 rfl rfl (Opl.nil (Evr.condF rfl (Evr.skip (Evr.seq (Evr.regionN rfl (Opl.one rfl rfl (by simp only [go_sem]; rfl) (Opl.one rfl rfl (by simp only [go_sem]; rfl) (Opl.len (xs := t) (by exact h1) K22 rfl rfl rfl rfl (Opl.one rfl rfl (by simp only [go_sem]; rfl) ?_)))))))))
 obtain ⟨c2, H⟩ := peel H
 obtain ⟨c3, H⟩ := peel H
 refine Opl.idx (M := (cInt .i64)) (xs := t) (j := (wrap64 ((t.length : Int) - 1))) (0 : Int) (by exact h1) rfl (by first | omega | (simp only [List.length_set] at *; omega)) (by first | omega | (simp only [List.length_set] at *; omega)) K22 Z3 rfl rfl ?_
 rintro p1 q1 h3
 obtain rfl : p1 = [.lit (.int .i64 (rd t (wrap64 ((t.length : Int) - 1))))] := h3
 refine Opl.lda (.lit (.int .i64 (rd t (wrap64 ((t.length : Int) - 1))))) rfl T3 rfl rfl rfl rfl (Opl.one rfl rfl (by simp only [go_sem]; rfl) (Opl.nil ?_))
 obtain rfl := Option.some.inj H
 refine Evr.ret1 Try.func289 rfl ?_
 show (.lit (.int .i64 (rd t (wrap64 ((t.length : Int) - 1)))) : PV) = _
 first | rfl | (simp only [go_sem]; rfl)
theorem impl_ruleOk.ev {k : Nat} {l0_0 : List ITerm} {v0_0 : PV} (hv0_0 : Sl cITerm l0_0 v0_0) {l0_1 : List Int} {v0_1 : PV} (hv0_1 : Sl (cInt .i64) l0_1 v0_1) {l0_2 : List (List ITerm)} {v0_2 : PV} (hv0_2 : Sl (cSl cITerm) l0_2 v0_2) {a1 : Int} {r : Bool} (H : impl_ruleOk.f k l0_0 l0_1 l0_2 a1 = some r) : Ret Try.prog 319 [.agg [v0_0, v0_1, v0_2], .lit (.int .i64 a1)] fun v S => v = .lit (.bool r) := by
 unfold impl_ruleOk.f at H
 refine Ret.intro Try.func319 rfl (Nat.le_of_ble_eq_true rfl) rfl ?_
 rw [tm2]
 refine Evr.seq (Evr.regionN rfl (Opl.box (cs := [v0_0, v0_1, v0_2]) rfl rfl rfl rfl ?_))
 rintro i1 S h1 u1 w1
 refine Opl.one rfl rfl (by simp only [go_sem]; rfl) (Opl.nil (Evr.seq (Evr.seq ?_)))
 refine Evr.join (fun tm S => ∃ (kq1 : Nat) (x20_1 : Bool) (i2 : Abs.Id), impl_ruleOk.j0 kq1 a1 x20_1 l0_0 l0_1 l0_2 = some r ∧ Has tm [(1, .lit (.int .i64 a1)), (2, .ptr i2 0), (20, .lit (.bool x20_1))] ∧ Box (.ptr i2 0) [v0_0, v0_1, v0_2] S) ?_ fun hk1 => ?_
 ·
  rintro tm S ⟨kq1, x20_1, i2, H, hh, h2⟩
  rw [hh.eq]
  obtain _ | k1 := kq1
  · simp [impl_ruleOk.j0] at H
  simp only [impl_ruleOk.j0] at H
  by_cases c1 : x20_1 = true
  case pos =>
   rw [if_pos c1] at H
   obtain rfl : x20_1 = true := by simpa using c1
   refine Evr.condT rfl (Evr.seq (Evr.regionN rfl (Opl.one rfl rfl (by simp only [go_sem]; rfl) (Opl.nil ?_))))
   obtain rfl := Option.some.inj H
   refine Evr.ret1 Try.func319 rfl ?_
   show (.lit (.bool false) : PV) = _
   first | rfl | (simp only [go_sem]; rfl)
  rw [if_neg c1] at H
  obtain rfl : x20_1 = false := by simpa using c1
  refine Evr.condF rfl (Evr.skip (Evr.seq (Evr.seq (Evr.regionN rfl (Opl.one (v := .ptr i2 1) rfl rfl (by simp only [go_sem]; rfl) (Opl.ldb (v := v0_1) h2 rfl T22 rfl rfl rfl rfl (Opl.len (xs := l0_1) (by exact hv0_1) K22 rfl rfl rfl rfl (Opl.one rfl rfl (by simp only [go_sem]; rfl) (Opl.nil (Evr.block ?_))))))))))
  refine Evr.loop (Evr.rounds (n := k1) (Inv := fun n tm S => n ≤ k1 ∧ ∃ (x24_1 : Int) (i3 : Abs.Id), impl_ruleOk.l0 n a1 l0_1 (l0_1.length : Int) x24_1 l0_0 l0_1 l0_2 = some r ∧ Has tm [(1, .lit (.int .i64 a1)), (2, .ptr i3 0), (22, v0_1), (23, .lit (.int .i64 (l0_1.length : Int))), (24, .lit (.int .i64 x24_1))] ∧ Box (.ptr i3 0) [v0_0, v0_1, v0_2] S) ?_ ?_ ?_)
  · exact ⟨Nat.le_refl _, _, _, H, ⟨rfl, rfl, rfl, rfl, rfl, trivial⟩, h2⟩
  ·
   rintro tm S ⟨_, _, _, H, -⟩
   simp [impl_ruleOk.l0] at H
  ·
   rintro n1 ih1 tm S ⟨hle, x24_1, i3, H, hh, h3⟩
   simp only [impl_ruleOk.l0] at H
   rw [hh.eq]
   refine Evr.seq (Evr.regionN rfl (Opl.one rfl rfl (by simp only [go_sem]; rfl) (Opl.nil (Evr.seq ?_))))
   by_cases c2 : x24_1 < (l0_1.length : Int)
   case neg =>
    rw [if_neg c2] at H
    have e8 : (decide (x24_1 < (l0_1.length : Int))) = false := by simpa using c2
    try rw [e8]
    refine Evr.condF rfl (Evr.exit rfl (Evr.seq (Evr.regionN rfl (Opl.one rfl rfl (by simp only [go_sem]; rfl) (Opl.nil ?_)))))
    obtain rfl := Option.some.inj H
    refine Evr.ret1 Try.func319 rfl ?_
    show (.lit (.bool true) : PV) = _
    first | rfl | (simp only [go_sem]; rfl)
   rw [if_pos c2] at H
   have e1 : (decide (x24_1 < (l0_1.length : Int))) = true := by simpa using c2
   try rw [e1]
   refine Evr.condT rfl (Evr.skip (Evr.seq (Evr.block (Evr.seq (Evr.regionN rfl (Opl.one rfl rfl (by simp only [go_sem]; rfl) ?_))))))
   obtain ⟨c3, H⟩ := peel H
   obtain ⟨c4, H⟩ := peel H
   refine Opl.idx (M := (cInt .i64)) (xs := l0_1) (j := x24_1) (0 : Int) (by exact hv0_1) rfl (by first | omega | (simp only [List.length_set] at *; omega)) (by first | omega | (simp only [List.length_set] at *; omega)) K22 Z3 rfl rfl ?_
   rintro p1 q1 h4
   obtain rfl : p1 = [.lit (.int .i64 (rd l0_1 x24_1))] := h4
   refine Opl.lda (.lit (.int .i64 (rd l0_1 x24_1))) rfl T3 rfl rfl rfl rfl (Opl.one rfl rfl (by simp only [go_sem]; rfl) (Opl.one rfl rfl (by simp only [go_sem]; rfl) (Opl.nil (Evr.seq ?_))))
   refine Evr.join (fun tm S => ∃ (kq2 : Nat) (x57_1 : Bool) (i4 : Abs.Id), impl_ruleOk.j2 kq2 a1 l0_1 (l0_1.length : Int) x24_1 x57_1 l0_0 l0_1 l0_2 = some r ∧ kq2 ≤ n1 ∧ Has tm [(1, .lit (.int .i64 a1)), (2, .ptr i4 0), (22, v0_1), (23, .lit (.int .i64 (l0_1.length : Int))), (24, .lit (.int .i64 x24_1)), (57, .lit (.bool x57_1))] ∧ Box (.ptr i4 0) [v0_0, v0_1, v0_2] S) ?_ fun hk2 => ?_
   ·
    rintro tm S ⟨kq2, x57_1, i4, H, hle, hh, h5⟩
    rw [hh.eq]
    obtain _ | k2 := kq2
    · simp [impl_ruleOk.j2] at H
    simp only [impl_ruleOk.j2] at H
    by_cases c5 : x57_1 = true
    case pos =>
     rw [if_pos c5] at H
     obtain rfl : x57_1 = true := by simpa using c5
     refine Evr.condT rfl (Evr.seq (Evr.regionN rfl (Opl.one rfl rfl (by simp only [go_sem]; rfl) (Opl.nil ?_))))
     obtain rfl := Option.some.inj H
     refine Evr.ret1 Try.func319 rfl ?_
     show (.lit (.bool false) : PV) = _
     first | rfl | (simp only [go_sem]; rfl)
    rw [if_neg c5] at H
    obtain rfl : x57_1 = false := by simpa using c5
    refine Evr.condF rfl (Evr.skip (Evr.inBlock (Evr.regionN rfl (Opl.one rfl rfl (by simp only [go_sem]; rfl) (Opl.one rfl rfl (by simp only [go_sem]; rfl) (Opl.nil ?_))))))
    exact ih1 _ (by omega) _ _ ⟨by omega, _, _, H, ⟨rfl, rfl, rfl, rfl, rfl, trivial⟩, h5⟩
   ·
    refine Evr.regionN rfl (Opl.one rfl rfl (by simp only [go_sem]; rfl) (Opl.one rfl rfl (by simp only [go_sem]; rfl) (Opl.one rfl rfl (by simp only [go_sem]; rfl) ?_)))
    obtain ⟨t1429, h_t1429, H⟩ := Option.bind_eq_some_iff.1 H
    refine Opl.callc (impl_in.ev h_t1429) rfl rfl rfl rfl ⟨(.lit _), (.lit _), (.lit _), trivial⟩ (by decide) (Opl.one rfl rfl (by simp only [go_sem]; rfl) (Opl.one rfl rfl (by simp only [go_sem]; rfl) ?_))
    by_cases c6 : t1429 = true
    case neg =>
     rw [if_neg c6] at H
     have e7 : (!t1429) = true := by simpa using c6
     try rw [e7]
     refine Opl.skp rfl (Opl.skp rfl (Opl.skp rfl (Opl.skp rfl (Opl.skp rfl (Opl.skp rfl (Opl.skp rfl (Opl.skp rfl (Opl.skp rfl (Opl.skp rfl (Opl.skp rfl (Opl.skp rfl (Opl.one rfl rfl (by simp only [go_sem]; rfl) (Opl.one rfl rfl (by simp only [go_sem]; rfl) (Opl.skp rfl (Opl.skp rfl (Opl.skp rfl (Opl.skp rfl (Opl.skp rfl (Opl.skp rfl (Opl.skp rfl (Opl.skp rfl (Opl.one rfl rfl (by simp only [go_sem]; rfl) (Opl.nil ?_)))))))))))))))))))))))
     exact hk2 _ _ ⟨_, _, _, H, by omega, ⟨rfl, rfl, rfl, rfl, rfl, (by first | rfl | (show PV.lit (.bool _) = _; congr 2; simp_all)), trivial⟩, h3⟩
    rw [if_pos c6] at H
    have e2 : (!t1429) = false := by simpa using c6
    try rw [e2]
    refine Opl.one rfl rfl (by simp only [go_sem]; rfl) (Opl.one rfl rfl (by simp only [go_sem]; rfl) (Opl.one rfl rfl (by simp only [go_sem]; rfl) ?_))
    by_cases c7 : x24_1 > 0
    case neg =>
     rw [if_neg c7] at H
     have e6 : (decide (x24_1 > 0)) = false := by simpa using c7
     try rw [e6]
     refine Opl.skp rfl (Opl.skp rfl (Opl.skp rfl (Opl.skp rfl (Opl.skp rfl (Opl.skp rfl (Opl.skp rfl (Opl.skp rfl (Opl.one rfl rfl (by simp only [go_sem]; rfl) (Opl.one rfl rfl (by simp only [go_sem]; rfl) (Opl.one rfl rfl (by simp only [go_sem]; rfl) (Opl.one (v := .ptr i3 2) rfl rfl (by simp only [go_sem]; rfl) (Opl.ldb (v := v0_2) h3 rfl T93 rfl rfl rfl rfl (Opl.one rfl rfl (by simp only [go_sem]; rfl) ?_)))))))))))))
     obtain ⟨c12, H⟩ := peel H
     refine Opl.idx (M := (cSl cITerm)) (xs := l0_2) (j := x24_1) ([] : List ITerm) (by exact hv0_2) rfl (by first | omega | (simp only [List.length_set] at *; omega)) (by first | omega | (simp only [List.length_set] at *; omega)) K93 Z176 rfl rfl ?_
     rintro p4 q4 h9
     obtain ⟨pv2, rfl, h10⟩ := h9
     refine Opl.lda (pv2) rfl T176 rfl rfl rfl rfl (Opl.one rfl rfl (by simp only [go_sem]; rfl) ?_)
     obtain ⟨t1434, h_t1434, H⟩ := Option.bind_eq_some_iff.1 H
     refine Opl.callc (impl_kindOf.ev h10 h_t1434) rfl rfl rfl rfl ⟨h10.plain, (.lit _), trivial⟩ (by decide) (Opl.one rfl rfl (by simp only [go_sem]; rfl) (Opl.one rfl rfl (by simp only [go_sem]; rfl) (Opl.nil ?_)))
     exact hk2 _ _ ⟨_, _, _, H, by omega, ⟨rfl, rfl, rfl, rfl, rfl, (by first | rfl | (show PV.lit (.bool _) = _; congr 2; simp_all)), trivial⟩, h3⟩
    rw [if_pos c7] at H
    have e3 : (decide (x24_1 > 0)) = true := by simpa using c7
    try rw [e3]
    refine Opl.one (v := .ptr i3 1) rfl rfl (by simp only [go_sem]; rfl) (Opl.ldb (v := v0_1) h3 rfl T22 rfl rfl rfl rfl (Opl.one rfl rfl (by simp only [go_sem]; rfl) (Opl.one rfl rfl (by simp only [go_sem]; rfl) ?_)))
    obtain ⟨c8, H⟩ := peel H
    obtain ⟨c9, H⟩ := peel H
    refine Opl.idx (M := (cInt .i64)) (xs := l0_1) (j := (wrap64 (x24_1 - 1))) (0 : Int) (by exact hv0_1) rfl (by first | omega | (simp only [List.length_set] at *; omega)) (by first | omega | (simp only [List.length_set] at *; omega)) K22 Z3 rfl rfl ?_
    rintro p2 q2 h6
    obtain rfl : p2 = [.lit (.int .i64 (rd l0_1 (wrap64 (x24_1 - 1))))] := h6
    refine Opl.lda (.lit (.int .i64 (rd l0_1 (wrap64 (x24_1 - 1))))) rfl T3 rfl rfl rfl rfl (Opl.one rfl rfl (by simp only [go_sem]; rfl) (Opl.geq (a := (rd l0_1 (wrap64 (x24_1 - 1)))) (b := (rd l0_1 x24_1)) K3 rfl rfl rfl rfl (Opl.one rfl rfl (by simp only [go_sem]; rfl) (Opl.one rfl rfl (by simp only [go_sem]; rfl) (Opl.one rfl rfl (by simp only [go_sem]; rfl) ?_)))))
    by_cases c10 : (rd l0_1 (wrap64 (x24_1 - 1))) ≥ (rd l0_1 x24_1)
    case pos =>
     rw [if_pos c10] at H
     have e4 : (decide ((rd l0_1 (wrap64 (x24_1 - 1))) ≥ (rd l0_1 x24_1))) = true := by simpa using c10
     try rw [e4]
     refine Opl.skp rfl (Opl.skp rfl (Opl.skp rfl (Opl.skp rfl (Opl.skp rfl (Opl.skp rfl (Opl.skp rfl (Opl.skp rfl (Opl.one rfl rfl (by simp only [go_sem]; rfl) (Opl.nil ?_)))))))))
     exact hk2 _ _ ⟨_, _, _, H, by omega, ⟨rfl, rfl, rfl, rfl, rfl, (by first | rfl | (show PV.lit (.bool _) = _; congr 2; simp_all)), trivial⟩, h3⟩
    rw [if_neg c10] at H
    have e5 : (decide ((rd l0_1 (wrap64 (x24_1 - 1))) ≥ (rd l0_1 x24_1))) = false := by simpa using c10
    try rw [e5]
    refine Opl.one (v := .ptr i3 2) rfl rfl (by simp only [go_sem]; rfl) (Opl.ldb (v := v0_2) h3 rfl T93 rfl rfl rfl rfl (Opl.one rfl rfl (by simp only [go_sem]; rfl) ?_))
    obtain ⟨c11, H⟩ := peel H
    refine Opl.idx (M := (cSl cITerm)) (xs := l0_2) (j := x24_1) ([] : List ITerm) (by exact hv0_2) rfl (by first | omega | (simp only [List.length_set] at *; omega)) (by first | omega | (simp only [List.length_set] at *; omega)) K93 Z176 rfl rfl ?_
    rintro p3 q3 h7
    obtain ⟨pv1, rfl, h8⟩ := h7
    refine Opl.lda (pv1) rfl T176 rfl rfl rfl rfl (Opl.one rfl rfl (by simp only [go_sem]; rfl) ?_)
    obtain ⟨t1432, h_t1432, H⟩ := Option.bind_eq_some_iff.1 H
    refine Opl.callc (impl_kindOf.ev h8 h_t1432) rfl rfl rfl rfl ⟨h8.plain, (.lit _), trivial⟩ (by decide) (Opl.one rfl rfl (by simp only [go_sem]; rfl) (Opl.one rfl rfl (by simp only [go_sem]; rfl) (Opl.nil ?_)))
    exact hk2 _ _ ⟨_, _, _, H, by omega, ⟨rfl, rfl, rfl, rfl, rfl, (by first | rfl | (show PV.lit (.bool _) = _; congr 2; simp_all)), trivial⟩, h3⟩
 ·
  refine Evr.regionN rfl (Opl.one (v := .ptr i1 0) rfl rfl (by simp only [go_sem]; rfl) (Opl.ldb (v := v0_0) h1 rfl T176 rfl rfl rfl rfl (Opl.one rfl rfl (by simp only [go_sem]; rfl) ?_)))
  obtain ⟨t1427, h_t1427, H⟩ := Option.bind_eq_some_iff.1 H
  refine Opl.callc (impl_kindOf.ev hv0_0 h_t1427) rfl rfl rfl rfl ⟨hv0_0.plain, (.lit _), trivial⟩ (by decide) (Opl.one rfl rfl (by simp only [go_sem]; rfl) (Opl.one rfl rfl (by simp only [go_sem]; rfl) ?_))
  by_cases c13 : t1427 = 2
  case neg =>
   rw [if_neg c13] at H
   have e10 : (t1427 != 2) = true := by simpa using c13
   try rw [e10]
   refine Opl.skp rfl (Opl.skp rfl (Opl.skp rfl (Opl.skp rfl (Opl.skp rfl (Opl.skp rfl (Opl.skp rfl (Opl.one rfl rfl (by simp only [go_sem]; rfl) (Opl.nil ?_))))))))
   exact hk1 _ _ ⟨_, _, _, H, ⟨rfl, rfl, (by first | rfl | (show PV.lit (.bool _) = _; congr 2; simp_all)), trivial⟩, h1⟩
  rw [if_pos c13] at H
  have e9 : (t1427 != 2) = false := by simpa using c13
  try rw [e9]
  refine Opl.one (v := .ptr i1 1) rfl rfl (by simp only [go_sem]; rfl) (Opl.ldb (v := v0_1) h1 rfl T22 rfl rfl rfl rfl (Opl.len (xs := l0_1) (by exact hv0_1) K22 rfl rfl rfl rfl (Opl.one (v := .ptr i1 2) rfl rfl (by simp only [go_sem]; rfl) (Opl.ldb (v := v0_2) h1 rfl T93 rfl rfl rfl rfl (Opl.len (xs := l0_2) (by exact hv0_2) K93 rfl rfl rfl rfl (Opl.one rfl rfl (by simp only [go_sem]; rfl) (Opl.one rfl rfl (by simp only [go_sem]; rfl) (Opl.nil ?_))))))))
  exact hk1 _ _ ⟨_, _, _, H, ⟨rfl, rfl, (by first | rfl | (show PV.lit (.bool _) = _; congr 2; simp_all)), trivial⟩, h1⟩
theorem impl_SystemValid_2.ev {k : Nat} {l0_0 : List ITerm} {v0_0 : PV} (hv0_0 : Sl cITerm l0_0 v0_0) {l0_1 : List Int} {v0_1 : PV} (hv0_1 : Sl (cInt .i64) l0_1 v0_1) {l0_2 : List (List ITerm)} {v0_2 : PV} (hv0_2 : Sl (cSl cITerm) l0_2 v0_2) {l1_0 : List IVar} {v1_0 : PV} (hv1_0 : Sl cIVar l1_0 v1_0) {l1_1 : List IRule} {v1_1 : PV} (hv1_1 : Sl cIRule l1_1 v1_1) {r : Bool} (H : impl_SystemValid_2.f k l0_0 l0_1 l0_2 l1_0 l1_1 = some r) : Ret Try.prog 318 [.agg [v0_0, v0_1, v0_2], .fel (v1_0 :: v1_1 :: [])] fun v S => v = .lit (.bool r) := by
 unfold impl_SystemValid_2.f at H
 refine Ret.intro Try.func318 rfl (Nat.le_of_ble_eq_true rfl) rfl ?_
 rw [tm2]
 refine Evr.seq (Evr.regionN rfl (Opl.box (cs := [v0_0, v0_1, v0_2]) rfl rfl rfl rfl ?_))
 rintro i1 S h1 u1 w1
 refine Opl.one rfl rfl (by simp only [go_sem]; rfl) (Opl.nil (Evr.seq (Evr.regionN rfl (Opl.ldb (v := .agg [v0_0, v0_1, v0_2]) h1 rfl T247 rfl rfl rfl rfl (Opl.one (v := .fel (v1_0 :: v1_1 :: [])) rfl rfl (by simp only [go_sem]; rfl) (Opl.lda (v1_0) rfl T88 rfl rfl rfl rfl (Opl.len (xs := l1_0) (by exact hv1_0) K88 rfl rfl rfl rfl ?_)))))))
 obtain ⟨t1442, h_t1442, H⟩ := Option.bind_eq_some_iff.1 H
 refine Opl.callc (impl_ruleOk.ev hv0_0 hv0_1 hv0_2 h_t1442) rfl rfl rfl rfl ⟨(.aggL ⟨hv0_0.plain, hv0_1.plain, hv0_2.plain, trivial⟩), (.lit _), trivial⟩ (by decide) (Opl.one rfl rfl (by simp only [go_sem]; rfl) (Opl.one rfl rfl (by simp only [go_sem]; rfl) (Opl.nil ?_)))
 obtain rfl := Option.some.inj H
 refine Evr.ret1 Try.func318 rfl ?_
 show (.lit (.bool (!t1442)) : PV) = _
 first | rfl | (simp only [go_sem]; rfl)
theorem slices_IndexFunc_at_impl_SystemValid_2.ev {k : Nat} {l0 : List IRule} {v0 : PV} (hv0 : Sl cIRule l0 v0) {l2_0 : List IVar} {v2_0 : PV} (hv2_0 : Sl cIVar l2_0 v2_0) {l2_1 : List IRule} {v2_1 : PV} (hv2_1 : Sl cIRule l2_1 v2_1) {r : Int} (H : slices_IndexFunc_at_impl_SystemValid_2.f k l0 l2_0 l2_1 = some r) : Ret Try.prog 330 [v0, .fn 318 [.fel (v2_0 :: v2_1 :: [])]] fun v S => v = .lit (.int .i64 r) := by
 unfold slices_IndexFunc_at_impl_SystemValid_2.f at H
 refine Ret.intro Try.func330 rfl (Nat.le_of_ble_eq_true rfl) rfl ?_
 rw [tm2]
 refine Evr.seq (Evr.regionN rfl (Opl.one rfl rfl (by simp only [go_sem]; rfl) (Opl.nil (Evr.seq (Evr.seq (Evr.regionN rfl (Opl.one rfl rfl (by simp only [go_sem]; rfl) (Opl.len (xs := l0) (by exact hv0) K89 rfl rfl rfl rfl (Opl.one rfl rfl (by simp only [go_sem]; rfl) (Opl.nil (Evr.block ?_)))))))))))
 refine Evr.loop (Evr.rounds (n := k) (Inv := fun n tm S => n ≤ k ∧ ∃ (x8_1 : Int), slices_IndexFunc_at_impl_SystemValid_2.l0 n l0 (l0.length : Int) x8_1 l2_0 l2_1 = some r ∧ Has tm [(0, v0), (1, .fn 318 [.fel (v2_0 :: v2_1 :: [])]), (7, .lit (.int .i64 (l0.length : Int))), (8, .lit (.int .i64 x8_1))]) ?_ ?_ ?_)
 · exact ⟨Nat.le_refl _, _, H, ⟨rfl, rfl, rfl, rfl, trivial⟩⟩
 ·
  rintro tm S ⟨_, _, H, -⟩
  simp [slices_IndexFunc_at_impl_SystemValid_2.l0] at H
 ·
  rintro n1 ih1 tm S ⟨hle, x8_1, H, hh⟩
  simp only [slices_IndexFunc_at_impl_SystemValid_2.l0] at H
  rw [hh.eq]
  refine Evr.seq (Evr.regionN rfl (Opl.one rfl rfl (by simp only [go_sem]; rfl) (Opl.nil (Evr.seq ?_))))
  by_cases c1 : x8_1 < (l0.length : Int)
  case neg =>
   rw [if_neg c1] at H
   have e2 : (decide (x8_1 < (l0.length : Int))) = false := by simpa using c1
   try rw [e2]
   refine Evr.condF rfl (Evr.exit rfl (Evr.seq (Evr.regionN rfl (Opl.one rfl rfl (by simp only [go_sem]; rfl) (Opl.nil ?_)))))
   obtain rfl := Option.some.inj H
   refine Evr.ret1 Try.func330 rfl ?_
   show (.lit (.int .i64 (-1)) : PV) = _
   first | rfl | (simp only [go_sem]; rfl)
  rw [if_pos c1] at H
  have e1 : (decide (x8_1 < (l0.length : Int))) = true := by simpa using c1
  try rw [e1]
  refine Evr.condT rfl (Evr.skip (Evr.seq (Evr.block (Evr.seq (Evr.regionN rfl (Opl.one rfl rfl (by simp only [go_sem]; rfl) (Opl.one rfl rfl (by simp only [go_sem]; rfl) (Opl.nil (Evr.seq (Evr.regionN rfl (Opl.one rfl rfl (by simp only [go_sem]; rfl) (Opl.one rfl rfl (by simp only [go_sem]; rfl) (Opl.one rfl rfl (by simp only [go_sem]; rfl) ?_)))))))))))))
  obtain ⟨c2, H⟩ := peel H
  obtain ⟨c3, H⟩ := peel H
  refine Opl.idx (M := cIRule) (xs := l0) (j := x8_1) zIRule (by exact hv0) rfl (by first | omega | (simp only [List.length_set] at *; omega)) (by first | omega | (simp only [List.length_set] at *; omega)) K89 Z247 rfl rfl ?_
  rintro p1 q1 h1
  obtain ⟨pv1, pv2, pv3, rfl, h2, h3, h4⟩ := cIRule_R (x := (rd_IRule l0 x8_1)) h1
  refine Opl.lda (.agg [pv1, pv2, pv3]) rfl T247 rfl rfl rfl rfl ?_
  obtain ⟨t1445, h_t1445, H⟩ := Option.bind_eq_some_iff.1 H
  refine Opl.callc (impl_SystemValid_2.ev h2 h3 h4 hv2_0 hv2_1 h_t1445) rfl rfl rfl rfl ⟨(.aggL ⟨h2.plain, h3.plain, h4.plain, trivial⟩), (.felL ⟨hv2_0.plain, hv2_1.plain, trivial⟩), trivial⟩ (by decide) (Opl.nil ?_)
  by_cases c4 : t1445 = true
  case neg =>
   rw [if_neg c4] at H
   obtain rfl : t1445 = false := by simpa using c4
   refine Evr.condF rfl (Evr.skip (Evr.inBlock (Evr.regionN rfl (Opl.one rfl rfl (by simp only [go_sem]; rfl) (Opl.one rfl rfl (by simp only [go_sem]; rfl) (Opl.nil ?_))))))
   exact ih1 _ (by omega) _ _ ⟨by omega, _, H, ⟨rfl, rfl, rfl, rfl, trivial⟩⟩
  rw [if_pos c4] at H
  obtain rfl : t1445 = true := by simpa using c4
  refine Evr.condT rfl (Evr.seq (Evr.regionN rfl (Opl.one rfl rfl (by simp only [go_sem]; rfl) (Opl.one rfl rfl (by simp only [go_sem]; rfl) (Opl.nil ?_)))))
  obtain rfl := Option.some.inj H
  refine Evr.ret1 Try.func330 rfl ?_
  show (.lit (.int .i64 x8_1) : PV) = _
  first | rfl | (simp only [go_sem]; rfl)
theorem slices_ContainsFunc_at_impl_SystemValid_2.ev {k : Nat} {l0 : List IRule} {v0 : PV} (hv0 : Sl cIRule l0 v0) {l2_0 : List IVar} {v2_0 : PV} (hv2_0 : Sl cIVar l2_0 v2_0) {l2_1 : List IRule} {v2_1 : PV} (hv2_1 : Sl cIRule l2_1 v2_1) {r : Bool} (H : slices_ContainsFunc_at_impl_SystemValid_2.f k l0 l2_0 l2_1 = some r) : Ret Try.prog 317 [v0, .fn 318 [.fel (v2_0 :: v2_1 :: [])]] fun v S => v = .lit (.bool r) := by
 unfold slices_ContainsFunc_at_impl_SystemValid_2.f at H
 refine Ret.intro Try.func317 rfl (Nat.le_of_ble_eq_true rfl) rfl ?_
 rw [tm2]
 refine Evr.seq (Evr.regionN rfl (Opl.one rfl rfl (by simp only [go_sem]; rfl) (Opl.nil (Evr.seq (Evr.regionN rfl (Opl.one rfl rfl (by simp only [go_sem]; rfl) (Opl.one rfl rfl (by simp only [go_sem]; rfl) ?_)))))))
 obtain ⟨t1447, h_t1447, H⟩ := Option.bind_eq_some_iff.1 H
 refine Opl.callc (slices_IndexFunc_at_impl_SystemValid_2.ev hv0 hv2_0 hv2_1 h_t1447) rfl rfl rfl rfl ⟨hv0.plain, (.fnL ⟨(.felL ⟨hv2_0.plain, hv2_1.plain, trivial⟩), trivial⟩), trivial⟩ (by decide) (Opl.one rfl rfl (by simp only [go_sem]; rfl) (Opl.one rfl rfl (by simp only [go_sem]; rfl) (Opl.nil ?_)))
 obtain rfl := Option.some.inj H
 refine Evr.ret1 Try.func317 rfl ?_
 show (.lit (.bool (decide (t1447 ≥ 0))) : PV) = _
 first | rfl | (simp only [go_sem]; rfl)
theorem impl_SystemValid.ev {k : Nat} {l0_0 : List IVar} {v0_0 : PV} (hv0_0 : Sl cIVar l0_0 v0_0) {l0_1 : List IRule} {v0_1 : PV} (hv0_1 : Sl cIRule l0_1 v0_1) {r : Bool} (H : impl_SystemValid.f k l0_0 l0_1 = some r) : Ret Try.prog 286 [.agg [v0_0, v0_1]] fun v S => v = .lit (.bool r) := by
 unfold impl_SystemValid.f at H
 refine Ret.intro Try.func286 rfl (Nat.le_of_ble_eq_true rfl) rfl ?_
 rw [tm1]
 refine Evr.seq (Evr.regionN rfl (Opl.box (cs := [v0_0, v0_1]) rfl rfl rfl rfl ?_))
 rintro i1 S h1 u1 w1
 refine Opl.one rfl rfl (by simp only [go_sem]; rfl) (Opl.nil (Evr.seq (Evr.seq ?_)))
 refine Evr.join (fun tm S => ∃ (kq1 : Nat) (x24_1 : Bool) (i2 : Abs.Id), impl_SystemValid.j0 kq1 x24_1 l0_0 l0_1 = some r ∧ Has tm [(1, .ptr i2 0), (24, .lit (.bool x24_1))] ∧ Box (.ptr i2 0) [v0_0, v0_1] S) ?_ fun hk1 => ?_
 ·
  rintro tm S ⟨kq1, x24_1, i2, H, hh, h2⟩
  rw [hh.eq]
  obtain _ | k1 := kq1
  · simp [impl_SystemValid.j0] at H
  simp only [impl_SystemValid.j0] at H
  by_cases c1 : x24_1 = true
  case pos =>
   rw [if_pos c1] at H
   obtain rfl : x24_1 = true := by simpa using c1
   refine Evr.condT rfl (Evr.seq (Evr.regionN rfl (Opl.one rfl rfl (by simp only [go_sem]; rfl) (Opl.nil ?_))))
   obtain rfl := Option.some.inj H
   refine Evr.ret1 Try.func286 rfl ?_
   show (.lit (.bool false) : PV) = _
   first | rfl | (simp only [go_sem]; rfl)
  rw [if_neg c1] at H
  obtain rfl : x24_1 = false := by simpa using c1
  refine Evr.condF rfl (Evr.skip (Evr.seq (Evr.regionN rfl (Opl.one (v := .ptr i2 1) rfl rfl (by simp only [go_sem]; rfl) (Opl.ldb (v := v0_1) h2 rfl T89 rfl rfl rfl rfl (Opl.one rfl rfl (by simp only [go_sem]; rfl) ?_))))))
  obtain ⟨t1452, h_t1452, H⟩ := Option.bind_eq_some_iff.1 H
  refine Opl.callw (slices_ContainsFunc_at_impl_SystemValid_2.ev hv0_1 hv0_0 hv0_1 h_t1452) rfl rfl rfl (.cons (.refl _) (.cons (View.fnV (.cons (View.boxV h2 (.cons (.refl _) (.cons (.refl _) .nil))) .nil)) .nil)) ⟨hv0_1.plain, (.fnL ⟨(.felL ⟨hv0_0.plain, hv0_1.plain, trivial⟩), trivial⟩), trivial⟩ (by decide) (Opl.one rfl rfl (by simp only [go_sem]; rfl) (Opl.one rfl rfl (by simp only [go_sem]; rfl) (Opl.nil ?_)))
  obtain rfl := Option.some.inj H
  refine Evr.ret1 Try.func286 rfl ?_
  show (.lit (.bool (!t1452)) : PV) = _
  first | rfl | (simp only [go_sem]; rfl)
 ·
  refine Evr.regionN rfl (Opl.one (v := .ptr i1 0) rfl rfl (by simp only [go_sem]; rfl) (Opl.ldb (v := v0_0) h1 rfl T88 rfl rfl rfl rfl (Opl.len (xs := l0_0) (by exact hv0_0) K88 rfl rfl rfl rfl ?_)))
  obtain ⟨t1449, h_t1449, H⟩ := Option.bind_eq_some_iff.1 H
  refine Opl.callc (impl_in.ev h_t1449) rfl rfl rfl rfl ⟨(.lit _), (.lit _), (.lit _), trivial⟩ (by decide) (Opl.one rfl rfl (by simp only [go_sem]; rfl) (Opl.one rfl rfl (by simp only [go_sem]; rfl) ?_))
  by_cases c2 : t1449 = true
  case neg =>
   rw [if_neg c2] at H
   have e4 : (!t1449) = true := by simpa using c2
   try rw [e4]
   refine Opl.skp rfl (Opl.skp rfl (Opl.skp rfl (Opl.skp rfl (Opl.one rfl rfl (by simp only [go_sem]; rfl) (Opl.one rfl rfl (by simp only [go_sem]; rfl) (Opl.skp rfl (Opl.skp rfl (Opl.skp rfl (Opl.one rfl rfl (by simp only [go_sem]; rfl) (Opl.one rfl rfl (by simp only [go_sem]; rfl) (Opl.skp rfl (Opl.skp rfl (Opl.skp rfl (Opl.skp rfl (Opl.one rfl rfl (by simp only [go_sem]; rfl) (Opl.nil ?_))))))))))))))))
   exact hk1 _ _ ⟨_, _, _, H, ⟨rfl, (by first | rfl | (show PV.lit (.bool _) = _; congr 2; simp_all)), trivial⟩, h1⟩
  rw [if_pos c2] at H
  have e1 : (!t1449) = false := by simpa using c2
  try rw [e1]
  refine Opl.one (v := .ptr i1 1) rfl rfl (by simp only [go_sem]; rfl) (Opl.ldb (v := v0_1) h1 rfl T89 rfl rfl rfl rfl (Opl.len (xs := l0_1) (by exact hv0_1) K89 rfl rfl rfl rfl (Opl.one rfl rfl (by simp only [go_sem]; rfl) (Opl.one rfl rfl (by simp only [go_sem]; rfl) (Opl.one rfl rfl (by simp only [go_sem]; rfl) ?_)))))
  by_cases c3 : (l0_1.length : Int) > 8
  case pos =>
   rw [if_pos c3] at H
   have e2 : (decide ((l0_1.length : Int) > 8)) = true := by simpa using c3
   try rw [e2]
   refine Opl.skp rfl (Opl.skp rfl (Opl.skp rfl (Opl.one rfl rfl (by simp only [go_sem]; rfl) (Opl.one rfl rfl (by simp only [go_sem]; rfl) (Opl.skp rfl (Opl.skp rfl (Opl.skp rfl (Opl.skp rfl (Opl.one rfl rfl (by simp only [go_sem]; rfl) (Opl.nil ?_))))))))))
   exact hk1 _ _ ⟨_, _, _, H, ⟨rfl, (by first | rfl | (show PV.lit (.bool _) = _; congr 2; simp_all)), trivial⟩, h1⟩
  rw [if_neg c3] at H
  have e3 : (decide ((l0_1.length : Int) > 8)) = false := by simpa using c3
  try rw [e3]
  refine Opl.one (v := .ptr i1 0) rfl rfl (by simp only [go_sem]; rfl) (Opl.ldb (v := v0_0) h1 rfl T88 rfl rfl rfl rfl ?_)
  obtain ⟨t1450, h_t1450, H⟩ := Option.bind_eq_some_iff.1 H
  refine Opl.callc (slices_ContainsFunc_at_impl_SystemValid_1.ev hv0_0 h_t1450) rfl rfl rfl rfl ⟨hv0_0.plain, (.lit _), trivial⟩ (by decide) (Opl.one rfl rfl (by simp only [go_sem]; rfl) (Opl.one rfl rfl (by simp only [go_sem]; rfl) ?_))
  by_cases c4 : t1450 = true
  case pos =>
   rw [if_pos c4] at H
   obtain rfl : t1450 = true := by simpa using c4
   refine Opl.skp rfl (Opl.skp rfl (Opl.skp rfl (Opl.skp rfl (Opl.one rfl rfl (by simp only [go_sem]; rfl) (Opl.nil ?_)))))
   exact hk1 _ _ ⟨_, _, _, H, ⟨rfl, (by first | rfl | (show PV.lit (.bool _) = _; congr 2; simp_all)), trivial⟩, h1⟩
  rw [if_neg c4] at H
  obtain rfl : t1450 = false := by simpa using c4
  refine Opl.one (v := .ptr i1 0) rfl rfl (by simp only [go_sem]; rfl) (Opl.ldb (v := v0_0) h1 rfl T88 rfl rfl rfl rfl ?_)
  obtain ⟨t1451, h_t1451, H⟩ := Option.bind_eq_some_iff.1 H
  refine Opl.callc (impl_size.ev hv0_0 h_t1451) rfl rfl rfl rfl ⟨hv0_0.plain, trivial⟩ (by decide) (Opl.one rfl rfl (by simp only [go_sem]; rfl) (Opl.one rfl rfl (by simp only [go_sem]; rfl) (Opl.nil ?_)))
  exact hk1 _ _ ⟨_, _, _, H, ⟨rfl, (by first | rfl | (show PV.lit (.bool _) = _; congr 2; simp_all)), trivial⟩, h1⟩
theorem impl_factsOk_1.ev {k : Nat} {l0 : List ITerm} {v0 : PV} (hv0 : Sl cITerm l0 v0) {l1_0 : List IVar} {v1_0 : PV} (hv1_0 : Sl cIVar l1_0 v1_0) {l1_1 : List IRule} {v1_1 : PV} (hv1_1 : Sl cIRule l1_1 v1_1) {r : Bool} (H : impl_factsOk_1.f k l0 l1_0 l1_1 = some r) : Ret Try.prog 288 [v0, .fel (v1_0 :: v1_1 :: [])] fun v S => v = .lit (.bool r) := by
 unfold impl_factsOk_1.f at H
 refine Ret.intro Try.func288 rfl (Nat.le_of_ble_eq_true rfl) rfl ?_
 rw [tm2]
 refine Evr.seq (Evr.regionN rfl (Opl.one rfl rfl (by simp only [go_sem]; rfl) (Opl.nil (Evr.seq (Evr.regionN rfl (Opl.one rfl rfl (by simp only [go_sem]; rfl) (Opl.one (v := .fel (v1_0 :: v1_1 :: [])) rfl rfl (by simp only [go_sem]; rfl) (Opl.lda (v1_0) rfl T88 rfl rfl rfl rfl (Opl.len (xs := l1_0) (by exact hv1_0) K88 rfl rfl rfl rfl ?_)))))))))
 obtain ⟨t1454, h_t1454, H⟩ := Option.bind_eq_some_iff.1 H
 refine Opl.callc (impl_kindOf.ev hv0 h_t1454) rfl rfl rfl rfl ⟨hv0.plain, (.lit _), trivial⟩ (by decide) (Opl.one rfl rfl (by simp only [go_sem]; rfl) (Opl.one rfl rfl (by simp only [go_sem]; rfl) (Opl.nil ?_)))
 obtain rfl := Option.some.inj H
 refine Evr.ret1 Try.func288 rfl ?_
 show (.lit (.bool (t1454 != 2)) : PV) = _
 first | rfl | (simp only [go_sem]; rfl)
theorem slices_IndexFunc_at_impl_factsOk_1.ev {k : Nat} {l0 : List (List ITerm)} {v0 : PV} (hv0 : Sl (cSl cITerm) l0 v0) {l2_0 : List IVar} {v2_0 : PV} (hv2_0 : Sl cIVar l2_0 v2_0) {l2_1 : List IRule} {v2_1 : PV} (hv2_1 : Sl cIRule l2_1 v2_1) {r : Int} (H : slices_IndexFunc_at_impl_factsOk_1.f k l0 l2_0 l2_1 = some r) : Ret Try.prog 320 [v0, .fn 288 [.fel (v2_0 :: v2_1 :: [])]] fun v S => v = .lit (.int .i64 r) := by
 unfold slices_IndexFunc_at_impl_factsOk_1.f at H
 refine Ret.intro Try.func320 rfl (Nat.le_of_ble_eq_true rfl) rfl ?_
 rw [tm2]
 refine Evr.seq (Evr.regionN rfl (Opl.one rfl rfl (by simp only [go_sem]; rfl) (Opl.nil (Evr.seq (Evr.seq (Evr.regionN rfl (Opl.one rfl rfl (by simp only [go_sem]; rfl) (Opl.len (xs := l0) (by exact hv0) K93 rfl rfl rfl rfl (Opl.one rfl rfl (by simp only [go_sem]; rfl) (Opl.nil (Evr.block ?_)))))))))))
 refine Evr.loop (Evr.rounds (n := k) (Inv := fun n tm S => n ≤ k ∧ ∃ (x8_1 : Int), slices_IndexFunc_at_impl_factsOk_1.l0 n l0 (l0.length : Int) x8_1 l2_0 l2_1 = some r ∧ Has tm [(0, v0), (1, .fn 288 [.fel (v2_0 :: v2_1 :: [])]), (7, .lit (.int .i64 (l0.length : Int))), (8, .lit (.int .i64 x8_1))]) ?_ ?_ ?_)
 · exact ⟨Nat.le_refl _, _, H, ⟨rfl, rfl, rfl, rfl, trivial⟩⟩
 ·
  rintro tm S ⟨_, _, H, -⟩
  simp [slices_IndexFunc_at_impl_factsOk_1.l0] at H
 ·
  rintro n1 ih1 tm S ⟨hle, x8_1, H, hh⟩
  simp only [slices_IndexFunc_at_impl_factsOk_1.l0] at H
  rw [hh.eq]
  refine Evr.seq (Evr.regionN rfl (Opl.one rfl rfl (by simp only [go_sem]; rfl) (Opl.nil (Evr.seq ?_))))
  by_cases c1 : x8_1 < (l0.length : Int)
  case neg =>
   rw [if_neg c1] at H
   have e2 : (decide (x8_1 < (l0.length : Int))) = false := by simpa using c1
   try rw [e2]
   refine Evr.condF rfl (Evr.exit rfl (Evr.seq (Evr.regionN rfl (Opl.one rfl rfl (by simp only [go_sem]; rfl) (Opl.nil ?_)))))
   obtain rfl := Option.some.inj H
   refine Evr.ret1 Try.func320 rfl ?_
   show (.lit (.int .i64 (-1)) : PV) = _
   first | rfl | (simp only [go_sem]; rfl)
  rw [if_pos c1] at H
  have e1 : (decide (x8_1 < (l0.length : Int))) = true := by simpa using c1
  try rw [e1]
  refine Evr.condT rfl (Evr.skip (Evr.seq (Evr.block (Evr.seq (Evr.regionN rfl (Opl.one rfl rfl (by simp only [go_sem]; rfl) (Opl.one rfl rfl (by simp only [go_sem]; rfl) (Opl.nil (Evr.seq (Evr.regionN rfl (Opl.one rfl rfl (by simp only [go_sem]; rfl) (Opl.one rfl rfl (by simp only [go_sem]; rfl) (Opl.one rfl rfl (by simp only [go_sem]; rfl) ?_)))))))))))))
  obtain ⟨c2, H⟩ := peel H
  obtain ⟨c3, H⟩ := peel H
  refine Opl.idx (M := (cSl cITerm)) (xs := l0) (j := x8_1) ([] : List ITerm) (by exact hv0) rfl (by first | omega | (simp only [List.length_set] at *; omega)) (by first | omega | (simp only [List.length_set] at *; omega)) K93 Z176 rfl rfl ?_
  rintro p1 q1 h1
  obtain ⟨pv1, rfl, h2⟩ := h1
  refine Opl.lda (pv1) rfl T176 rfl rfl rfl rfl ?_
  obtain ⟨t1457, h_t1457, H⟩ := Option.bind_eq_some_iff.1 H
  refine Opl.callc (impl_factsOk_1.ev h2 hv2_0 hv2_1 h_t1457) rfl rfl rfl rfl ⟨h2.plain, (.felL ⟨hv2_0.plain, hv2_1.plain, trivial⟩), trivial⟩ (by decide) (Opl.nil ?_)
  by_cases c4 : t1457 = true
  case neg =>
   rw [if_neg c4] at H
   obtain rfl : t1457 = false := by simpa using c4
   refine Evr.condF rfl (Evr.skip (Evr.inBlock (Evr.regionN rfl (Opl.one rfl rfl (by simp only [go_sem]; rfl) (Opl.one rfl rfl (by simp only [go_sem]; rfl) (Opl.nil ?_))))))
   exact ih1 _ (by omega) _ _ ⟨by omega, _, H, ⟨rfl, rfl, rfl, rfl, trivial⟩⟩
  rw [if_pos c4] at H
  obtain rfl : t1457 = true := by simpa using c4
  refine Evr.condT rfl (Evr.seq (Evr.regionN rfl (Opl.one rfl rfl (by simp only [go_sem]; rfl) (Opl.one rfl rfl (by simp only [go_sem]; rfl) (Opl.nil ?_)))))
  obtain rfl := Option.some.inj H
  refine Evr.ret1 Try.func320 rfl ?_
  show (.lit (.int .i64 x8_1) : PV) = _
  first | rfl | (simp only [go_sem]; rfl)
theorem slices_ContainsFunc_at_impl_factsOk_1.ev {k : Nat} {l0 : List (List ITerm)} {v0 : PV} (hv0 : Sl (cSl cITerm) l0 v0) {l2_0 : List IVar} {v2_0 : PV} (hv2_0 : Sl cIVar l2_0 v2_0) {l2_1 : List IRule} {v2_1 : PV} (hv2_1 : Sl cIRule l2_1 v2_1) {r : Bool} (H : slices_ContainsFunc_at_impl_factsOk_1.f k l0 l2_0 l2_1 = some r) : Ret Try.prog 287 [v0, .fn 288 [.fel (v2_0 :: v2_1 :: [])]] fun v S => v = .lit (.bool r) := by
 unfold slices_ContainsFunc_at_impl_factsOk_1.f at H
 refine Ret.intro Try.func287 rfl (Nat.le_of_ble_eq_true rfl) rfl ?_
 rw [tm2]
 refine Evr.seq (Evr.regionN rfl (Opl.one rfl rfl (by simp only [go_sem]; rfl) (Opl.nil (Evr.seq (Evr.regionN rfl (Opl.one rfl rfl (by simp only [go_sem]; rfl) (Opl.one rfl rfl (by simp only [go_sem]; rfl) ?_)))))))
 obtain ⟨t1459, h_t1459, H⟩ := Option.bind_eq_some_iff.1 H
 refine Opl.callc (slices_IndexFunc_at_impl_factsOk_1.ev hv0 hv2_0 hv2_1 h_t1459) rfl rfl rfl rfl ⟨hv0.plain, (.fnL ⟨(.felL ⟨hv2_0.plain, hv2_1.plain, trivial⟩), trivial⟩), trivial⟩ (by decide) (Opl.one rfl rfl (by simp only [go_sem]; rfl) (Opl.one rfl rfl (by simp only [go_sem]; rfl) (Opl.nil ?_)))
 obtain rfl := Option.some.inj H
 refine Evr.ret1 Try.func287 rfl ?_
 show (.lit (.bool (decide (t1459 ≥ 0))) : PV) = _
 first | rfl | (simp only [go_sem]; rfl)
theorem impl_factsOk.ev {k : Nat} {l0_0 : List IVar} {v0_0 : PV} (hv0_0 : Sl cIVar l0_0 v0_0) {l0_1 : List IRule} {v0_1 : PV} (hv0_1 : Sl cIRule l0_1 v0_1) {l1 : List (List ITerm)} {v1 : PV} (hv1 : Sl (cSl cITerm) l1 v1) {r : Bool} (H : impl_factsOk.f k l0_0 l0_1 l1 = some r) : Ret Try.prog 247 [.agg [v0_0, v0_1], v1] fun v S => v = .lit (.bool r) := by
 unfold impl_factsOk.f at H
 refine Ret.intro Try.func247 rfl (Nat.le_of_ble_eq_true rfl) rfl ?_
 rw [tm2]
 refine Evr.seq (Evr.regionN rfl (Opl.box (cs := [v0_0, v0_1]) rfl rfl rfl rfl ?_))
 rintro i1 S h1 u1 w1
 refine Opl.one rfl rfl (by simp only [go_sem]; rfl) (Opl.nil (Evr.seq (Evr.regionN rfl (Opl.ldb (v := .agg [v0_0, v0_1]) h1 rfl T91 rfl rfl rfl rfl ?_))))
 obtain ⟨t1461, h_t1461, H⟩ := Option.bind_eq_some_iff.1 H
 refine Opl.callc (impl_SystemValid.ev hv0_0 hv0_1 h_t1461) rfl rfl rfl rfl ⟨(.aggL ⟨hv0_0.plain, hv0_1.plain, trivial⟩), trivial⟩ (by decide) (Opl.one rfl rfl (by simp only [go_sem]; rfl) ?_)
 by_cases c1 : t1461 = true
 case neg =>
  rw [if_neg c1] at H
  obtain rfl : t1461 = false := by simpa using c1
  refine Opl.skp rfl (Opl.skp rfl (Opl.skp rfl (Opl.one rfl rfl (by simp only [go_sem]; rfl) (Opl.one rfl rfl (by simp only [go_sem]; rfl) (Opl.skp rfl (Opl.skp rfl (Opl.skp rfl (Opl.skp rfl (Opl.one rfl rfl (by simp only [go_sem]; rfl) (Opl.one rfl rfl (by simp only [go_sem]; rfl) (Opl.nil ?_)))))))))))
  obtain rfl := Option.some.inj H
  refine Evr.ret1 Try.func247 rfl ?_
  show (.lit (.bool false) : PV) = _
  first | rfl | (simp only [go_sem]; rfl)
 rw [if_pos c1] at H
 obtain rfl : t1461 = true := by simpa using c1
 refine Opl.one rfl rfl (by simp only [go_sem]; rfl) (Opl.len (xs := l1) (by exact hv1) K93 rfl rfl rfl rfl (Opl.one rfl rfl (by simp only [go_sem]; rfl) (Opl.one rfl rfl (by simp only [go_sem]; rfl) (Opl.one rfl rfl (by simp only [go_sem]; rfl) ?_))))
 by_cases c2 : (l1.length : Int) ≤ 4
 case neg =>
  rw [if_neg c2] at H
  have e2 : (decide ((l1.length : Int) ≤ 4)) = false := by simpa using c2
  try rw [e2]
  refine Opl.skp rfl (Opl.skp rfl (Opl.skp rfl (Opl.skp rfl (Opl.one rfl rfl (by simp only [go_sem]; rfl) (Opl.one rfl rfl (by simp only [go_sem]; rfl) (Opl.nil ?_))))))
  obtain rfl := Option.some.inj H
  refine Evr.ret1 Try.func247 rfl ?_
  show (.lit (.bool false) : PV) = _
  first | rfl | (simp only [go_sem]; rfl)
 rw [if_pos c2] at H
 have e1 : (decide ((l1.length : Int) ≤ 4)) = true := by simpa using c2
 try rw [e1]
 refine Opl.one rfl rfl (by simp only [go_sem]; rfl) (Opl.one rfl rfl (by simp only [go_sem]; rfl) ?_)
 obtain ⟨t1462, h_t1462, H⟩ := Option.bind_eq_some_iff.1 H
 refine Opl.callw (slices_ContainsFunc_at_impl_factsOk_1.ev hv1 hv0_0 hv0_1 h_t1462) rfl rfl rfl (.cons (.refl _) (.cons (View.fnV (.cons (View.boxV h1 (.cons (.refl _) (.cons (.refl _) .nil))) .nil)) .nil)) ⟨hv1.plain, (.fnL ⟨(.felL ⟨hv0_0.plain, hv0_1.plain, trivial⟩), trivial⟩), trivial⟩ (by decide) (Opl.one rfl rfl (by simp only [go_sem]; rfl) (Opl.one rfl rfl (by simp only [go_sem]; rfl) (Opl.one rfl rfl (by simp only [go_sem]; rfl) (Opl.nil ?_))))
 obtain rfl := Option.some.inj H
 refine Evr.ret1 Try.func247 rfl ?_
 show (.lit (.bool (!t1462)) : PV) = _
 first | rfl | (simp only [go_sem]; rfl)
theorem impl_askTime.ev {k : Nat} {l0_0 : List IVar} {v0_0 : PV} (hv0_0 : Sl cIVar l0_0 v0_0) {l0_1 : List IRule} {v0_1 : PV} (hv0_1 : Sl cIRule l0_1 v0_1) {l1 : List (List ITerm)} {v1 : PV} (hv1 : Sl (cSl cITerm) l1 v1) {l2 : List ITime} {v2 : PV} (hv2 : Sl cITime l2 v2) {r : Bool} (H : impl_askTime.f k l0_0 l0_1 l1 l2 = some r) : Ret Try.prog 149 [.agg [v0_0, v0_1], v1, v2] fun v S => v = .lit (.bool r) := by
 unfold impl_askTime.f at H
 refine Ret.intro Try.func149 rfl (Nat.le_of_ble_eq_true rfl) rfl ?_
 rw [tm3]
 refine Evr.seq (Evr.regionN rfl (Opl.box (cs := [v0_0, v0_1]) rfl rfl rfl rfl ?_))
 rintro i1 S h1 u1 w1
 refine Opl.one rfl rfl (by simp only [go_sem]; rfl) (Opl.nil (Evr.seq (Evr.regionN rfl (Opl.ldb (v := .agg [v0_0, v0_1]) h1 rfl T91 rfl rfl rfl rfl (Opl.one rfl rfl (by simp only [go_sem]; rfl) ?_)))))
 obtain ⟨t1464, h_t1464, H⟩ := Option.bind_eq_some_iff.1 H
 refine Opl.callc (impl_factsOk.ev hv0_0 hv0_1 hv1 h_t1464) rfl rfl rfl rfl ⟨(.aggL ⟨hv0_0.plain, hv0_1.plain, trivial⟩), hv1.plain, trivial⟩ (by decide) (Opl.one rfl rfl (by simp only [go_sem]; rfl) ?_)
 by_cases c1 : t1464 = true
 case neg =>
  rw [if_neg c1] at H
  obtain rfl : t1464 = false := by simpa using c1
  refine Opl.skp rfl (Opl.skp rfl (Opl.skp rfl (Opl.skp rfl (Opl.skp rfl (Opl.one rfl rfl (by simp only [go_sem]; rfl) (Opl.one rfl rfl (by simp only [go_sem]; rfl) (Opl.skp rfl (Opl.skp rfl (Opl.skp rfl (Opl.skp rfl (Opl.one rfl rfl (by simp only [go_sem]; rfl) (Opl.one rfl rfl (by simp only [go_sem]; rfl) (Opl.nil ?_)))))))))))))
  obtain rfl := Option.some.inj H
  refine Evr.ret1 Try.func149 rfl ?_
  show (.lit (.bool false) : PV) = _
  first | rfl | (simp only [go_sem]; rfl)
 rw [if_pos c1] at H
 obtain rfl : t1464 = true := by simpa using c1
 refine Opl.one rfl rfl (by simp only [go_sem]; rfl) (Opl.one rfl rfl (by simp only [go_sem]; rfl) (Opl.len (xs := l1) (by exact hv1) K93 rfl rfl rfl rfl ?_))
 obtain ⟨t1465, h_t1465, H⟩ := Option.bind_eq_some_iff.1 H
 refine Opl.callc (impl_GuessCount.ev hv2 h_t1465) rfl rfl rfl rfl ⟨hv2.plain, (.lit _), trivial⟩ (by decide) (Opl.one rfl rfl (by simp only [go_sem]; rfl) (Opl.one rfl rfl (by simp only [go_sem]; rfl) (Opl.one rfl rfl (by simp only [go_sem]; rfl) ?_)))
 by_cases c2 : t1465 > 0
 case neg =>
  rw [if_neg c2] at H
  have e2 : (decide (t1465 > 0)) = false := by simpa using c2
  try rw [e2]
  refine Opl.skp rfl (Opl.skp rfl (Opl.skp rfl (Opl.skp rfl (Opl.one rfl rfl (by simp only [go_sem]; rfl) (Opl.one rfl rfl (by simp only [go_sem]; rfl) (Opl.nil ?_))))))
  obtain rfl := Option.some.inj H
  refine Evr.ret1 Try.func149 rfl ?_
  show (.lit (.bool false) : PV) = _
  first | rfl | (simp only [go_sem]; rfl)
 rw [if_pos c2] at H
 have e1 : (decide (t1465 > 0)) = true := by simpa using c2
 try rw [e1]
 refine Opl.one (v := .ptr i1 0) rfl rfl (by simp only [go_sem]; rfl) (Opl.ldb (v := v0_0) h1 rfl T88 rfl rfl rfl rfl ?_)
 obtain ⟨t1466, h_t1466, H⟩ := Option.bind_eq_some_iff.1 H
 refine Opl.callc (impl_size.ev hv0_0 h_t1466) rfl rfl rfl rfl ⟨hv0_0.plain, trivial⟩ (by decide) (Opl.one rfl rfl (by simp only [go_sem]; rfl) (Opl.one rfl rfl (by simp only [go_sem]; rfl) (Opl.one rfl rfl (by simp only [go_sem]; rfl) (Opl.nil ?_))))
 obtain rfl := Option.some.inj H
 refine Evr.ret1 Try.func149 rfl ?_
 show (.lit (.bool (decide (t1466 ≤ 50))) : PV) = _
 first | rfl | (simp only [go_sem]; rfl)
theorem impl_ProductSize.ev {k : Nat} {l0_0 : List IVar} {v0_0 : PV} (hv0_0 : Sl cIVar l0_0 v0_0) {l0_1 : List IRule} {v0_1 : PV} (hv0_1 : Sl cIRule l0_1 v0_1) {l1 : List (List ITerm)} {v1 : PV} (hv1 : Sl (cSl cITerm) l1 v1) {l2 : List ITime} {v2 : PV} (hv2 : Sl cITime l2 v2) {r : Int} (H : impl_ProductSize.f k l0_0 l0_1 l1 l2 = some r) : Ret Try.prog 59 [.agg [v0_0, v0_1], v1, v2] fun v S => v = .lit (.int .i64 r) := by
 unfold impl_ProductSize.f at H
 refine Ret.intro Try.func59 rfl (Nat.le_of_ble_eq_true rfl) rfl ?_
 rw [tm3]
 refine Evr.seq (Evr.regionN rfl (Opl.box (cs := [v0_0, v0_1]) rfl rfl rfl rfl ?_))
 rintro i1 S h1 u1 w1
 refine Opl.one rfl rfl (by simp only [go_sem]; rfl) (Opl.nil (Evr.seq (Evr.seq (Evr.regionN rfl (Opl.ldb (v := .agg [v0_0, v0_1]) h1 rfl T91 rfl rfl rfl rfl (Opl.one rfl rfl (by simp only [go_sem]; rfl) (Opl.one rfl rfl (by simp only [go_sem]; rfl) ?_)))))))
 obtain ⟨t1468, h_t1468, H⟩ := Option.bind_eq_some_iff.1 H
 refine Opl.callc (impl_askTime.ev hv0_0 hv0_1 hv1 hv2 h_t1468) rfl rfl rfl rfl ⟨(.aggL ⟨hv0_0.plain, hv0_1.plain, trivial⟩), hv1.plain, hv2.plain, trivial⟩ (by decide) (Opl.one rfl rfl (by simp only [go_sem]; rfl) (Opl.nil ?_))
 by_cases c1 : t1468 = true
 case neg =>
  rw [if_neg c1] at H
  have e2 : (!t1468) = true := by simpa using c1
  try rw [e2]
  refine Evr.condT rfl (Evr.seq (Evr.regionN rfl (Opl.one rfl rfl (by simp only [go_sem]; rfl) (Opl.nil ?_))))
  obtain rfl := Option.some.inj H
  refine Evr.ret1 Try.func59 rfl ?_
  show (.lit (.int .i64 0) : PV) = _
  first | rfl | (simp only [go_sem]; rfl)
 rw [if_pos c1] at H
 have e1 : (!t1468) = false := by simpa using c1
 try rw [e1]
 refine Evr.condF rfl (Evr.skip (Evr.seq (Evr.regionN rfl (Opl.one (v := .ptr i1 0) rfl rfl (by simp only [go_sem]; rfl) (Opl.ldb (v := v0_0) h1 rfl T88 rfl rfl rfl rfl ?_)))))
 obtain ⟨t1469, h_t1469, H⟩ := Option.bind_eq_some_iff.1 H
 refine Opl.callc (impl_size.ev hv0_0 h_t1469) rfl rfl rfl rfl ⟨hv0_0.plain, trivial⟩ (by decide) (Opl.one rfl rfl (by simp only [go_sem]; rfl) (Opl.one rfl rfl (by simp only [go_sem]; rfl) (Opl.len (xs := l1) (by exact hv1) K93 rfl rfl rfl rfl ?_)))
 obtain ⟨t1470, h_t1470, H⟩ := Option.bind_eq_some_iff.1 H
 refine Opl.callc (impl_GuessCount.ev hv2 h_t1470) rfl rfl rfl rfl ⟨hv2.plain, (.lit _), trivial⟩ (by decide) (Opl.one rfl rfl (by simp only [go_sem]; rfl) (Opl.one rfl rfl (by simp only [go_sem]; rfl) (Opl.nil ?_)))
 obtain rfl := Option.some.inj H
 refine Evr.ret1 Try.func59 rfl ?_
 show (.lit (.int .i64 (wrap64 (t1469 * t1470))) : PV) = _
 first | rfl | (simp only [go_sem]; rfl)
end Go.Proofs.Ytjgfpgoaabppbaa.PA
end

/- Joined texts. -/
import Derived.Test.YtlhofpglndhfaaaGreatDoorProg
import Derived.KernelRfl
import Derived.Test.YtlhofpglndhfaaaGreatDoorS1
import Derived.Test.YtlhofpglndhfaaaGreatDoorS7
import Derived.Test.YtlhofpglndhfaaaGreatDoorS14
import Derived.Test.YtlhofpglndhfaaaGreatDoorS15
import Derived.Test.YtlhofpglndhfaaaGreatDoorS16
import Derived.Test.YtlhofpglndhfaaaGreatDoorS17
import Derived.Test.YtlhofpglndhfaaaGreatDoorS18
import Derived.Test.YtlhofpglndhfaaaGreatDoorS30
import Derived.Test.YtlhofpglndhfaaaGreatDoorS31
set_option linter.unusedVariables false
set_option linter.unusedSimpArgs false
namespace Go.Proofs.YtlhofpglndhfaaaGreatDoor
open Go.RowKit
set_option maxRecDepth 100000
theorem eG(inf:TypeInfo){t:TypeId}{i:TI}{d:TypeDesc}(hd:Tryz.prog.underlying t=some d)
  (hk:match i.kd with
  | .bool=>d=.bool
  | .int k=>d=.int k
  | .string=>d=.string
  | .slice e=>d=.slice e
  | .array n e=>d=.array n e
  | .struct fs=>∃ fields,d=.struct fields∧fields.toList.map (λ f=>(f.offset,f.type))=fs∧(fields.toList.all λ f=>match Tryz.prog.info? f.type with|some i=> !(i.size==0)|none=>false)=true
  |_=>True) (he:i.eq≠[]→UW Tryz.prog t i.eq:=by exact λ h=>absurd rfl h) (h1:Tryz.prog.info? t=some inf:=by kernel_rfl) (h2:inf.zero=some (inf.zero.getD .nilFunc):=by rfl) (h3:i.zero=MW (inf.zero.getD .nilFunc):=by rfl) (hc:SZ Tryz.prog inf (inf.zero.getD .nilFunc) i=true:=by kernel_rfl) (hrow:d.isRow=i.ag:=by rfl):TyOk Tryz.prog t i:=
 Qj h1 h2 h3 hc hd hrow hk he
abbrev Xx:TI:=⟨.int .u32,1,false,.v (.int .u32 0),4,[]⟩
set_option maxRecDepth 100000
abbrev gY:TI:=⟨.func,1,false,.v .nilFunc,8,[]⟩
def tys:TT:=.node 121 (.node 65 (.node 37 (.node 25 (.node 12 (.node 4 (.node 2 (.leaf 1 gY) (.node 3 (.leaf 2 ⟨.int .i64,1,false,.v (.int .i64 0),8,[]⟩) (.leaf 3 ⟨.int .i64,1,false,.v (.int .i64 0),8,[]⟩))) (.node 5 (.leaf 4 ⟨.bool,1,false,.v (.bool false),1,[]⟩) (.node 9 (.leaf 5 ⟨.int .u8,1,false,.v (.int .u8 0),1,[]⟩) (.leaf 9 ⟨.string,1,false,.v (.string ⟨#[]⟩),16,[]⟩)))) (.node 22 (.node 13 (.leaf 12 ⟨.int .u64,1,false,.v (.int .u64 0),8,[]⟩) (.node 21 (.leaf 13 ⟨.struct [(0,9),(1,12)],2,true,.agg [.v (.string ⟨#[]⟩),.v (.int .u64 0)],24,[]⟩) (.leaf 21 ⟨.int .i32,1,false,.v (.int .i32 0),4,[]⟩))) (.node 23 (.leaf 22 ⟨.slice 3,1,false,.sl 0 [] true,24,[]⟩) (.node 24 (.leaf 23 ⟨.slice 26,1,false,.sl 0 [] true,24,[]⟩) (.leaf 24 ⟨.struct [(0,3),(1,3),(2,3),(3,3),(4,3),(5,3),(6,3),(7,3),(8,22),(9,4),(10,23)],11,true,.agg [.v (.int .i64 0),.v (.int .i64 0),.v (.int .i64 0),.v (.int .i64 0),.v (.int .i64 0),.v (.int .i64 0),.v (.int .i64 0),.v (.int .i64 0),.sl 0 [] true,.v (.bool false),.sl 0 [] true],120,[]⟩))))) (.node 31 (.node 28 (.node 26 (.leaf 25 ⟨.struct [(0,3),(1,3),(2,3),(3,3),(4,3),(5,3),(6,3),(7,3),(8,22),(9,4),(10,23)],11,true,.agg [.v (.int .i64 0),.v (.int .i64 0),.v (.int .i64 0),.v (.int .i64 0),.v (.int .i64 0),.v (.int .i64 0),.v (.int .i64 0),.v (.int .i64 0),.sl 0 [] true,.v (.bool false),.sl 0 [] true],120,[]⟩) (.node 27 (.leaf 26 Xx) (.leaf 27 ⟨.array 32 26,32,true,.agg [zU,zU,zU,zU,zU,zU,zU,zU,zU,zU,zU,zU,zU,zU,zU,zU,zU,zU,zU,zU,zU,zU,zU,zU,zU,zU,zU,zU,zU,zU,zU,zU],128,[.i,.i,.i,.i,.i,.i,.i,.i,.i,.i,.i,.i,.i,.i,.i,.i,.i,.i,.i,.i,.i,.i,.i,.i,.i,.i,.i,.i,.i,.i,.i,.i]⟩))) (.node 29 (.leaf 28 ⟨.slice 127,1,false,.sl 0 [] true,24,[]⟩) (.node 30 (.leaf 29 ⟨.slice 95,1,false,.sl 0 [] true,24,[]⟩) (.leaf 30 ⟨.slice 99,1,false,.sl 0 [] true,24,[]⟩)))) (.node 34 (.node 32 (.leaf 31 ⟨.slice 78,1,false,.sl 0 [] true,24,[]⟩) (.node 33 (.leaf 32 ⟨.struct [(0,3),(1,31)],2,true,.agg [.v (.int .i64 0),.sl 0 [] true],32,[]⟩) (.leaf 33 ⟨.struct [(0,3),(1,31)],2,true,.agg [.v (.int .i64 0),.sl 0 [] true],32,[]⟩))) (.node 35 (.leaf 34 ⟨.slice 69,1,false,.sl 0 [] true,24,[]⟩) (.node 36 (.leaf 35 ⟨.slice 88,1,false,.sl 0 [] true,24,[]⟩) (.leaf 36 ⟨.struct [(0,35),(1,26),(2,23)],3,true,.agg [.sl 0 [] true,zU,.sl 0 [] true],56,[]⟩)))))) (.node 49 (.node 43 (.node 40 (.node 38 (.leaf 37 ⟨.struct [(0,35),(1,26),(2,23)],3,true,.agg [.sl 0 [] true,zU,.sl 0 [] true],56,[]⟩) (.node 39 (.leaf 38 ⟨.slice 57,1,false,.sl 0 [] true,24,[]⟩) (.leaf 39 ⟨.struct [(0,25),(11,23),(12,3),(13,27),(45,26),(46,4),(47,28),(48,29),(49,3),(50,30),(51,33),(53,33),(55,34),(56,3),(57,3),(58,9),(59,37),(62,3),(63,38)],64,true,.agg [.v (.int .i64 0),.v (.int .i64 0),.v (.int .i64 0),.v (.int .i64 0),.v (.int .i64 0),.v (.int .i64 0),.v (.int .i64 0),.v (.int .i64 0),.sl 0 [] true,.v (.bool false),.sl 0 [] true,.sl 0 [] true,.v (.int .i64 0),zU,zU,zU,zU,zU,zU,zU,zU,zU,zU,zU,zU,zU,zU,zU,zU,zU,zU,zU,zU,zU,zU,zU,zU,zU,zU,zU,zU,zU,zU,zU,zU,zU,.v (.bool false),.sl 0 [] true,.sl 0 [] true,.v (.int .i64 0),.sl 0 [] true,.v (.int .i64 0),.sl 0 [] true,.v (.int .i64 0),.sl 0 [] true,.sl 0 [] true,.v (.int .i64 0),.v (.int .i64 0),.v (.string ⟨#[]⟩),.sl 0 [] true,zU,.sl 0 [] true,.v (.int .i64 0),.sl 0 [] true],576,[]⟩))) (.node 41 (.leaf 40 ⟨.struct [(0,25),(11,23),(12,3),(13,27),(45,26),(46,4),(47,28),(48,29),(49,3),(50,30),(51,33),(53,33),(55,34),(56,3),(57,3),(58,9),(59,37),(62,3),(63,38)],64,true,.agg [.v (.int .i64 0),.v (.int .i64 0),.v (.int .i64 0),.v (.int .i64 0),.v (.int .i64 0),.v (.int .i64 0),.v (.int .i64 0),.v (.int .i64 0),.sl 0 [] true,.v (.bool false),.sl 0 [] true,.sl 0 [] true,.v (.int .i64 0),zU,zU,zU,zU,zU,zU,zU,zU,zU,zU,zU,zU,zU,zU,zU,zU,zU,zU,zU,zU,zU,zU,zU,zU,zU,zU,zU,zU,zU,zU,zU,zU,zU,.v (.bool false),.sl 0 [] true,.sl 0 [] true,.v (.int .i64 0),.sl 0 [] true,.v (.int .i64 0),.sl 0 [] true,.v (.int .i64 0),.sl 0 [] true,.sl 0 [] true,.v (.int .i64 0),.v (.int .i64 0),.v (.string ⟨#[]⟩),.sl 0 [] true,zU,.sl 0 [] true,.v (.int .i64 0),.sl 0 [] true],576,[]⟩) (.node 42 (.leaf 41 gY) (.leaf 42 gY)))) (.node 46 (.node 44 (.leaf 43 gY) (.node 45 (.leaf 44 gY) (.leaf 45 gY))) (.node 47 (.leaf 46 gY) (.node 48 (.leaf 47 gY) (.leaf 48 gY))))) (.node 56 (.node 53 (.node 50 (.leaf 49 gY) (.node 52 (.leaf 50 gY) (.leaf 52 gY))) (.node 54 (.leaf 53 ⟨.struct [(0,26),(1,27),(33,9),(34,3)],35,true,.agg [zU,zU,zU,zU,zU,zU,zU,zU,zU,zU,zU,zU,zU,zU,zU,zU,zU,zU,zU,zU,zU,zU,zU,zU,zU,zU,zU,zU,zU,zU,zU,zU,zU,.v (.string ⟨#[]⟩),.v (.int .i64 0)],160,[]⟩) (.node 55 (.leaf 54 ⟨.struct [(0,26),(1,27),(33,9),(34,3)],35,true,.agg [zU,zU,zU,zU,zU,zU,zU,zU,zU,zU,zU,zU,zU,zU,zU,zU,zU,zU,zU,zU,zU,zU,zU,zU,zU,zU,zU,zU,zU,zU,zU,zU,zU,.v (.string ⟨#[]⟩),.v (.int .i64 0)],160,[.i,.i,.i,.i,.i,.i,.i,.i,.i,.i,.i,.i,.i,.i,.i,.i,.i,.i,.i,.i,.i,.i,.i,.i,.i,.i,.i,.i,.i,.i,.i,.i,.i,.s,.i]⟩) (.leaf 55 gY)))) (.node 60 (.node 57 (.leaf 56 ⟨.struct [(0,26),(1,26),(2,3),(3,26),(4,26),(5,3),(6,4),(7,3),(8,3)],9,true,.agg [zU,zU,.v (.int .i64 0),zU,zU,.v (.int .i64 0),.v (.bool false),.v (.int .i64 0),.v (.int .i64 0)],56,[]⟩) (.node 59 (.leaf 57 ⟨.struct [(0,26),(1,26),(2,3),(3,26),(4,26),(5,3),(6,4),(7,3),(8,3)],9,true,.agg [zU,zU,.v (.int .i64 0),zU,zU,.v (.int .i64 0),.v (.bool false),.v (.int .i64 0),.v (.int .i64 0)],56,[.i,.i,.i,.i,.i,.i,.b,.i,.i]⟩) (.leaf 59 gY))) (.node 61 (.leaf 60 gY) (.node 63 (.leaf 61 gY) (.leaf 63 gY))))))) (.node 92 (.node 80 (.node 71 (.node 68 (.node 66 (.leaf 65 gY) (.node 67 (.leaf 66 gY) (.leaf 67 gY))) (.node 69 (.leaf 68 ⟨.struct [(0,3),(1,26),(2,3),(3,9)],4,true,.agg [.v (.int .i64 0),zU,.v (.int .i64 0),.v (.string ⟨#[]⟩)],40,[]⟩) (.node 70 (.leaf 69 ⟨.struct [(0,3),(1,26),(2,3),(3,9)],4,true,.agg [.v (.int .i64 0),zU,.v (.int .i64 0),.v (.string ⟨#[]⟩)],40,[.i,.i,.i,.s]⟩) (.leaf 70 gY)))) (.node 76 (.node 74 (.leaf 71 ⟨.slice 76,1,false,.sl 0 [] true,24,[]⟩) (.node 75 (.leaf 74 gY) (.leaf 75 ⟨.struct [(0,31),(1,31),(2,34),(3,23)],4,true,.agg [.sl 0 [] true,.sl 0 [] true,.sl 0 [] true,.sl 0 [] true],96,[]⟩))) (.node 78 (.leaf 76 ⟨.struct [(0,31),(1,31),(2,34),(3,23)],4,true,.agg [.sl 0 [] true,.sl 0 [] true,.sl 0 [] true,.sl 0 [] true],96,[]⟩) (.node 79 (.leaf 78 ⟨.slice 80,1,false,.sl 0 [] true,24,[]⟩) (.leaf 79 ⟨.struct [(0,26),(1,4),(2,9)],3,true,.agg [zU,.v (.bool false),.v (.string ⟨#[]⟩)],24,[]⟩))))) (.node 86 (.node 83 (.node 81 (.leaf 80 ⟨.struct [(0,26),(1,4),(2,9)],3,true,.agg [zU,.v (.bool false),.v (.string ⟨#[]⟩)],24,[.i,.b,.s]⟩) (.node 82 (.leaf 81 gY) (.leaf 82 gY))) (.node 84 (.leaf 83 gY) (.node 85 (.leaf 84 gY) (.leaf 85 gY)))) (.node 89 (.node 87 (.leaf 86 gY) (.node 88 (.leaf 87 ⟨.struct [(0,26),(1,26)],2,true,.agg [zU,zU],8,[]⟩) (.leaf 88 ⟨.struct [(0,26),(1,26)],2,true,.agg [zU,zU],8,[.i,.i]⟩))) (.node 90 (.leaf 89 ⟨.slice 5,1,false,.sl 0 [] true,24,[]⟩) (.node 91 (.leaf 90 gY) (.leaf 91 gY)))))) (.node 104 (.node 98 (.node 95 (.node 93 (.leaf 92 ⟨.struct [(0,3),(1,3),(2,3),(3,3),(4,26)],5,true,.agg [.v (.int .i64 0),.v (.int .i64 0),.v (.int .i64 0),.v (.int .i64 0),zU],40,[]⟩) (.node 94 (.leaf 93 ⟨.struct [(0,3),(1,3),(2,3),(3,3),(4,26)],5,true,.agg [.v (.int .i64 0),.v (.int .i64 0),.v (.int .i64 0),.v (.int .i64 0),zU],40,[.i,.i,.i,.i,.i]⟩) (.leaf 94 ⟨.struct [(0,3),(1,26),(2,93),(7,26),(8,3),(9,3),(10,26),(11,26),(12,26),(13,3),(14,3),(15,4),(16,4)],17,true,.agg [.v (.int .i64 0),zU,.v (.int .i64 0),.v (.int .i64 0),.v (.int .i64 0),.v (.int .i64 0),zU,zU,.v (.int .i64 0),.v (.int .i64 0),zU,zU,zU,.v (.int .i64 0),.v (.int .i64 0),.v (.bool false),.v (.bool false)],120,[]⟩))) (.node 96 (.leaf 95 ⟨.struct [(0,3),(1,26),(2,93),(7,26),(8,3),(9,3),(10,26),(11,26),(12,26),(13,3),(14,3),(15,4),(16,4)],17,true,.agg [.v (.int .i64 0),zU,.v (.int .i64 0),.v (.int .i64 0),.v (.int .i64 0),.v (.int .i64 0),zU,zU,.v (.int .i64 0),.v (.int .i64 0),zU,zU,zU,.v (.int .i64 0),.v (.int .i64 0),.v (.bool false),.v (.bool false)],120,[.i,.i,.i,.i,.i,.i,.i,.i,.i,.i,.i,.i,.i,.i,.i,.b,.b]⟩) (.node 97 (.leaf 96 gY) (.leaf 97 gY)))) (.node 101 (.node 99 (.leaf 98 ⟨.struct [(0,26),(1,9)],2,true,.agg [zU,.v (.string ⟨#[]⟩)],24,[]⟩) (.node 100 (.leaf 99 ⟨.struct [(0,26),(1,9)],2,true,.agg [zU,.v (.string ⟨#[]⟩)],24,[.i,.s]⟩) (.leaf 100 gY))) (.node 102 (.leaf 101 ⟨.struct [(0,40)],64,true,.agg [.v (.int .i64 0),.v (.int .i64 0),.v (.int .i64 0),.v (.int .i64 0),.v (.int .i64 0),.v (.int .i64 0),.v (.int .i64 0),.v (.int .i64 0),.sl 0 [] true,.v (.bool false),.sl 0 [] true,.sl 0 [] true,.v (.int .i64 0),zU,zU,zU,zU,zU,zU,zU,zU,zU,zU,zU,zU,zU,zU,zU,zU,zU,zU,zU,zU,zU,zU,zU,zU,zU,zU,zU,zU,zU,zU,zU,zU,zU,.v (.bool false),.sl 0 [] true,.sl 0 [] true,.v (.int .i64 0),.sl 0 [] true,.v (.int .i64 0),.sl 0 [] true,.v (.int .i64 0),.sl 0 [] true,.sl 0 [] true,.v (.int .i64 0),.v (.int .i64 0),.v (.string ⟨#[]⟩),.sl 0 [] true,zU,.sl 0 [] true,.v (.int .i64 0),.sl 0 [] true],576,[]⟩) (.node 103 (.leaf 102 ⟨.struct [(0,40)],64,true,.agg [.v (.int .i64 0),.v (.int .i64 0),.v (.int .i64 0),.v (.int .i64 0),.v (.int .i64 0),.v (.int .i64 0),.v (.int .i64 0),.v (.int .i64 0),.sl 0 [] true,.v (.bool false),.sl 0 [] true,.sl 0 [] true,.v (.int .i64 0),zU,zU,zU,zU,zU,zU,zU,zU,zU,zU,zU,zU,zU,zU,zU,zU,zU,zU,zU,zU,zU,zU,zU,zU,zU,zU,zU,zU,zU,zU,zU,zU,zU,.v (.bool false),.sl 0 [] true,.sl 0 [] true,.v (.int .i64 0),.sl 0 [] true,.v (.int .i64 0),.sl 0 [] true,.v (.int .i64 0),.sl 0 [] true,.sl 0 [] true,.v (.int .i64 0),.v (.int .i64 0),.v (.string ⟨#[]⟩),.sl 0 [] true,zU,.sl 0 [] true,.v (.int .i64 0),.sl 0 [] true],576,[]⟩) (.leaf 103 gY))))) (.node 112 (.node 108 (.node 105 (.leaf 104 ⟨.pointer,1,false,.v (.pointer none),8,[]⟩) (.node 107 (.leaf 105 ⟨.array 7 103,7,true,.agg [.v .nilFunc,.v .nilFunc,.v .nilFunc,.v .nilFunc,.v .nilFunc,.v .nilFunc,.v .nilFunc],56,[]⟩) (.leaf 107 gY))) (.node 109 (.leaf 108 gY) (.node 111 (.leaf 109 ⟨.int .i64,1,false,.v (.int .i64 0),8,[]⟩) (.leaf 111 gY)))) (.node 116 (.node 113 (.leaf 112 gY) (.node 114 (.leaf 113 gY) (.leaf 114 gY))) (.node 119 (.node 117 (.leaf 116 gY) (.leaf 117 gY)) (.node 120 (.leaf 119 gY) (.leaf 120 gY)))))))) (.node 200 (.node 160 (.node 145 (.node 131 (.node 126 (.node 122 (.leaf 121 gY) (.node 125 (.leaf 122 gY) (.leaf 125 gY))) (.node 127 (.leaf 126 ⟨.struct [(0,26),(1,26)],2,true,.agg [zU,zU],8,[]⟩) (.node 130 (.leaf 127 ⟨.struct [(0,26),(1,26)],2,true,.agg [zU,zU],8,[.i,.i]⟩) (.leaf 130 ⟨.pointer,1,false,.v (.pointer none),8,[]⟩)))) (.node 134 (.node 132 (.leaf 131 gY) (.node 133 (.leaf 132 gY) (.leaf 133 gY))) (.node 135 (.leaf 134 gY) (.node 138 (.leaf 135 ⟨.int .u64,1,false,.v (.int .u64 0),8,[]⟩) (.leaf 138 gY))))) (.node 153 (.node 149 (.node 147 (.leaf 145 gY) (.node 148 (.leaf 147 gY) (.leaf 148 gY))) (.node 150 (.leaf 149 gY) (.node 152 (.leaf 150 gY) (.leaf 152 gY)))) (.node 156 (.node 154 (.leaf 153 gY) (.node 155 (.leaf 154 gY) (.leaf 155 gY))) (.node 157 (.leaf 156 gY) (.node 159 (.leaf 157 gY) (.leaf 159 gY)))))) (.node 174 (.node 166 (.node 163 (.node 161 (.leaf 160 gY) (.node 162 (.leaf 161 gY) (.leaf 162 ⟨.slice 4,1,false,.sl 0 [] true,24,[]⟩))) (.node 164 (.leaf 163 gY) (.node 165 (.leaf 164 gY) (.leaf 165 gY)))) (.node 170 (.node 168 (.leaf 166 gY) (.node 169 (.leaf 168 gY) (.leaf 169 gY))) (.node 171 (.leaf 170 gY) (.node 172 (.leaf 171 gY) (.leaf 172 gY))))) (.node 193 (.node 190 (.node 178 (.leaf 174 gY) (.node 180 (.leaf 178 gY) (.leaf 180 gY))) (.node 191 (.leaf 190 gY) (.node 192 (.leaf 191 gY) (.leaf 192 gY)))) (.node 197 (.node 194 (.leaf 193 gY) (.node 195 (.leaf 194 gY) (.leaf 195 gY))) (.node 198 (.leaf 197 gY) (.node 199 (.leaf 198 gY) (.leaf 199 gY))))))) (.node 228 (.node 215 (.node 207 (.node 204 (.node 202 (.leaf 200 gY) (.node 203 (.leaf 202 gY) (.leaf 203 gY))) (.node 205 (.leaf 204 gY) (.node 206 (.leaf 205 gY) (.leaf 206 gY)))) (.node 212 (.node 209 (.leaf 207 gY) (.node 211 (.leaf 209 gY) (.leaf 211 gY))) (.node 213 (.leaf 212 gY) (.node 214 (.leaf 213 gY) (.leaf 214 gY))))) (.node 222 (.node 219 (.node 216 (.leaf 215 gY) (.node 218 (.leaf 216 gY) (.leaf 218 gY))) (.node 220 (.leaf 219 gY) (.node 221 (.leaf 220 gY) (.leaf 221 gY)))) (.node 225 (.node 223 (.leaf 222 gY) (.node 224 (.leaf 223 gY) (.leaf 224 gY))) (.node 226 (.leaf 225 gY) (.node 227 (.leaf 226 gY) (.leaf 227 gY)))))) (.node 252 (.node 236 (.node 232 (.node 229 (.leaf 228 gY) (.node 230 (.leaf 229 gY) (.leaf 230 ⟨.slice 255,1,false,.sl 0 [] true,24,[]⟩))) (.node 233 (.leaf 232 gY) (.node 234 (.leaf 233 ⟨.array 49 26,49,true,.agg [zU,zU,zU,zU,zU,zU,zU,zU,zU,zU,zU,zU,zU,zU,zU,zU,zU,zU,zU,zU,zU,zU,zU,zU,zU,zU,zU,zU,zU,zU,zU,zU,zU,zU,zU,zU,zU,zU,zU,zU,zU,zU,zU,zU,zU,zU,zU,zU,zU],196,[]⟩) (.leaf 234 gY)))) (.node 242 (.node 237 (.leaf 236 gY) (.node 239 (.leaf 237 gY) (.leaf 239 gY))) (.node 243 (.leaf 242 gY) (.node 247 (.leaf 243 gY) (.leaf 247 gY))))) (.node 261 (.node 255 (.node 253 (.leaf 252 gY) (.node 254 (.leaf 253 ⟨.int .u64,1,false,.v (.int .u64 0),8,[]⟩) (.leaf 254 ⟨.struct [(0,3),(1,3)],2,true,.agg [.v (.int .i64 0),.v (.int .i64 0)],16,[]⟩))) (.node 258 (.leaf 255 ⟨.struct [(0,3),(1,3)],2,true,.agg [.v (.int .i64 0),.v (.int .i64 0)],16,[]⟩) (.node 260 (.leaf 258 gY) (.leaf 260 gY)))) (.node 267 (.node 263 (.leaf 261 gY) (.node 264 (.leaf 263 ⟨.struct [(0,26),(1,3),(2,9),(3,4)],4,true,.agg [zU,.v (.int .i64 0),.v (.string ⟨#[]⟩),.v (.bool false)],40,[]⟩) (.leaf 264 ⟨.struct [(0,26),(1,3),(2,9),(3,4)],4,true,.agg [zU,.v (.int .i64 0),.v (.string ⟨#[]⟩),.v (.bool false)],40,[]⟩))) (.node 279 (.node 268 (.leaf 267 gY) (.leaf 268 gY)) (.node 280 (.leaf 279 gY) (.leaf 280 ⟨.pointer,1,false,.v (.pointer none),8,[]⟩))))))))
theorem VT:Qi Tryz.prog tys:=⟨⟨⟨⟨⟨⟨⟨eG Tryz.t1 Tryz.underlying1 trivial,⟨eG Tryz.t2 Tryz.underlying2 rfl,eG Tryz.t3 Tryz.underlying3 rfl⟩⟩,⟨eG Tryz.t4 Tryz.underlying4 rfl,⟨eG Tryz.t5 Tryz.underlying5 rfl,eG Tryz.t9 Tryz.underlying9 rfl⟩⟩⟩,⟨⟨eG Tryz.t12 Tryz.underlying12 rfl,⟨eG Tryz.t13 Tryz.underlying13 ⟨_,rfl,by kernel_rfl,by kernel_rfl⟩,eG Tryz.t21 Tryz.underlying21 rfl⟩⟩,⟨eG Tryz.t22 Tryz.underlying22 rfl,⟨eG Tryz.t23 Tryz.underlying23 rfl,eG Tryz.t24 Tryz.underlying24 ⟨_,rfl,by kernel_rfl,by kernel_rfl⟩⟩⟩⟩⟩,⟨⟨⟨eG Tryz.t25 Tryz.underlying25 ⟨_,rfl,by kernel_rfl,by kernel_rfl⟩,⟨eG Tryz.t26 Tryz.underlying26 rfl,eG Tryz.t27 Tryz.underlying27 rfl (λ _=>Qh (d:=20) (inf:=Tryz.t26) (ks':=[.i]) Tryz.underlying27 (by kernel_rfl) (by kernel_rfl) (by kernel_rfl) (by kernel_rfl) (by kernel_rfl))⟩⟩,⟨eG Tryz.t28 Tryz.underlying28 rfl,⟨eG Tryz.t29 Tryz.underlying29 rfl,eG Tryz.t30 Tryz.underlying30 rfl⟩⟩⟩,⟨⟨eG Tryz.t31 Tryz.underlying31 rfl,⟨eG Tryz.t32 Tryz.underlying32 ⟨_,rfl,by kernel_rfl,by kernel_rfl⟩,eG Tryz.t33 Tryz.underlying33 ⟨_,rfl,by kernel_rfl,by kernel_rfl⟩⟩⟩,⟨eG Tryz.t34 Tryz.underlying34 rfl,⟨eG Tryz.t35 Tryz.underlying35 rfl,eG Tryz.t36 Tryz.underlying36 ⟨_,rfl,by kernel_rfl,by kernel_rfl⟩⟩⟩⟩⟩⟩,⟨⟨⟨⟨eG Tryz.t37 Tryz.underlying37 ⟨_,rfl,by kernel_rfl,by kernel_rfl⟩,⟨eG Tryz.t38 Tryz.underlying38 rfl,eG Tryz.t39 Tryz.underlying39 ⟨_,rfl,by kernel_rfl,by kernel_rfl⟩⟩⟩,⟨eG Tryz.t40 Tryz.underlying40 ⟨_,rfl,by kernel_rfl,by kernel_rfl⟩,⟨eG Tryz.t41 Tryz.underlying41 trivial,eG Tryz.t42 Tryz.underlying42 trivial⟩⟩⟩,⟨⟨eG Tryz.t43 Tryz.underlying43 trivial,⟨eG Tryz.t44 Tryz.underlying44 trivial,eG Tryz.t45 Tryz.underlying45 trivial⟩⟩,⟨eG Tryz.t46 Tryz.underlying46 trivial,⟨eG Tryz.t47 Tryz.underlying47 trivial,eG Tryz.t48 Tryz.underlying48 trivial⟩⟩⟩⟩,⟨⟨⟨eG Tryz.t49 Tryz.underlying49 trivial,⟨eG Tryz.t50 Tryz.underlying50 trivial,eG Tryz.t52 Tryz.underlying52 trivial⟩⟩,⟨eG Tryz.t53 Tryz.underlying53 ⟨_,rfl,by kernel_rfl,by kernel_rfl⟩,⟨eG Tryz.t54 Tryz.underlying54 ⟨_,rfl,by kernel_rfl,by kernel_rfl⟩ (λ _=>wW (d:=20) (by kernel_rfl)),eG Tryz.t55 Tryz.underlying55 trivial⟩⟩⟩,⟨⟨eG Tryz.t56 Tryz.underlying56 ⟨_,rfl,by kernel_rfl,by kernel_rfl⟩,⟨eG Tryz.t57 Tryz.underlying57 ⟨_,rfl,by kernel_rfl,by kernel_rfl⟩ (λ _=>wW (d:=20) (by kernel_rfl)),eG Tryz.t59 Tryz.underlying59 trivial⟩⟩,⟨eG Tryz.t60 Tryz.underlying60 trivial,⟨eG Tryz.t61 Tryz.underlying61 trivial,eG Tryz.t63 Tryz.underlying63 trivial⟩⟩⟩⟩⟩⟩,⟨⟨⟨⟨⟨eG Tryz.t65 Tryz.underlying65 trivial,⟨eG Tryz.t66 Tryz.underlying66 trivial,eG Tryz.t67 Tryz.underlying67 trivial⟩⟩,⟨eG Tryz.t68 Tryz.underlying68 ⟨_,rfl,by kernel_rfl,by kernel_rfl⟩,⟨eG Tryz.t69 Tryz.underlying69 ⟨_,rfl,by kernel_rfl,by kernel_rfl⟩ (λ _=>wW (d:=20) (by kernel_rfl)),eG Tryz.t70 Tryz.underlying70 trivial⟩⟩⟩,⟨⟨eG Tryz.t71 Tryz.underlying71 rfl,⟨eG Tryz.t74 Tryz.underlying74 trivial,eG Tryz.t75 Tryz.underlying75 ⟨_,rfl,by kernel_rfl,by kernel_rfl⟩⟩⟩,⟨eG Tryz.t76 Tryz.underlying76 ⟨_,rfl,by kernel_rfl,by kernel_rfl⟩,⟨eG Tryz.t78 Tryz.underlying78 rfl,eG Tryz.t79 Tryz.underlying79 ⟨_,rfl,by kernel_rfl,by kernel_rfl⟩⟩⟩⟩⟩,⟨⟨⟨eG Tryz.t80 Tryz.underlying80 ⟨_,rfl,by kernel_rfl,by kernel_rfl⟩ (λ _=>wW (d:=20) (by kernel_rfl)),⟨eG Tryz.t81 Tryz.underlying81 trivial,eG Tryz.t82 Tryz.underlying82 trivial⟩⟩,⟨eG Tryz.t83 Tryz.underlying83 trivial,⟨eG Tryz.t84 Tryz.underlying84 trivial,eG Tryz.t85 Tryz.underlying85 trivial⟩⟩⟩,⟨⟨eG Tryz.t86 Tryz.underlying86 trivial,⟨eG Tryz.t87 Tryz.underlying87 ⟨_,rfl,by kernel_rfl,by kernel_rfl⟩,eG Tryz.t88 Tryz.underlying88 ⟨_,rfl,by kernel_rfl,by kernel_rfl⟩ (λ _=>wW (d:=20) (by kernel_rfl))⟩⟩,⟨eG Tryz.t89 Tryz.underlying89 rfl,⟨eG Tryz.t90 Tryz.underlying90 trivial,eG Tryz.t91 Tryz.underlying91 trivial⟩⟩⟩⟩⟩,⟨⟨⟨⟨eG Tryz.t92 Tryz.underlying92 ⟨_,rfl,by kernel_rfl,by kernel_rfl⟩,⟨eG Tryz.t93 Tryz.underlying93 ⟨_,rfl,by kernel_rfl,by kernel_rfl⟩ (λ _=>wW (d:=20) (by kernel_rfl)),eG Tryz.t94 Tryz.underlying94 ⟨_,rfl,by kernel_rfl,by kernel_rfl⟩⟩⟩,⟨eG Tryz.t95 Tryz.underlying95 ⟨_,rfl,by kernel_rfl,by kernel_rfl⟩ (λ _=>wW (d:=20) (by kernel_rfl)),⟨eG Tryz.t96 Tryz.underlying96 trivial,eG Tryz.t97 Tryz.underlying97 trivial⟩⟩⟩,⟨⟨eG Tryz.t98 Tryz.underlying98 ⟨_,rfl,by kernel_rfl,by kernel_rfl⟩,⟨eG Tryz.t99 Tryz.underlying99 ⟨_,rfl,by kernel_rfl,by kernel_rfl⟩ (λ _=>wW (d:=20) (by kernel_rfl)),eG Tryz.t100 Tryz.underlying100 trivial⟩⟩,⟨eG Tryz.t101 Tryz.underlying101 ⟨_,rfl,by kernel_rfl,by kernel_rfl⟩,⟨eG Tryz.t102 Tryz.underlying102 ⟨_,rfl,by kernel_rfl,by kernel_rfl⟩,eG Tryz.t103 Tryz.underlying103 trivial⟩⟩⟩⟩,⟨⟨⟨eG Tryz.t104 Tryz.underlying104 trivial,⟨eG Tryz.t105 Tryz.underlying105 rfl,eG Tryz.t107 Tryz.underlying107 trivial⟩⟩,⟨eG Tryz.t108 Tryz.underlying108 trivial,⟨eG Tryz.t109 Tryz.underlying109 rfl,eG Tryz.t111 Tryz.underlying111 trivial⟩⟩⟩,⟨⟨eG Tryz.t112 Tryz.underlying112 trivial,⟨eG Tryz.t113 Tryz.underlying113 trivial,eG Tryz.t114 Tryz.underlying114 trivial⟩⟩,⟨⟨eG Tryz.t116 Tryz.underlying116 trivial,eG Tryz.t117 Tryz.underlying117 trivial⟩,⟨eG Tryz.t119 Tryz.underlying119 trivial,eG Tryz.t120 Tryz.underlying120 trivial⟩⟩⟩⟩⟩⟩⟩,⟨⟨⟨⟨⟨⟨eG Tryz.t121 Tryz.underlying121 trivial,⟨eG Tryz.t122 Tryz.underlying122 trivial,eG Tryz.t125 Tryz.underlying125 trivial⟩⟩,⟨eG Tryz.t126 Tryz.underlying126 ⟨_,rfl,by kernel_rfl,by kernel_rfl⟩,⟨eG Tryz.t127 Tryz.underlying127 ⟨_,rfl,by kernel_rfl,by kernel_rfl⟩ (λ _=>wW (d:=20) (by kernel_rfl)),eG Tryz.t130 Tryz.underlying130 trivial⟩⟩⟩,⟨⟨eG Tryz.t131 Tryz.underlying131 trivial,⟨eG Tryz.t132 Tryz.underlying132 trivial,eG Tryz.t133 Tryz.underlying133 trivial⟩⟩,⟨eG Tryz.t134 Tryz.underlying134 trivial,⟨eG Tryz.t135 Tryz.underlying135 rfl,eG Tryz.t138 Tryz.underlying138 trivial⟩⟩⟩⟩,⟨⟨⟨eG Tryz.t145 Tryz.underlying145 trivial,⟨eG Tryz.t147 Tryz.underlying147 trivial,eG Tryz.t148 Tryz.underlying148 trivial⟩⟩,⟨eG Tryz.t149 Tryz.underlying149 trivial,⟨eG Tryz.t150 Tryz.underlying150 trivial,eG Tryz.t152 Tryz.underlying152 trivial⟩⟩⟩,⟨⟨eG Tryz.t153 Tryz.underlying153 trivial,⟨eG Tryz.t154 Tryz.underlying154 trivial,eG Tryz.t155 Tryz.underlying155 trivial⟩⟩,⟨eG Tryz.t156 Tryz.underlying156 trivial,⟨eG Tryz.t157 Tryz.underlying157 trivial,eG Tryz.t159 Tryz.underlying159 trivial⟩⟩⟩⟩⟩,⟨⟨⟨⟨eG Tryz.t160 Tryz.underlying160 trivial,⟨eG Tryz.t161 Tryz.underlying161 trivial,eG Tryz.t162 Tryz.underlying162 rfl⟩⟩,⟨eG Tryz.t163 Tryz.underlying163 trivial,⟨eG Tryz.t164 Tryz.underlying164 trivial,eG Tryz.t165 Tryz.underlying165 trivial⟩⟩⟩,⟨⟨eG Tryz.t166 Tryz.underlying166 trivial,⟨eG Tryz.t168 Tryz.underlying168 trivial,eG Tryz.t169 Tryz.underlying169 trivial⟩⟩,⟨eG Tryz.t170 Tryz.underlying170 trivial,⟨eG Tryz.t171 Tryz.underlying171 trivial,eG Tryz.t172 Tryz.underlying172 trivial⟩⟩⟩⟩,⟨⟨⟨eG Tryz.t174 Tryz.underlying174 trivial,⟨eG Tryz.t178 Tryz.underlying178 trivial,eG Tryz.t180 Tryz.underlying180 trivial⟩⟩,⟨eG Tryz.t190 Tryz.underlying190 trivial,⟨eG Tryz.t191 Tryz.underlying191 trivial,eG Tryz.t192 Tryz.underlying192 trivial⟩⟩⟩,⟨⟨eG Tryz.t193 Tryz.underlying193 trivial,⟨eG Tryz.t194 Tryz.underlying194 trivial,eG Tryz.t195 Tryz.underlying195 trivial⟩⟩,⟨eG Tryz.t197 Tryz.underlying197 trivial,⟨eG Tryz.t198 Tryz.underlying198 trivial,eG Tryz.t199 Tryz.underlying199 trivial⟩⟩⟩⟩⟩⟩,⟨⟨⟨⟨⟨eG Tryz.t200 Tryz.underlying200 trivial,⟨eG Tryz.t202 Tryz.underlying202 trivial,eG Tryz.t203 Tryz.underlying203 trivial⟩⟩,⟨eG Tryz.t204 Tryz.underlying204 trivial,⟨eG Tryz.t205 Tryz.underlying205 trivial,eG Tryz.t206 Tryz.underlying206 trivial⟩⟩⟩,⟨⟨eG Tryz.t207 Tryz.underlying207 trivial,⟨eG Tryz.t209 Tryz.underlying209 trivial,eG Tryz.t211 Tryz.underlying211 trivial⟩⟩,⟨eG Tryz.t212 Tryz.underlying212 trivial,⟨eG Tryz.t213 Tryz.underlying213 trivial,eG Tryz.t214 Tryz.underlying214 trivial⟩⟩⟩⟩,⟨⟨⟨eG Tryz.t215 Tryz.underlying215 trivial,⟨eG Tryz.t216 Tryz.underlying216 trivial,eG Tryz.t218 Tryz.underlying218 trivial⟩⟩,⟨eG Tryz.t219 Tryz.underlying219 trivial,⟨eG Tryz.t220 Tryz.underlying220 trivial,eG Tryz.t221 Tryz.underlying221 trivial⟩⟩⟩,⟨⟨eG Tryz.t222 Tryz.underlying222 trivial,⟨eG Tryz.t223 Tryz.underlying223 trivial,eG Tryz.t224 Tryz.underlying224 trivial⟩⟩,⟨eG Tryz.t225 Tryz.underlying225 trivial,⟨eG Tryz.t226 Tryz.underlying226 trivial,eG Tryz.t227 Tryz.underlying227 trivial⟩⟩⟩⟩⟩,⟨⟨⟨⟨eG Tryz.t228 Tryz.underlying228 trivial,⟨eG Tryz.t229 Tryz.underlying229 trivial,eG Tryz.t230 Tryz.underlying230 rfl⟩⟩,⟨eG Tryz.t232 Tryz.underlying232 trivial,⟨eG Tryz.t233 Tryz.underlying233 rfl,eG Tryz.t234 Tryz.underlying234 trivial⟩⟩⟩,⟨⟨eG Tryz.t236 Tryz.underlying236 trivial,⟨eG Tryz.t237 Tryz.underlying237 trivial,eG Tryz.t239 Tryz.underlying239 trivial⟩⟩,⟨eG Tryz.t242 Tryz.underlying242 trivial,⟨eG Tryz.t243 Tryz.underlying243 trivial,eG Tryz.t247 Tryz.underlying247 trivial⟩⟩⟩⟩,⟨⟨⟨eG Tryz.t252 Tryz.underlying252 trivial,⟨eG Tryz.t253 Tryz.underlying253 rfl,eG Tryz.t254 Tryz.underlying254 ⟨_,rfl,by kernel_rfl,by kernel_rfl⟩⟩⟩,⟨eG Tryz.t255 Tryz.underlying255 ⟨_,rfl,by kernel_rfl,by kernel_rfl⟩,⟨eG Tryz.t258 Tryz.underlying258 trivial,eG Tryz.t260 Tryz.underlying260 trivial⟩⟩⟩,⟨⟨eG Tryz.t261 Tryz.underlying261 trivial,⟨eG Tryz.t263 Tryz.underlying263 ⟨_,rfl,by kernel_rfl,by kernel_rfl⟩,eG Tryz.t264 Tryz.underlying264 ⟨_,rfl,by kernel_rfl,by kernel_rfl⟩⟩⟩,⟨⟨eG Tryz.t267 Tryz.underlying267 trivial,eG Tryz.t268 Tryz.underlying268 trivial⟩,⟨eG Tryz.t279 Tryz.underlying279 trivial,eG Tryz.t280 Tryz.underlying280 trivial⟩⟩⟩⟩⟩⟩⟩⟩
def DX:List AV:=Sm.map λ k=>.v (.int .u32 (k:Nat))
noncomputable def C0:Ctx:={P:=Tryz.prog,ty:=tys.find,G:=λ g=>match g with|0=>some DX|_=>none,H:=pJ Tryz.prog (λ g=>match g with|0=>some DX|_=>none)}
theorem c0Ok:CtxOk C0:=⟨TT.find_ok tys VT,by kernel_rfl,λ _ _ _ _ _ h=>h⟩
theorem Fu(k:Nat)(hk:k<49):DX[k]?=some (.v (.int .u32 (code k))):=by
 have:∀ k,k<49→Sm[k]?=some (code k):=by decide
 simp only[DX,bH,this k hk,dH]
theorem XM{S:Nat→Prop}{w:World}(h:Ds w)(hS:S 0):GOk C0 S w:=λ g cells hg=>by
 match g,hg with
 | 0,hg=>
  injection hg with hg;subst hg;have hget:∀ (j:Nat) a,DX[j]?=some a→j<49:=λ j a hj=>(Db.1 hj).1;exact .dp DX.length 0 DX 0 0 (λ k=>.int .u32 (code k)) rfl hS (λ j a hj=>by rw[bU];exact h j (hget j a hj)) (λ _=>rfl) λ j a hj=>by
   rw[Fu j (hget j a hj)]at hj;injection hj with hj;subst hj;exact .v _
theorem BU{S:Nat→Prop}{w:World}(h:GOk C0 S w):Ds w:=by
 have:=h 0 DX rfl;generalize hp:Value.pointer (some (⟨0,0,none⟩:Addr))=p at this
 cases this with
 |dp _ _ _ b o u hrs hb hw h1 hr=>
  simp only[Value.pointer.injEq,Option.some.injEq,Addr.mk.injEq]at hp;obtain⟨rfl,ho, -⟩:=hp;obtain rfl:o=0:=by omega
  intro k hk;have e:=Fu k hk;have:=hw k _ e;rw[bU]at this;rw[this,kW (hr k _ e)]
structure St where
 pc:Nat
 r:Nat→Nat
 mem:ByteArray
 halt:Int
structure Sp where
 pc:Nat
 next:Nat
 rd:Int
 value:Nat
 addr:Nat
 size:Int
 store:Bool
 halt:Int
 took:Int
abbrev stL(pc:Nat)(r:Nat→Nat)(m:ByteArray)(h:Int):List AV:=
 [.v (.int .u32 (pc:Int)),.v (.int .u32 (r 0:Int)),.v (.int .u32 (r 1:Int)),.v (.int .u32 (r 2:Int)),.v (.int .u32 (r 3:Int)),.v (.int .u32 (r 4:Int)),.v (.int .u32 (r 5:Int)),.v (.int .u32 (r 6:Int)),.v (.int .u32 (r 7:Int)),.v (.int .u32 (r 8:Int)),.v (.int .u32 (r 9:Int)),.v (.int .u32 (r 10:Int)),.v (.int .u32 (r 11:Int)),.v (.int .u32 (r 12:Int)),.v (.int .u32 (r 13:Int)),.v (.int .u32 (r 14:Int)),.v (.int .u32 (r 15:Int)),.v (.int .u32 (r 16:Int)),.v (.int .u32 (r 17:Int)),.v (.int .u32 (r 18:Int)),.v (.int .u32 (r 19:Int)),.v (.int .u32 (r 20:Int)),.v (.int .u32 (r 21:Int)),.v (.int .u32 (r 22:Int)),.v (.int .u32 (r 23:Int)),.v (.int .u32 (r 24:Int)),.v (.int .u32 (r 25:Int)),.v (.int .u32 (r 26:Int)),.v (.int .u32 (r 27:Int)),.v (.int .u32 (r 28:Int)),.v (.int .u32 (r 29:Int)),.v (.int .u32 (r 30:Int)),.v (.int .u32 (r 31:Int)),.v (.string m),.v (.int .i64 h)]
abbrev stA(s:St):AV:=.agg (stL s.pc s.r s.mem s.halt)
abbrev spL(x:Sp):List AV:=[.v (.int .u32 (x.pc:Int)),.v (.int .u32 (x.next:Int)),.v (.int .i64 x.rd),.v (.int .u32 (x.value:Int)),.v (.int .u32 (x.addr:Int)),.v (.int .i64 x.size),.v (.bool x.store),.v (.int .i64 x.halt),.v (.int .i64 x.took)]
abbrev spA(x:Sp):AV:=.agg (spL x)
abbrev siA(i:SI):AV:=.agg [.v (.int .i64 i.op),.v (.int .i64 i.rd),.v (.int .i64 i.rs1),.v (.int .i64 i.rs2),.v (.int .u32 (i.imm:Int))]
abbrev two(x:St×Sp):AV:=.tup [stA x.1,spA x.2]
structure St.ok(s:St):Prop where
 pc:s.pc≤4294967295
 r:∀ k,s.r k≤4294967295
 mem:s.mem.size≤256
def Ua(r:Nat→Nat)(k v:Nat):Nat→Nat:=λ j=>if j=k then v else r j
def wr(i:SI):Int:=if yZ (dK i.op)then i.rd else 0
def fetchP(prog:List Nat)(pc:Nat):Option Nat:=if pc % 4=0 then prog[pc / 4]? else none
def Ub(m:ByteArray)(addr n:Nat):ByteArray:=m.extract addr (addr+n)
def up4(pc:Nat):Nat:=(pc+4) % 4294967296
def valB(b n:Nat):Nat:=joinTo (rP b n).data.toList (rP b n).size
def fetchW(prog:List Nat)(pc:Nat):Nat:=(fetchP prog pc).getD 0
def WA:AV→Option Value
 | .tup cs=>match Hq cs with|some l=>some (.tuple l.toArray)|none=>none
 |x=>Qg x
theorem Ru{S:Nat→Prop}{w:World}{β:Bt}{a:AV}{u:Value}(h:WA a=some u):Rep S w β a u:=by
 cases a with
 | tup cs=>
  simp only[WA]at h;split at h
  ·rename_i l hl;injection h with h;subst h;have:=CL (S:=S) (w:=w) (β:=β) hl;exact .tup cs l.toArray (by simpa using this.1) λ i a u h1 h2=>this.2 i a u h1 (by simpa using h2)
  ·cases h
 |_=>exact FD h
theorem bY.of_tupG{C:Ctx}{f:FuncId}{fn:Func}{args:List AV}{vs:List Value}{r:AV}{v:Value}(hf:C.P.funcs[f]?=some fn)(hb:fn.body.isSome=true)(hnm:(fn.name== "runtime.NumGoroutine")=false)
  (ha:Hq args=some vs) (hr:WA r=some v) (hc:∀ S w,GOk C S w→Calls C.P f vs.toArray w λ e w'=>e=.returned v∧Below w.heap.size w w'):bY C f args r:=
 ⟨⟨fn,hf,hb,hnm⟩,λ S w us hS hG hu=>by
  rw[Jm ha hu];exact (hc S w hG).mono λ e w' ⟨he,hB⟩=>⟨v,he,hB,Ru hr⟩⟩
theorem bY.of_tup{C:Ctx}{f:FuncId}{fn:Func}{args:List AV}{vs:List Value}{r:AV}{v:Value}(hf:C.P.funcs[f]?=some fn)(hb:fn.body.isSome=true)(hnm:(fn.name== "runtime.NumGoroutine")=false)
  (ha:Hq args=some vs) (hr:WA r=some v) (hc:∀ w,Calls C.P f vs.toArray w λ e w'=>e=.returned v∧Below w.heap.size w w'):bY C f args r:=
 .of_tupG hf hb hnm ha hr λ _ w _=>hc w
section
variable (i:SI)
theorem qG:bY C0 99 [siA i] (.v (.int .i64 ((kindOf i.op:Nat):Int))):=
 .of_flat Tryz.func99 rfl rfl rfl rfl λ w=>GU i.op i.rd i.rs1 i.rs2 i.imm w
theorem GQ:bY C0 152 [siA i] (.v (.int .i64 ((dS i.op:Nat):Int))):=
 .of_flat Tryz.func152 rfl rfl rfl rfl λ w=>Lz i.op i.rd i.rs1 i.rs2 i.imm w
theorem GR:bY C0 148 [siA i] (.v (.int .i64 (wr i))):=
 .of_flat Tryz.func148 rfl rfl rfl rfl λ w=>ME i.op i.rd i.rs1 i.rs2 i.imm w
theorem OX(pc a b:Nat)(hi:i.imm<4294967296)(hp:pc<4294967296)(ha:a<4294967296)(hb:b<4294967296):bY C0 211 [siA i,.v (.int .u32 (pc:Int)),.v (.int .u32 (a:Int)),.v (.int .u32 (b:Int))] (.tup [.v (.int .u32 ((wD i.op i.imm pc a b:Nat):Int)),.v (.bool (decide (wD i.op i.imm pc a b % 4=0)))]):=
 .of_tup Tryz.func211 rfl rfl rfl rfl λ w=>MC i.op i.rd i.rs1 i.rs2 i.imm pc a b w hi hp ha hb
theorem VR(pc a b:Nat)(hi:i.imm<4294967296)(hp:pc<4294967296)(ha:a<4294967296)(hb:b<4294967296):bY C0 209 [siA i,.v (.int .u32 (pc:Int)),.v (.int .u32 (a:Int)),.v (.int .u32 (b:Int))] (.v (.int .u32 ((Pa i.op i.imm pc a b:Nat):Int))):=
 .of_flat Tryz.func209 rfl rfl rfl rfl λ w=>Pb i.op i.rd i.rs1 i.rs2 i.imm pc a b w hi hp ha hb
theorem VS(op:Int)(a b:Nat)(ha:a<4294967296)(hb:b<4294967296):bY C0 210 [.v (.int .i64 op),.v (.int .u32 (a:Int)),.v (.int .u32 (b:Int))] (.v (.int .i64 (AB op a b))):=
 .of_flat Tryz.func210 rfl rfl rfl rfl λ w=>(Rw op a b w ha hb).mono λ _ _ ⟨h1,h2⟩=>⟨h1,h2 ▸ Below.refl _ _⟩
theorem OY(size:Int)(addr:Nat)(many:Int)(hs:size<9223372036854775808)(ha:addr<4294967296):bY C0 50 [.v (.int .i64 size),.v (.int .u32 (addr:Int)),.v (.int .i64 many)] (.v (.bool (oU size addr many))):=
 .of_flat Tryz.func50 rfl rfl rfl rfl λ w=>(Ph size addr many w hs ha).mono λ _ _ ⟨h1,h2⟩=>⟨h1,h2 ▸ Below.refl _ _⟩
theorem OZ(x n:Nat)(hx:x<4294967296)(hn:n≤4):bY C0 159 [.v (.int .u32 (x:Int)),.v (.int .i64 (n:Int))] (.tup [.v (.string (rP x n)),.v (.int .i64 0)]):=
 .of_tup Tryz.func159 rfl rfl rfl rfl λ w=>Pk x n w hx hn
theorem Xg(s:ByteArray)(hs:s.size≤4):bY C0 196 [.v (.string s)] (.tup [.v (.int .u32 ((joinTo s.data.toList s.size:Nat):Int)),.v (.int .i64 0)]):=
 .of_tup Tryz.func196 rfl rfl rfl rfl λ w=>(LB s w hs).mono λ _ _ ⟨h1,h2⟩=>⟨h1,h2 ▸ Below.refl _ _⟩
theorem Xh(op:Int)(s:ByteArray)(hs:s.size<9223372036854775808):bY C0 149 [.v (.int .i64 op),.v (.string s)] (.v (.int .u32 ((loadP op s:Nat):Int))):=
 .of_flat Tryz.func149 rfl rfl rfl rfl λ w=>Ry op s w hs
end
structure Req where
 kind:Int
 line:Nat
 left:Int
 data:ByteArray
structure Wy where
 line:Nat
 dirty:Bool
 data:ByteArray
structure Ca where
 ways:Int
 sets:List (List Wy)
structure Pt where
 addr:Nat
 data:ByteArray
structure Gs where
 pc:Nat
 next:Nat
structure Gu where
 slots:List Gs
 hist:Nat
 rets:List Nat
structure Ft where
 pc:Nat
 guess:Nat
structure Cf where
 mode:Int
 width:Int
 rob:Int
 queue:Int
 stores:Int
 slots:Int
 sets:Int
 ways:Int
 lat:List Int
 tables:Bool
 tape:List Nat
structure Ent where
 no:Int
 pc:Nat
 i:SI
 guess:Nat
 is:Int
 left:Int
 value:Nat
 next:Nat
 addr:Nat
 halt:Int
 took:Int
 known:Bool
 filled:Bool
structure Co where
 conf:Cf
 prog:List Nat
 cycle:Int
 r:Nat→Nat
 fetch:Nat
 stop:Bool
 fetched:List Ft
 rob:List Ent
 next:Int
 stores:List Pt
 data:Ca
 words:Ca
 bus:List Req
 asked:Int
 guessed:Int
 mem:ByteArray
 guess:Gu
 halt:Int
 retired:List Sp
def mH:ByteArray:=⟨#[]⟩
def Br:Ent:=⟨0,0,WK,0,0,0,0,0,0,0,0,false,false⟩
def MB:Req:=⟨0,0,0,mH⟩
def pC:Wy:=⟨0,false,mH⟩
def aV(n lo hi:Int):Int:=if (if n<lo then lo else n)>hi then hi else (if n<lo then lo else n)
def bB(c:Cf):Cf:=
 {mode:=aV c.mode 0 2,width:=aV c.width 1 2,rob:=aV c.rob 2 8,queue:=aV c.queue 1 4,stores:=aV c.stores 1 4,slots:=aV c.slots 2 6
  sets:=if aV c.sets 1 4=3 then 2 else aV c.sets 1 4,ways:=aV c.ways 1 2
  lat:=(c.lat.take 64).map λ n=>aV n 1 8,tables:=c.tables,tape:=c.tape.take 64}
def inI(n lo hi:Int):Bool:=decide (n≥lo)&&decide (n≤hi)
def uQ(c:Cf):Bool:=
 (c.lat.all λ n=>inI n 1 8)&&inI c.mode 0 2&&inI c.width 1 2&&inI c.rob 2 8&&inI c.queue 1 4&&inI c.stores 1 4&&inI c.slots 2 6&&inI c.sets 1 4&&decide (c.sets≠3)&&inI c.ways 1 2&&decide (c.lat.length≤64)&&decide (c.tape.length≤64)
def jM(c:Cf)(k:Int):Int:=
 match (bB c).lat with
 |[]=>1
 |l=>l.getD ((max k 0).toNat % l.length) 1
def wS(c:Cf)(k:Int)(pc:Nat):Nat:=
 match (bB c).tape with
 |[]=>up4 pc
 |l=>l.getD ((max k 0).toNat % l.length) 0
def lineOf(a:Nat):Nat:=a - a % 16
def wB(q:List Req)(kind:Int)(line:Nat)(left:Int)(data:ByteArray):List Req:=q++[⟨kind,line,max left 1,data⟩]
def dZ(q:List Req):List Req×Req×Bool:=
 match q with
 |[]=>([],MB,false)
 |x::r=>if wrap64 (x.left - 1)>0 then ({x with left:=wrap64 (x.left - 1)}::r,MB,false)else (r,{x with left:=wrap64 (x.left - 1)},true)
def CW(q:List Req)(line:Nat)(kind:Int):Bool:=q.any λ x=>decide (x.line=line)&&decide (x.kind=kind)
def kE(q:List Req):Nat:=(q.filter λ x=>decide (x.kind≠4)).length
def xQ(c:Ca)(line:Nat):Nat:=line / 16 % c.sets.length
def jN:List Wy→Nat→Option Nat
 |[],_=>none
 |w::l,line=>if w.line=line then some 0 else (jN l line).map (· +1)
def vR(c:Ca)(k:Nat)(set:List Wy):Bool:=
 decide ((set.length:Int)≤c.ways)&&(List.range set.length).all λ at_=>match set[at_]? with
  |some w=>decide (lineOf w.line=w.line)&&decide (xQ c w.line=k)&&(decide (w.data.size=0)||decide (w.data.size=16))&&(jN (set.take at_) w.line).isNone
  |none=>true
def fY(c:Ca):Bool:=
 (decide (c.sets.length=1)||decide (c.sets.length=2)||decide (c.sets.length=4))&&(decide (c.ways=1)||decide (c.ways=2))&&(List.range c.sets.length).all λ k=>match c.sets[k]? with
  |some s=>vR c k s
  |none=>true
def BT(sets ways:Int):Ca:=⟨aV ways 1 2,List.replicate (if aV sets 1 4=3 then 2 else aV sets 1 4).toNat []⟩
def eH{α:Type}(l:List α)(k:Nat):List α:=(match l[k]? with|some x=>[x]|none=>[])++l.take k++l.drop (k+1)
def oH(c:Ca)(k:Nat)(set:List Wy):Ca:=⟨c.ways,c.sets.set k set⟩
def bE(c:Ca)(line:Nat):Nat×Option Nat:=
 if fY c=true then (xQ c (lineOf line),jN ((c.sets[xQ c (lineOf line)]?).getD []) (lineOf line))else (0,none)
def oT(c:Ca)(k:Nat):List Wy:=(c.sets[k]?).getD []
def sK(c:Ca)(line:Nat):Ca:=
 match bE c line with
 |(k,some j)=>oH c k (eH (oT c k) j)
 |(_,none)=>c
def lG(d:ByteArray):ByteArray:=if d.size=16 then d else mH
def modHd{α:Type}(f:α→α):List α→List α
 |[]=>[]
 |x::l=>f x::l
def qF(c:Ca)(line:Nat)(data:ByteArray)(dirty:Bool):Ca×Wy×Bool:=
 if fY c=true then
  match bE c line with
  |(k,some j)=>(oH c k (modHd (λ w=>{w with data:=if (lG data).size=0 then w.data else lG data,dirty:=w.dirty||dirty}) (eH (oT c k) j)),pC,false)
  | (k,none)=>
   if ((oT c k).length:Int)=c.ways then
    (oH c k (⟨lineOf line,dirty,lG data⟩::(oT c k).dropLast),(oT c k).getLast?.getD pC,true)
   else (oH c k (⟨lineOf line,dirty,lG data⟩::oT c k),pC,false)
 else (c,pC,false)
def DW(d:ByteArray)(from_:Nat)(b:ByteArray):ByteArray:=d.extract 0 from_++b++d.extract (from_+b.size) d.size
def wC(c:Ca)(addr:Nat)(bytes:ByteArray):Ca×Bool:=
 match bE c addr with
 | (k,some j)=>
  match (oT c k)[j]? with
  |some w=>if w.data.size=0∨bytes.size+addr % 16>16 then (c,false)
   else (oH c k (modHd (λ w=>{w with data:=DW w.data (addr % 16) bytes,dirty:=true}) (eH (oT c k) j)),true)
  |none=>(c,false)
 |(_,none)=>(c,false)
def uR(c:Ca)(line:Nat):Ca:=
 match bE c line with
 |(k,some j)=>oH c k ((oT c k).modify j λ w=>{w with dirty:=false})
 |(_,none)=>c
def cP(c:Ca):Option Wy:=if fY c=true then c.sets.flatten.find? (·.dirty)else none
def Az(m:ByteArray)(p:Pt):ByteArray:=
 if p.addr<m.size then m.extract 0 p.addr++p.data.extract 0 (min p.data.size (m.size - p.addr))++m.extract (p.addr+min p.data.size (m.size - p.addr)) m.size else m
def qV(m:ByteArray)(l:List Pt):ByteArray:=l.foldl Az m
def fN(q:List Req):List Pt:=(q.filter λ x=>decide (x.kind=4)).map λ x=>⟨x.line,x.data⟩
def jO(q:List Req)(m:ByteArray):ByteArray:=qV m (fN q)
def Kc(c:Ca):List Pt:=c.sets.flatten.map λ w=>⟨w.line,w.data⟩
def Bs(c:Ca)(q:List Req)(m:ByteArray):ByteArray:=qV (jO q m) (Kc c)
def VP(stores:List Pt)(c:Ca)(q:List Req)(m:ByteArray):ByteArray:=qV (Bs c q m) stores
def EG(m:ByteArray)(line:Nat):ByteArray:=if lineOf line<m.size then m.extract (lineOf line) (lineOf line+min (m.size - lineOf line) 16)else mH
def VQ:Gu:=⟨List.replicate 8 ⟨0,0⟩,0,[]⟩
def rH(g:Gu):Bool:=decide (g.slots.length=8)&&decide (g.hist<8)&&decide (g.rets.length≤4)
def gL(g:Gu)(pc:Nat):Nat:=(pc / 4 ^^^ g.hist) % 8
def OW(i:SI):Bool:=(decide (i.op=3)||decide (i.op=4))&&decide (i.rd=1)
def EH(i:SI):Bool:=decide (i.op=4)&&decide (i.rd=0)&&decide (i.rs1=1)
def vS(g:Gu)(pc:Nat)(i:SI):Nat:=
 if rH g=true∧kindOf i.op=5 then
  if EH i=true∧0<g.rets.length then g.rets.getLast?.getD 0
  else match g.slots[gL g pc]? with
   |some s=>if s.pc=pc∧ ¬ (s.pc=0∧s.next=0)then s.next else up4 pc
   |none=>up4 pc
 else up4 pc
def dY(g:Gu)(pc next:Nat)(i:SI):Gu:=
 if rH g=true∧kindOf i.op=5 then
  {slots:=g.slots.set (gL g pc) ⟨pc,next⟩
   hist:=(2 * g.hist+(if next≠up4 pc then 1 else 0)) % 8
   rets:=if OW i=true then (if (g.rets++[up4 pc]).length>4 then (g.rets++[up4 pc]).drop 1 else g.rets++[up4 pc])
    else if EH i=true∧0<g.rets.length then g.rets.dropLast else g.rets}
 else g
@[reducible] def Ctx.at(C:Ctx)(s:Nat):Ctx:={C with fr:=s}
def Hn(r:AV):Nat→AV:=λ i=>match i with|0=>r|_=>.any
def XN(C:Ctx)(fn:Func)(Post:AV→AH→Prop)(s:Nat):AEx→ASt→Prop
 | .exit _,_=>False
 |_,st=>∃ rs,resA C st fn.results.toList=some rs∧GhostN ⟨Hn (Cz rs),st.h,st.n⟩ (λ stg=>∃ r h' σ,Post r h'∧keepB s σ (s+1)=true∧Weak stg ⟨Hn r,h',s+1⟩ σ)
def CF(h:AH):Nat→Bool
 |0=>true
 |k+1=>match h k with|some _=>CF h k|none=>false
theorem tL{h:AH}:∀ {s:Nat},CF h s=true→∀ x,x<s→h x≠none
 |0,_,x,hx=>absurd hx (dX _)
 | k+1,hf,x,hx=>by
  simp only[CF]at hf;split at hf
  ·rename_i b hb;rcases al_Nat_lt_or_ge x k with h|h
   ·exact tL hf x h
   ·have:x=k:=by omega
    subst this;rw[hb];simp
  ·cases hf
theorem IG:∀ {fr:Nat} {σ:Nat→Nat} {n:Nat},keepB fr σ n=true→∀ x,x<fr→σ x=x∧x<n
 |0,_,_,_,x,hx=>absurd hx (dX _)
 | k+1,σ,n,hf,x,hx=>by
  simp only[keepB]at hf;split at hf
  ·rename_i h1 h2;rcases al_Nat_lt_or_ge x k with h|h
   ·exact IG hf x h
   ·have:x=k:=by omega
    subst this;exact⟨aM h1,aR h2⟩
  ·cases hf
section
variable (S:Nat→Prop)(w:World)(β:Bt)
def OwnB(b:Nat):Prop:=∃ x l,β x=some l∧l.blk=b
structure FrP(s:Nat)(S':Nat→Prop)(w':World)(β':Bt):Prop where
 hS:∀ b,S b→S' b
 hE:Evo S w w'
 sz:w.heap.size≤w'.heap.size
 keep:∀ x l,x<s→β x=some l→β' x=some l
 own:∀ x l,β' x=some l→OwnB β l.blk∨w.heap.size≤l.blk
 nw:∀ b,S' b→S b∨w.heap.size≤b∨OwnB β b
 still:∀ b,b<w.heap.size→ ¬ OwnB β b→w'.heap[b]?=w.heap[b]?
theorem RA{S:Nat→Prop}{w w' w2:World}(h:Evo S w w')(e:w2.heap=w'.heap):Evo S w w2:=⟨λ b hb=>by rw[e];exact h.stable b hb,λ b cs t fr hb=>by rw[e];exact h.shape b cs t fr hb⟩
def EI(s:Nat):Inv s where
 p:=FrP S w β s
 mono:=by
  intro B S1 w1 β1 s1 S2 w2 β2 P K
  refine⟨λ b hb=>K.hS b (P.hS b hb),P.hE.trans P.hS K.hE,aL P.sz K.hB.size,λ x l hx hl=>K.hle _ _ (P.keep x l hx hl),λ x l hl=>?_,λ b hb=>?_,λ b hb hn=>?_⟩
  ·rcases K.hdom x l hl with h|⟨_,h|⟨y,k,h1,h2⟩⟩
   ·exact P.own x l h
   ·exact .inr (aL P.sz h)
   ·rw[←h2];exact P.own y k h1
  ·rcases K.hN b hb with h|⟨_,h|⟨y,k,h1,h2⟩⟩
   ·exact P.nw b h
   ·exact .inr (.inl (aL P.sz h))
   ·rcases P.own y k h1 with h|h
    ·exact .inr (.inr (h2 ▸ h))
    ·exact .inr (.inl (h2 ▸ h))
  ·refine (K.hO b (Nat.lt_of_lt_of_le hb P.sz) λ y k h1 h2=>?_).trans (P.still b hb hn)
   rcases P.own y k h1 with h|h
   ·exact hn (h2 ▸ h)
   ·rw[h2]at h;omega
 weak:=by
  intro S1 w1 β1 σ n P hk
  refine⟨P.hS,P.hE,P.sz,λ x l hx hl=>?_,λ x l hl=>?_,P.nw,P.still⟩
  ·obtain⟨h1,h2⟩:=IG hk x hx
   simp only[h2,kK,h1]
   exact P.keep x l hx hl
  ·by_cases hx:x<n
   ·rw[if_pos hx]at hl;exact P.own _ l hl
   ·rw[if_neg hx]at hl;cases hl
 frz:=by
  intro S1 w1 β1 x l P hl
  refine⟨λ b hb=>.inl (P.hS b hb),P.hE,P.sz,P.keep,P.own,λ b hb=>?_,P.still⟩
  rcases hb with hb|rfl
  ·exact P.nw b hb
  ·exact (P.own x l hl).elim (λ h=>.inr (.inr h)) λ h=>.inr (.inl h)
 heap:=by
  intro S1 w1 w2 β1 P e
  exact⟨P.hS,RA P.hE e,by rw[e];exact P.sz,P.keep,P.own,P.nw,λ b hb hn=>by rw[e];exact P.still b hb hn⟩
end
theorem HCall.intro{C:Ctx}{s:Nat}(hC:CtxOk (C.at s)){f:FuncId}{fn:Func}{body:Code}{args:List AV}{h:AH}{Post:AV→AH→Prop}(hf:C.P.funcs[f]?=some fn)(hb:fn.body=some body)(hnm:(fn.name== "runtime.NumGoroutine")=false)
  (hN:tQ fn.ntmps body=true) (hlen:Nat.ble args.length fn.ntmps=true) (hfull:CF h s=true) (hw:gC (C.at s) (bY (C.at s)) body ⟨argsT args,h,s⟩ (XN (C.at s) fn Post s)) (hdf:C.df=[]:=by rfl):pJ C.P C.G f args h s Post:=by
 refine⟨⟨fn,hf,by rw[hb];rfl,hnm⟩,λ B S w β vs H hdom hG hargs=>?_⟩;have hlen:=aR hlen;refine calls_of_wp hf hb ?_;have hB0:({w with heap:=w.heap.extract 0 B}:World).heap.size=B:=by
  show (w.heap.extract 0 B).size=B;rw[Array.size_extract];have:=H.big;omega
 have hget:∀ b,b<B→(w.heap.extract 0 B)[b]?=w.heap[b]? :=λ b hb=>by
  rw[mG,if_pos (by have:=H.big;omega),bU]
 have M0:SimD (C.at s) (EI S w β s) {w with heap:=w.heap.extract 0 B} S fn.ntmps (· <s) (argsT args) h {tmps:=vs.toArray++Array.replicate (fn.ntmps - vs.toArray.size) undef,defers:=[]} w S β:=by
  have hl:vs.length=args.length:=hargs.1.symm;refine⟨λ i=>?_,by rw[hB0];exact H,⟨rfl,rfl,rfl,by rw[hB0];exact H.big,λ b hb=>?_⟩,hdom,hdf.symm,by simp;omega,hG,λ _ h=>.inl h,⟨λ _ h=>h,Evo.refl _ _,aC _,λ _ _ _ h=>h,λ x l h=>.inl ⟨x,l,h,rfl⟩,λ _ h=>.inl h,λ _ _ _=>rfl⟩⟩
  ·rw[yP]
   cases ha:args[i]? with
   |none=>exact .any _
   | some x=>
    have hi:i<vs.length:=by rw[hl];exact (Db.1 ha).1
    have hv:vs[i]?=some vs[i]:=aA hi;have:(vs.toArray++Array.replicate (fn.ntmps - vs.toArray.size) undef).getD i undef=vs[i]:=by
     rw[aJ,dL (by simpa using hi),eK,hv];rfl
    rw[this];exact hargs.2 i x _ ha hv
  ·rw[hB0]at hb;exact (hget b hb).symm
 refine wp_mono (BE hC body hN ⟨argsT args,h,s⟩ _ hw _ w S β M0) ?_;rintro e a' w' ⟨e',st,S',β',rfl,hfin,M⟩;have fin:(∃ rs,resA (C.at s) st fn.results.toList=some rs∧GhostN ⟨Hn (Cz rs),st.h,st.n⟩ (λ stg=>∃ r h' σ,Post r h'∧keepB s σ (s+1)=true∧Weak stg ⟨Hn r,h',s+1⟩ σ))→a'.defers=[]∧∃ v,(results fn a'.tmps).run C.P w'=.ok v w'∧∃ v' S2 β2 r h',Post r h'∧Ending.returned v=.returned v'∧Rep S2 w' β2 r v'∧SimH B S2 w' β2 h'∧StepK B S w β s S2 w' β2:=by
  rintro ⟨rs,h1,stg,hgs,r,h',σ,hP,hk,hW⟩;obtain⟨t,hh,n⟩:=st;obtain⟨us,g1,g2⟩:=Hs hC M _ rs h1;have hret:Rep S' w' β' (Cz rs) (if h:us.toArray.size=1 then us.toArray[0]else .tuple us.toArray):=by
   match rs,us,g2 with
   |[],us,g2=>
    have:us=[]:=bF g2.1.symm;subst this
    exact .tup [] #[] rfl λ i a u p=>by simp at p
   |[x],us,g2=>
    match us,g2 with
    |[u],g2=>simpa [Cz]using g2.2 0 x u rfl rfl
    |[],g2=>exact absurd g2.1 (by simp)
    |_::_::_,g2=>exact absurd g2.1 (by simp)
   | x::y::zs,us,g2=>
    have hne: ¬ us.toArray.size=1:=by
     have:=g2.1;simp at this⊢;omega
    rw[dif_neg hne];exact .tup _ _ (by simpa using g2.1) λ i a u p q=>g2.2 i a u p (by simpa using q)
  refine⟨M.df.trans hdf,_,wX _ us g1 fn rfl,?_⟩;generalize hv:(if h:us.toArray.size=1 then us.toArray[0]else .tuple us.toArray)=v at hret⊢;have M1:SimD (C.at s) (EI S w β s) {w with heap:=w.heap.extract 0 B} S 1 (· <n) (Hn (Cz rs)) hh {tmps:= #[v],defers:=a'.defers} w' S' β':=by
   refine⟨λ i=>?_,M.H,M.B,M.dom,M.df,rfl,M.G,M.nw,M.iv⟩
   cases i with
   |zero=>exact hret
   |succ i=>exact .any _
  obtain⟨S2,M2⟩:=mV hgs M1;have M3:=oZ hW hk M2;have hr:=M3.T 0;refine⟨v,S2,_,r,h',hP,rfl,hr,by have:=M3.H;rwa [hB0]at this,?_⟩;have P:FrP S w β s S2 w' _:=M3.iv;have hfl:=tL hfull;refine⟨P.hS,P.hE,⟨M3.B.os,M3.B.tape,M3.B.output,P.sz,λ b hb=>?_⟩,λ x l hl=>P.keep x l (hdom x l hl) hl,λ x l hl=>?_,λ b hb=>?_,λ b hb hn=>P.still b hb λ⟨x,l,h1,h2⟩=>hn x l h1 h2⟩
  ·rw[M3.B.block b (by rw[hB0];exact hb)];exact hget b hb
  ·rcases al_Nat_lt_or_ge x s with hx|hx
   ·obtain⟨blk,hblk⟩:=CJ.1 (hfl x hx);obtain⟨l0,_,_,_,k1,_⟩:=H.own x blk hblk;have:=P.keep x l0 hx k1;rw[hl]at this;injection this with this;subst this;exact .inl k1
   ·have hx':x=s:=by
     have:=M3.dom x l hl;show x=s;have:x<s+1:=this;omega
    refine .inr ⟨hx',?_⟩;rcases P.own x l hl with ⟨y,k,h1,h2⟩|h
    ·exact .inr ⟨y,k,h1,h2⟩
    ·exact .inl h
  ·rcases P.nw b hb with h|h|⟨y,k,h1,h2⟩
   ·exact .inl h
   ·exact .inr ⟨aL H.big h,.inl h⟩
   ·rcases M3.nw b hb with h|h
    ·exact .inl h
    ·exact .inr ⟨by rwa [hB0]at h,.inr ⟨y,k,h1,h2⟩⟩
 cases e' with
 |normal=>exact fin hfin
 |ret=>exact fin hfin
 |exit i=>exact hfin.elim
theorem Kf{S:Nat→Prop}{w:World}{β:Bt}{a:AV}{v:Value}(hr:Rep S w β a v):∀ {β':Bt} {ρ:Nat→Nat},(∀ x l,β x=some l→β' (ρ x)=some l)→Rep S w β' (uK ρ a) v:=by
 induction hr with
 |v x=>intro β' ρ _;exact .v x
 |agg cs vs hl h1 h ih=>
  intro β' ρ hb;refine .agg _ vs (by rw[sR];exact hl) h1 λ i a u p q=>?_;rw[oY]at p;obtain⟨y,hy,rfl⟩:=EL.1 p
  exact ih i y u hy q hb
 |tup cs vs hl h ih=>
  intro β' ρ hb;refine .tup _ vs (by rw[sR];exact hl) λ i a u p q=>?_;rw[oY]at p;obtain⟨y,hy,rfl⟩:=EL.1 p
  exact ih i y u hy q hb
 |sl rs rows clip A c b o u hc hm hcl hrs hA hw h1 hr ih=>intro β' ρ _;exact .sl rs rows clip A c b o u hc hm hcl hrs hA hw h1 hr
 |dp rs col row b o u hrs hb hw h1 hr ih=>intro β' ρ _;exact .dp rs col row b o u hrs hb hw h1 hr
 |ptr s col l hl=>intro β' ρ hb;exact .ptr _ col l (hb _ _ hl)
 |ptr2 s row col l hl=>intro β' ρ hb;exact .ptr2 _ row col l (hb _ _ hl)
 |osl s lo len clip l A c hl hc hm hcl hA cs e fr hb room=>intro β' ρ hb';exact .osl _ lo len clip l A c (hb' _ _ hl) hc hm hcl hA cs e fr hb room
 | clo f first caps vs us hl h hl' h' ih ih'=>
  intro β' ρ hb;refine .clo f _ _ vs us (by rw[sR];exact hl) (λ i a u p q=>?_) (by rw[sR];exact hl') λ i a u p q=>?_
  ·rw[oY]at p;obtain⟨y,hy,rfl⟩:=EL.1 p;exact ih i y u hy q hb
  ·rw[oY]at p;obtain⟨y,hy,rfl⟩:=EL.1 p
   exact ih' i y u hy q hb
 |optT g a x hg h ih=>intro β' ρ hb;exact .optT g _ x hg (ih hb)
 |optF g a hg=>intro β' ρ _;exact .optF g _ hg
 |any x=>intro β' ρ _;exact .any x
theorem Pn{S:Nat→Prop}{w:World}{β β':Bt}{ρ:Nat→Nat}{l:Loc}{cs:Array Value}{blk:Blk}(k:Ai S w β l cs blk)(hb:∀ x l,β x=some l→β' (ρ x)=some l):Ai S w β' l cs (Ew ρ blk):=by
 cases blk with
 |box cells=>
  intro j a hj;rw[oY]at hj;obtain⟨y,hy,rfl⟩:=EL.1 hj;obtain⟨u,p1,p2,p3⟩:=k j y hy
  exact⟨u,p1,p2,Kf p3 hb⟩
 |arr rows rs=>exact k
 |row cells=>
  refine⟨k.1,λ j a hj=>?_⟩;rw[oY]at hj;obtain⟨y,hy,rfl⟩:=EL.1 hj;obtain⟨u,p1,p2,p3⟩:=k.2 j y hy;exact⟨u,p1,p2,Kf p3 hb⟩
theorem MH{S:Nat→Prop}{w:World}{β:Bt}{ρ:Nat→Nat}{n:Nat}{l:Loc}{cs:Array Value}{blk:Blk}(hb:tC n blk=true)(k:Ai S w β l cs (Ew ρ blk)):Ai S w (λ s=>if s<n then β (ρ s)else none) l cs blk:=by
 cases blk with
 |box cells=>
  intro j a hj;obtain⟨u,q1,q2,q3⟩:=k j (uK ρ a) (by rw[oY,hj];rfl)
  exact⟨u,q1,q2,BC _ _ _ (aC _) (rQ _ cells (by simpa [tC]using hb) j a hj) q3⟩
 |arr rows rs=>exact k
 |row cells=>
  refine⟨k.1,λ j a hj=>?_⟩;obtain⟨u,q1,q2,q3⟩:=k.2 j (uK ρ a) (by rw[oY,hj];rfl);exact⟨u,q1,q2,BC _ _ _ (aC _) (rQ _ cells (by simpa [tC]using hb) j a hj) q3⟩
def EJ(ρ:Nat→Nat)(s s2:Nat):Nat→Nat:=λ x=>match Nat.beq x s with|true=>s2|false=>ρ x
theorem uT(ρ:Nat→Nat)(s s2:Nat):EJ ρ s s2 s=s2:=by simp[EJ]
theorem qP(ρ:Nat→Nat){s s2 x:Nat}(h:x≠s):EJ ρ s s2 x=ρ x:=by
 unfold EJ;have:Nat.beq x s=false:=by rw[←eI];exact λ e=>h (aM e)
 rw[this]
theorem pJ.frame{P:Program}{G:Nat→Option (List AV)}{f:FuncId}{args:List AV}{h:AH}{s:Nat}{Post:AV→AH→Prop}(H:pJ P G f args h s Post)(ρ:Nat→Nat)(K:AH)(s2:Nat)(hfull:CF h s=true)(hlt:∀ x,h x≠none→x<s)
  (h1:∀ x blk,h x=some blk→ρ x<s2∧tC s blk=true∧K (ρ x)=some (Ew ρ blk)) (h2:∀ x y,x<s→y<s→ρ x=ρ y→x=y) (ha:pK s args=true)
  (Post':AV→AH→Prop) (hPost:∀ r h',Post r h'→∃ K',Post' (uK (EJ ρ s s2) r) K'∧∀ y blk,K' y=some blk→(∃ x blk0,h' x=some blk0∧y=EJ ρ s s2 x∧blk=Ew (EJ ρ s s2) blk0)∨(K y=some blk∧∀ x,x<s→ρ x≠y)):
  pJ P G f (Bz ρ args) K s2 Post':=by
 refine⟨H.1,λ B S w β vs HK hdom hG hargs=>?_⟩;have hfl:=tL hfull;have hβ:∀ x,x<s→∃ l,β (ρ x)=some l∧K (ρ x)≠none:=λ x hx=>by
  obtain⟨blk,hblk⟩:=CJ.1 (hfl x hx);obtain⟨_,_,e⟩:=h1 x blk hblk;obtain⟨l,_,_,_,k1,_⟩:=HK.own _ _ e;exact⟨l,k1,by rw[e];simp⟩
 have HS:SimH B S w (λ x=>if x<s then β (ρ x)else none) h:=by
  refine⟨λ x blk hx=>?_,λ x x' l l' hx hx' e e' hb=>?_,HK.lt,HK.big⟩
  ·obtain⟨_,b1,e⟩:=h1 x blk hx;have hxs:=hlt x (by rw[hx];simp);obtain⟨l,cs,t,fr,k1,k2,k3,k4,k5,k6⟩:=HK.own _ _ e;exact⟨l,cs,t,fr,by simp only[hxs,kK];exact k1,k2,k3,k4,k5,MH b1 k6⟩
  ·have g1:=hlt x hx;have g2:=hlt x' hx';rw[if_pos g1]at e;rw[if_pos g2]at e';exact h2 x x' g1 g2 (HK.inj _ _ _ _ (hβ x g1).choose_spec.2 (hβ x' g2).choose_spec.2 e e' hb)
 have hL:RepL S w (λ x=>if x<s then β (ρ x)else none) args vs:=by
  refine⟨by rw[←hargs.1,sR],λ i a u p q=>?_⟩;exact BC _ _ _ (aC _) (rQ _ args ha i a p) (hargs.2 i (uK ρ a) u (by rw[oY,p];rfl) q)
 refine (H.2 B S w _ vs HS (λ x l hl=>?_) hG hL).mono ?_
 ·by_cases hx:x<s
  ·exact hx
  ·rw[if_neg hx]at hl;cases hl
 rintro e w' ⟨v,S',βc,r,h',hP,rfl,hr,HS',KK⟩;obtain⟨K',hP',h3⟩:=hPost r h' hP;have old:∀ x l,(if x<s then β (ρ x)else none)=some l→x<s∧β (ρ x)=some l:=λ x l hl=>by
  by_cases hx:x<s
  ·rw[if_pos hx]at hl;exact⟨hx,hl⟩
  ·rw[if_neg hx]at hl;cases hl
 have hmap:∀ x l,βc x=some l→(λ y=>if y=s2 then βc s else β y) (EJ ρ s s2 x)=some l:=λ x l hl=>by
  rcases KK.hdom x l hl with h|⟨h,_⟩
  ·obtain⟨hx,hx'⟩:=old x l h;have:ρ x<s2:=hdom _ _ hx';rw[qP ρ (by omega)];show (if ρ x=s2 then βc s else β (ρ x))=some l;rw[if_neg (by omega)];exact hx'
  ·subst h;rw[uT];show (if s2=s2 then βc x else β s2)=some l;rw[if_pos rfl];exact hl
 have hle:Jk β (λ y=>if y=s2 then βc s else β y):=λ y l hl=>by
  have:=hdom y l hl;show (if y=s2 then βc s else β y)=some l;rw[if_neg (by omega)];exact hl
 have other:∀ y blk l,K y=some blk→β y=some l→(∀ x,x<s→ρ x≠y)→∀ x k,(if x<s then β (ρ x)else none)=some k→k.blk≠l.blk:=λ y blk l hy hl hne x k hk e=>by
  obtain⟨hx,hx'⟩:=old x k hk;exact hne x hx (HK.inj _ _ _ _ (hβ x hx).choose_spec.2 (by rw[hy];simp) hx' hl e)
 refine⟨v,S',λ y=>if y=s2 then βc s else β y,_,K',hP',rfl,Kf hr hmap,⟨λ y blk hy=>?_,λ y y' l l' hy hy' e1 e2 hb=>?_,HS'.lt,HS'.big⟩,⟨KK.hS,KK.hE,KK.hB,hle,λ y l hl=>?_,λ b hb=>?_,λ b hb hn=>KK.hO b hb λ x k hk=>?_⟩⟩
 ·rcases h3 y blk hy with ⟨x,blk0,e1,rfl,rfl⟩|⟨e1,hne⟩
  ·obtain⟨l,cs,t,fr,k1,k2,k3,k4,k5,k6⟩:=HS'.own x blk0 e1;exact⟨l,cs,t,fr,hmap x l k1,k2,k3,k4,k5,Pn k6 hmap⟩
  ·obtain⟨l,cs,t,fr,k1,k2,k3,k4,k5,k6⟩:=HK.own y blk e1;have hdiff:=other y blk l e1 k1 hne;have hlt:=fI k2;refine⟨l,cs,t,fr,hle _ _ k1,(KK.hO _ hlt hdiff).trans k2,k3,k4,λ hS=>?_,k6.mono KK.hS KK.hE hle⟩;rcases KK.hN _ hS with h|⟨_,h|⟨x,k,q1,q2⟩⟩
   ·exact k5 h
   ·omega
   ·exact hdiff x k q1 q2
 ·
  have sort:∀ y l,K' y≠none→(if y=s2 then βc s else β y)=some l→(∃ x,h' x≠none∧βc x=some l∧y=EJ ρ s s2 x)∨(K y≠none∧β y=some l∧∀ x,x<s→ρ x≠y):=λ y l hy hl=>by
   obtain⟨blk,hblk⟩:=CJ.1 hy;rcases h3 y blk hblk with ⟨x,blk0,e1,e2,_⟩|⟨e1,hne⟩
   ·obtain⟨l0,_,_,_,k1,_⟩:=HS'.own x blk0 e1;have:=hmap x l0 k1;rw[←e2]at this;rw[show (λ y=>if y=s2 then βc s else β y) y=(if y=s2 then βc s else β y)from rfl,hl]at this;injection this with this;subst this;exact .inl ⟨x,by rw[e1];simp,k1,e2⟩
   ·obtain⟨l0,_,_,_,k1,_⟩:=HK.own y blk e1;have hys:y<s2:=hdom y l0 k1;rw[if_neg (by omega)]at hl;exact .inr ⟨by rw[e1];simp,hl,hne⟩
  have mix:∀ y l x l',K y≠none→β y=some l→(∀ x,x<s→ρ x≠y)→h' x≠none→βc x=some l'→l.blk≠l'.blk:=λ y l x l' hy hl hne hx hl' e=>by
   obtain⟨blk,hblk⟩:=CJ.1 hy;have hdiff:=other y blk l hblk hl hne;obtain⟨l0,_,_,_,k1,k2,_⟩:=HK.own y blk hblk;rw[hl]at k1;injection k1 with k1;subst k1;have hlt:=fI k2;rcases KK.hdom x l' hl' with h|⟨_,h|⟨z,k,q1,q2⟩⟩
   ·exact hdiff x l' h e.symm
   ·omega
   ·exact hdiff z k q1 (q2.trans e.symm)
  rcases sort y l hy e1 with ⟨x,a1,a2,a3⟩|⟨a1,a2,a3⟩<;>rcases sort y' l' hy' e2 with ⟨x',b1,b2,b3⟩|⟨b1,b2,b3⟩
  ·rw[a3,b3,HS'.inj x x' l l' a1 b1 a2 b2 hb]
  ·exact absurd hb.symm (mix y' l' x l b1 b2 b3 a1 a2)
  ·exact absurd hb (mix y l x' l' a1 a2 a3 b1 b2)
  ·exact HK.inj y y' l l' a1 b1 a2 b2 hb
 ·have hl:(if y=s2 then βc s else β y)=some l:=hl;by_cases hy:y=s2
  ·rw[if_pos hy]at hl;refine .inr ⟨hy,?_⟩;rcases KK.hdom s l hl with h|⟨_,h|⟨z,k,q1,q2⟩⟩
   ·exact absurd (old s l h).1 (gX _)
   ·exact .inl h
   ·exact .inr ⟨_,k,(old z k q1).2,q2⟩
  ·rw[if_neg hy]at hl;exact .inl hl
 ·rcases KK.hN b hb with h|⟨hB,h|⟨x,k,q1,q2⟩⟩
  ·exact .inl h
  ·exact .inr ⟨hB,.inl h⟩
  ·exact .inr ⟨hB,.inr ⟨_,k,(old x k q1).2,q2⟩⟩
 ·exact hn _ k (old x k hk).2
theorem pJ.frame1{P:Program}{G:Nat→Option (List AV)}{f:FuncId}{args:List AV}{blk blk1:Blk}{r:AV}(H:pJ P G f args (heapF [(0,blk)]) 1 (λ x h'=>x=r∧h'=heapF [(0,blk1)]))(b:Nat)(K:AH)(s2:Nat)(hb:b<s2)
  (hbl:tC 1 blk=true) (hK:K b=some (Ew (λ _=>b) blk)) (ha:pK 1 args=true):
  pJ P G f (Bz (λ _=>b) args) K s2 (λ x h'=>x=uK (EJ (λ _=>b) 1 s2) r∧h'=upd K b (some (Ew (EJ (λ _=>b) 1 s2) blk1))):=by
 refine H.frame (λ _=>b) K s2 rfl (λ x hx=>?_) (λ x blk0 hx=>?_) (λ x y hx hy _=>by omega) ha _ λ r' h' hP=>?_
 ·cases x with
  |zero=>omega
  |succ x=>exact absurd rfl hx
 ·cases x with
  |zero=>injection hx with hx;subst hx;exact⟨hb,hbl,hK⟩
  |succ x=>cases hx
 ·obtain⟨rfl,rfl⟩:=hP;refine⟨_,⟨rfl,rfl⟩,λ y blk0 hy=>?_⟩;by_cases he:y=b
  ·subst he;rw[dA]at hy;injection hy with hy;exact .inl ⟨0,blk1,rfl,rfl,hy.symm⟩
  ·rw[cE _ _ he]at hy;exact .inr ⟨hy,λ x hx e=>he e.symm⟩
theorem CtxOk.at{C:Ctx}{s:Nat}(h:CtxOk C):CtxOk (C.at s):=⟨h.ty,h.mixed,h.hH⟩
theorem Kg{C:Ctx}{R:FuncId→List AV→AV→Prop}{Q:AEx→ASt→Prop}{κ:Type}(S:κ→ASt)(G:κ→Prop){a b:Code}{st:ASt}(ka:gC C R a st (λ e st'=>match e with| .normal=>GhostN st' (λ st''=>∃ k σ,Weak st'' (S k) σ∧keepB C.fr σ (S k).n=true∧G k)|e=>Q e st'))(kb:∀ k,G k→gC C R b (S k) Q):gC C R (.seq a b) st Q:=
 WI S G ka kb kI
theorem oX{C:Ctx}{fn:Func}{Post:AV→AH→Prop}{s:Nat}{st:ASt}{rs:List AV}(h1:resA C st fn.results.toList=some rs){r:AV}{h':AH}{σ:Nat→Nat}(hP:Post r h')(hk:keepB s σ (s+1)=true)(hW:Weak ⟨Hn (Cz rs),st.h,st.n⟩ ⟨Hn r,h',s+1⟩ σ):
  ∃ rs,resA C st fn.results.toList=some rs∧GhostN ⟨Hn (Cz rs),st.h,st.n⟩ (λ stg=>∃ r h' σ,Post r h'∧keepB s σ (s+1)=true∧Weak stg ⟨Hn r,h',s+1⟩ σ):=
 ⟨rs,h1,.mk _ (.refl _) ⟨r,h',σ,hP,hk,hW⟩⟩
theorem cF{st:ASt}{x r:AV}{hp:List (Nat×Blk)}{n:Nat}(σ:Nat→Nat)(hx:x=uK σ r)(hb:mW n r=true)(hh:WH ⟨Hn x,st.h,st.n⟩ n σ hp)(hi:EM ((hp.map (·.1)).map σ)=true):Weak ⟨Hn x,st.h,st.n⟩ ⟨Hn r,heapF hp,n⟩ σ:=by
 have W:=Weak.of_lists (st:=⟨Hn x,st.h,st.n⟩) (l:=[(0,r)]) (hp:=hp) (n:=n) σ ⟨⟨hx,hb⟩,trivial⟩ hh hi;refine⟨λ i=>?_,W.h,W.inj⟩;have:=W.t i
 cases i with
 |zero=>exact this
 |succ i=>exact .inl rfl
def LeL(fz:Fz):List AV→List AV→Prop
 |[],[]=>True
 |a::as_,b::bs=>LeZ fz a b∧LeL fz as_ bs
 |_,_=>False
theorem LeL.get{fz:Fz}:∀ {as_ bs:List AV},LeL fz as_ bs→as_.length=bs.length∧∀ (i:Nat) a d,as_[i]?=some a→bs[i]?=some d→LeZ fz a d
 |[],[],_=>⟨rfl,λ i a d h=>by simp at h⟩
 |a::as_,b::bs,h=>by
  obtain⟨h1,h2⟩:=LeL.get h.2;refine⟨by simp[h1],λ i x y hx hy=>?_⟩
  cases i with
  |zero=>simp at hx hy;subst hx hy;exact h.1
  |succ i=>exact h2 i x y (by simpa using hx) (by simpa using hy)
 |[],_::_,h=>h.elim
 |_::_,[],h=>h.elim
theorem LeB.boxL{fz:Fz}{as_ bs:List AV}(h:LeL fz as_ bs):LeB fz (.box as_) (.box bs):=.box as_ bs h.get.1 h.get.2
def GT(st:ASt)(fz:Fz):List (Nat×AV)→Prop
 |[]=>True
 |(i,x)::l=>LeZ fz (st.t i) x∧GT st fz l
def GH(st:ASt)(fz:Fz):List (Nat×Blk)→Prop
 |[]=>True
 |(i,x)::l=>((match fz with|some (b,_,_)=>Nat.beq i b=false|none=>True)∧∃ b0,st.h i=some b0∧LeB fz b0 x)∧GH st fz l
theorem Ghost.of_lists{st:ASt}{fz:Fz}{l:List (Nat×AV)}{hp:List (Nat×Blk)}(hb:match fz with|some (x,rs,rows)=>st.h x=some (.arr rows rs)|none=>True)(ht:GT st fz l)(hh:GH st fz hp):Ghost st ⟨cI l,heapF hp,st.n⟩ fz:=by
 refine⟨λ x rs rows h=>(by subst h;exact hb),rfl,λ i=>?_,λ s blk hs=>?_⟩
 ·clear hh hb
  induction l with
  |nil=>exact .any _
  |cons p l ih=>
   obtain⟨j,x⟩:=p;show LeZ fz _ (cI _ _);simp only[cI]
   cases hq:Nat.beq j i with
   |true=>rw[←aM hq];exact ht.1
   |false=>exact ih ht.2
 ·clear ht hb
  induction hp with
  |nil=>cases hs
  | cons p hp ih=>
   obtain⟨j,x⟩:=p
   change heapF _ _=_ at hs
   simp only[heapF]at hs
   cases hq:Nat.beq j s with
   |true=>
    rw[hq]at hs;injection hs with hs;subst hs;rw[←aM hq];refine⟨λ x rs rows hz e=>?_,hh.1.2⟩;have:=hh.1.1;subst hz;simp only at this;rw[e]at this
    simp at this
   |false=>rw[hq]at hs;exact ih hh.2 hs
end Go.Proofs.YtlhofpglndhfaaaGreatDoor
